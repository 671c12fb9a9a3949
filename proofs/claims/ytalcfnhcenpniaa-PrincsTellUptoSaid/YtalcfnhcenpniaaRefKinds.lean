/- The document's three kinds of runes (nothing, great, blank): which runes each takes. -/
import Derived.Test.YtalcfnhcenpniaaPl
import Derived.Test.YtalcfnhcenpniaaProg
import Derived.Test.YtalcfnhcenpniaaRunes
import Derived.WalkKit
import Derived.BigCall
import Derived.BigQuiet
import Derived.BigGuardPart
import Derived.Outline
set_option linter.unusedVariables false
set_option linter.unusedSimpArgs false
namespace Go.Proofs.Ytalcfnhcenpniaa
open Go.RowKit
set_option maxHeartbeats 8000000 in
set_option maxRecDepth 100000 in
theorem nothing_any (c : Int) (w : World) (h0 : 0 ≤ c) (h1 : c ≤ 1114143) : Calls Try.prog 66 #[.int .i32 c] w fun e w' => e = .returned (.bool (decide (Tx.nothing c))) ∧ w = w' := by
  go_enter Try.func66, Try.ntmps66
  go_wp2
  all_goals (go_ret; refine ⟨congrArg (fun z => Ending.returned (.bool z)) ?_, rfl⟩)
  all_goals (rw [Bool.eq_iff_iff]; try simp only [decide_eq_true_eq, beq_iff_eq, bne_iff_ne, ne_eq, true_iff, false_iff, Bool.false_eq_true, iff_true]; try unfold Tx.nothing; omega)
set_option maxHeartbeats 8000000 in
set_option maxRecDepth 100000 in
theorem great_any (c : Int) (w : World) (h0 : 0 ≤ c) (h1 : c ≤ 1114143) : Calls Try.prog 67 #[.int .i32 c] w fun e w' => e = .returned (.bool (decide (Tx.great c))) ∧ w = w' := by
  go_enter Try.func67, Try.ntmps67
  go_wp2
  all_goals (go_ret; refine ⟨congrArg (fun z => Ending.returned (.bool z)) ?_, rfl⟩)
  all_goals (rw [Bool.eq_iff_iff]; try simp only [decide_eq_true_eq, beq_iff_eq, bne_iff_ne, ne_eq, true_iff, false_iff, Bool.false_eq_true, iff_true]; try unfold Tx.great; omega)
set_option maxHeartbeats 8000000 in
set_option maxRecDepth 100000 in
theorem blank_any (c : Int) (w : World) (h0 : 0 ≤ c) (h1 : c ≤ 1114143) : Calls Try.prog 68 #[.int .i32 c] w fun e w' => e = .returned (.bool (decide (Tx.blank c))) ∧ w = w' := by
  go_enter Try.func68, Try.ntmps68
  go_wp2
  all_goals (go_ret; refine ⟨congrArg (fun z => Ending.returned (.bool z)) ?_, rfl⟩)
  all_goals (rw [Bool.eq_iff_iff]; try simp only [decide_eq_true_eq, beq_iff_eq, bne_iff_ne, ne_eq, true_iff, false_iff, Bool.false_eq_true, iff_true]; try unfold Tx.blank; omega)
end Go.Proofs.Ytalcfnhcenpniaa
