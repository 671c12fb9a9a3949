/- The document's three kinds of runes (nothing, great, blank): which runes each takes. -/
import Derived.Test.YtpbbcjkbeodeiaaDoorPl
import Derived.Test.YtpbbcjkbeodeiaaDoorProg
import Derived.Test.YtpbbcjkbeodeiaaDoorRunes
import Derived.WalkKit
import Derived.BigCall
import Derived.BigQuiet
import Derived.BigGuardPart
import Derived.Outline
set_option linter.unusedVariables false
set_option linter.unusedSimpArgs false
namespace Go.Proofs.YtpbbcjkbeodeiaaDoor
open Go.RowKit
set_option maxHeartbeats 8000000 in
set_option maxRecDepth 100000 in
theorem nothing_any (c : Int) (w : World) (h0 : 0 ≤ c) (h1 : c ≤ 1114143) : Calls Tryd.prog 44 #[.int .i32 c] w fun e w' => e = .returned (.bool (decide (Tx.nothing c))) ∧ w = w' := by
  go_enter Tryd.func44, Tryd.ntmps44
  go_wp2
  all_goals (go_ret; refine ⟨congrArg (fun z => Ending.returned (.bool z)) ?_, rfl⟩)
  all_goals (rw [Bool.eq_iff_iff]; try simp only [decide_eq_true_eq, beq_iff_eq, bne_iff_ne, ne_eq, true_iff, false_iff, Bool.false_eq_true, iff_true]; try unfold Tx.nothing; omega)
set_option maxHeartbeats 8000000 in
set_option maxRecDepth 100000 in
theorem great_any (c : Int) (w : World) (h0 : 0 ≤ c) (h1 : c ≤ 1114143) : Calls Tryd.prog 45 #[.int .i32 c] w fun e w' => e = .returned (.bool (decide (Tx.great c))) ∧ w = w' := by
  go_enter Tryd.func45, Tryd.ntmps45
  go_wp2
  all_goals (go_ret; refine ⟨congrArg (fun z => Ending.returned (.bool z)) ?_, rfl⟩)
  all_goals (rw [Bool.eq_iff_iff]; try simp only [decide_eq_true_eq, beq_iff_eq, bne_iff_ne, ne_eq, true_iff, false_iff, Bool.false_eq_true, iff_true]; try unfold Tx.great; omega)
set_option maxHeartbeats 8000000 in
set_option maxRecDepth 100000 in
theorem blank_any (c : Int) (w : World) (h0 : 0 ≤ c) (h1 : c ≤ 1114143) : Calls Tryd.prog 46 #[.int .i32 c] w fun e w' => e = .returned (.bool (decide (Tx.blank c))) ∧ w = w' := by
  go_enter Tryd.func46, Tryd.ntmps46
  go_wp2
  all_goals (go_ret; refine ⟨congrArg (fun z => Ending.returned (.bool z)) ?_, rfl⟩)
  all_goals (rw [Bool.eq_iff_iff]; try simp only [decide_eq_true_eq, beq_iff_eq, bne_iff_ne, ne_eq, true_iff, false_iff, Bool.false_eq_true, iff_true]; try unfold Tx.blank; omega)
end Go.Proofs.YtpbbcjkbeodeiaaDoor
