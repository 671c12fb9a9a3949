/- texts.kind at every rune: what it is, prepared. -/
import Derived.Test.YtpbbcjkbeodeiaaDoorPl
import Derived.Test.YtpbbcjkbeodeiaaDoorProg
import Derived.Test.YtpbbcjkbeodeiaaDoorRunes
import Derived.WalkKit
import Derived.BigCall
import Derived.BigQuiet
import Derived.BigGuardPart
set_option linter.unusedVariables false
set_option linter.unusedSimpArgs false
namespace Go.Proofs.YtpbbcjkbeodeiaaDoor
open Go.RowKit
theorem kind_nothing {c : Int} (h : Tx.nothing c) : Tx.kind c = -1 := by unfold Tx.kind; rw [if_pos h]
theorem kind_blank {c : Int} (h : Tx.blank c) : Tx.kind c = 32 := by
  unfold Tx.kind
  rw [if_neg (by unfold Tx.nothing; unfold Tx.blank at h; omega), if_pos h]
theorem kind_great {c : Int} (h : Tx.great c) : Tx.kind c = c + 32 := by
  unfold Tx.kind
  rw [if_neg (by unfold Tx.nothing; unfold Tx.great at h; omega), if_neg (by unfold Tx.blank; unfold Tx.great at h; omega), if_pos h]
theorem kind_else {c : Int} (h1 : ¬ Tx.nothing c) (h2 : ¬ Tx.blank c) (h3 : ¬ Tx.great c) : Tx.kind c = c := by
  unfold Tx.kind
  rw [if_neg h1, if_neg h2, if_neg h3]
set_option maxHeartbeats 8000000 in
set_option maxRecDepth 100000 in
theorem kind_any (c : Int) (w : World) (h0 : 0 ≤ c) (h1 : c ≤ 1114111) : Calls Tryd.prog 66 #[.int .i32 c] w fun e w' => e = .returned (.int .i32 (Tx.kind c)) ∧ w = w' := by
  go_enter Tryd.func66, Tryd.ntmps66
  go_wp2
  all_goals (go_ret; refine ⟨congrArg (fun z => Ending.returned (.int .i32 z)) ?_, rfl⟩)
  all_goals (try simp only [beq_iff_eq, beq_eq_false_iff_ne, bne_iff_ne, bne_eq_false_iff_eq, ne_eq] at *)
  all_goals first
    | exact (kind_nothing (by unfold Tx.nothing; omega)).symm
    | exact (kind_blank (by unfold Tx.blank; omega)).symm
    | exact (kind_great (by unfold Tx.great; omega)).symm
    | (rw [kind_else (by unfold Tx.nothing; omega) (by unfold Tx.blank; omega) (by unfold Tx.great; omega)]; done)
    | (by_cases e : c = 32
       · rw [kind_blank (by unfold Tx.blank; omega), e]
       · rw [kind_else (by unfold Tx.nothing; omega) (by unfold Tx.blank; omega) (by unfold Tx.great; omega)])
end Go.Proofs.YtpbbcjkbeodeiaaDoor
