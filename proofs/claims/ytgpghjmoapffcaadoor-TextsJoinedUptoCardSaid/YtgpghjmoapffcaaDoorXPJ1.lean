-- printed by wip/xprint.py (a scratch copy of the kit's print, with contracts by hand)
import Derived.Test.YtgpghjmoapffcaaDoorXPJ0
namespace Go.Proofs.YtgpghjmoapffcaaDoor.XPJ
open Go.RowKit Go.Proofs.YtgpghjmoapffcaaDoorW.PrintWords Go.Proofs.YtgpghjmoapffcaaDoorW.PrintLast Go.Proofs.YtgpghjmoapffcaaDoorW.PrintMore
attribute [local go_sem] max2_int min2_int max_two min_two max_three min_three max_four min_four   -- for this text's walks alone
set_option linter.unusedVariables false
set_option linter.unusedSimpArgs false

/-! ### texts_Right: function 13 (by hand) -/
def texts_Right.f (a0 : Int) (l1 : List Int) : Option (Bool) := if a0 = 22 then some (Rt.allp Rt.ia (strOfNums l1) 0) else if a0 = 27 then some (Rt.allp Rt.ge (strOfNums l1) 0) else none
theorem texts_Right.calls (a0 : Int) (A1 : Option Addr) (c1 : Nat) (l1 : List Int) (r : Bool) (w : World) (hr1 : Kd.C (Kd.int .u8) w A1 l1.length l1) (hc1 : l1.length ≤ c1) (h : texts_Right.f a0 l1 = some r) :
    Calls Tryd.prog 13 #[.int .u8 a0, .slice A1 l1.length c1] w fun e w' => e = .returned (.bool r) ∧ Below w.heap.size w w' := by
  unfold texts_Right.f at h
  split at h
  · rename_i h22
    subst h22
    cases h
    exact Rt.walk22 A1 c1 l1 w hr1
  · split at h
    · rename_i h27
      subst h27
      cases h
      exact Rt.walk27 A1 c1 l1 w hr1
    · cases h

/-! ### texts_Prep: function 15 (by hand) -/
def texts_Prep.f (a0 : ByteArray) : Option ByteArray := if a0.size ≤ 8796093022208 then some ⟨(Tx.prep a0.data.toList).toArray⟩ else none
theorem texts_Prep.calls (a0 : ByteArray) (r : ByteArray) (w : World) (h : texts_Prep.f a0 = some r) :
    Calls Tryd.prog 15 #[.string a0] w fun e w' => e = .returned (.string r) ∧ Below w.heap.size w w' := by
  unfold texts_Prep.f at h
  split at h
  · rename_i hs
    cases h
    exact prep_any a0 w hs
  · cases h

/-! ### texts_civil: function 36 -/
def texts_civil.f (a0 : Int) : Option (Int × Int × Int) := if (wrap64 ((Int.tmod (wrap64 (Int.tdiv (wrap64 ((wrap64 (5 * (wrap64 ((Int.tmod (wrap64 (a0 + 719468)) 146097) - (wrap64 ((wrap64 ((wrap64 (365 * (wrap64 (Int.tdiv (wrap64 ((wrap64 ((wrap64 ((Int.tmod (wrap64 (a0 + 719468)) 146097) - (wrap64 (Int.tdiv (Int.tmod (wrap64 (a0 + 719468)) 146097) 1460)))) + (wrap64 (Int.tdiv (Int.tmod (wrap64 (a0 + 719468)) 146097) 36524)))) - (wrap64 (Int.tdiv (Int.tmod (wrap64 (a0 + 719468)) 146097) 146096)))) 365)))) + (wrap64 (Int.tdiv (wrap64 (Int.tdiv (wrap64 ((wrap64 ((wrap64 ((Int.tmod (wrap64 (a0 + 719468)) 146097) - (wrap64 (Int.tdiv (Int.tmod (wrap64 (a0 + 719468)) 146097) 1460)))) + (wrap64 (Int.tdiv (Int.tmod (wrap64 (a0 + 719468)) 146097) 36524)))) - (wrap64 (Int.tdiv (Int.tmod (wrap64 (a0 + 719468)) 146097) 146096)))) 365)) 4)))) - (wrap64 (Int.tdiv (wrap64 (Int.tdiv (wrap64 ((wrap64 ((wrap64 ((Int.tmod (wrap64 (a0 + 719468)) 146097) - (wrap64 (Int.tdiv (Int.tmod (wrap64 (a0 + 719468)) 146097) 1460)))) + (wrap64 (Int.tdiv (Int.tmod (wrap64 (a0 + 719468)) 146097) 36524)))) - (wrap64 (Int.tdiv (Int.tmod (wrap64 (a0 + 719468)) 146097) 146096)))) 365)) 100)))))))) + 2)) 153)) 12) + 3)) > 12 then (some (wrap64 ((wrap64 ((wrap64 ((wrap64 (Int.tdiv (wrap64 (a0 + 719468)) 146097)) * 400)) + (wrap64 (Int.tdiv (wrap64 ((wrap64 ((wrap64 ((Int.tmod (wrap64 (a0 + 719468)) 146097) - (wrap64 (Int.tdiv (Int.tmod (wrap64 (a0 + 719468)) 146097) 1460)))) + (wrap64 (Int.tdiv (Int.tmod (wrap64 (a0 + 719468)) 146097) 36524)))) - (wrap64 (Int.tdiv (Int.tmod (wrap64 (a0 + 719468)) 146097) 146096)))) 365)))) + 1), wrap64 ((wrap64 ((Int.tmod (wrap64 (Int.tdiv (wrap64 ((wrap64 (5 * (wrap64 ((Int.tmod (wrap64 (a0 + 719468)) 146097) - (wrap64 ((wrap64 ((wrap64 (365 * (wrap64 (Int.tdiv (wrap64 ((wrap64 ((wrap64 ((Int.tmod (wrap64 (a0 + 719468)) 146097) - (wrap64 (Int.tdiv (Int.tmod (wrap64 (a0 + 719468)) 146097) 1460)))) + (wrap64 (Int.tdiv (Int.tmod (wrap64 (a0 + 719468)) 146097) 36524)))) - (wrap64 (Int.tdiv (Int.tmod (wrap64 (a0 + 719468)) 146097) 146096)))) 365)))) + (wrap64 (Int.tdiv (wrap64 (Int.tdiv (wrap64 ((wrap64 ((wrap64 ((Int.tmod (wrap64 (a0 + 719468)) 146097) - (wrap64 (Int.tdiv (Int.tmod (wrap64 (a0 + 719468)) 146097) 1460)))) + (wrap64 (Int.tdiv (Int.tmod (wrap64 (a0 + 719468)) 146097) 36524)))) - (wrap64 (Int.tdiv (Int.tmod (wrap64 (a0 + 719468)) 146097) 146096)))) 365)) 4)))) - (wrap64 (Int.tdiv (wrap64 (Int.tdiv (wrap64 ((wrap64 ((wrap64 ((Int.tmod (wrap64 (a0 + 719468)) 146097) - (wrap64 (Int.tdiv (Int.tmod (wrap64 (a0 + 719468)) 146097) 1460)))) + (wrap64 (Int.tdiv (Int.tmod (wrap64 (a0 + 719468)) 146097) 36524)))) - (wrap64 (Int.tdiv (Int.tmod (wrap64 (a0 + 719468)) 146097) 146096)))) 365)) 100)))))))) + 2)) 153)) 12) + 3)) - 12), wrap64 ((wrap64 ((wrap64 ((Int.tmod (wrap64 (a0 + 719468)) 146097) - (wrap64 ((wrap64 ((wrap64 (365 * (wrap64 (Int.tdiv (wrap64 ((wrap64 ((wrap64 ((Int.tmod (wrap64 (a0 + 719468)) 146097) - (wrap64 (Int.tdiv (Int.tmod (wrap64 (a0 + 719468)) 146097) 1460)))) + (wrap64 (Int.tdiv (Int.tmod (wrap64 (a0 + 719468)) 146097) 36524)))) - (wrap64 (Int.tdiv (Int.tmod (wrap64 (a0 + 719468)) 146097) 146096)))) 365)))) + (wrap64 (Int.tdiv (wrap64 (Int.tdiv (wrap64 ((wrap64 ((wrap64 ((Int.tmod (wrap64 (a0 + 719468)) 146097) - (wrap64 (Int.tdiv (Int.tmod (wrap64 (a0 + 719468)) 146097) 1460)))) + (wrap64 (Int.tdiv (Int.tmod (wrap64 (a0 + 719468)) 146097) 36524)))) - (wrap64 (Int.tdiv (Int.tmod (wrap64 (a0 + 719468)) 146097) 146096)))) 365)) 4)))) - (wrap64 (Int.tdiv (wrap64 (Int.tdiv (wrap64 ((wrap64 ((wrap64 ((Int.tmod (wrap64 (a0 + 719468)) 146097) - (wrap64 (Int.tdiv (Int.tmod (wrap64 (a0 + 719468)) 146097) 1460)))) + (wrap64 (Int.tdiv (Int.tmod (wrap64 (a0 + 719468)) 146097) 36524)))) - (wrap64 (Int.tdiv (Int.tmod (wrap64 (a0 + 719468)) 146097) 146096)))) 365)) 100)))))) - (wrap64 (Int.tdiv (wrap64 ((wrap64 (153 * (wrap64 (Int.tdiv (wrap64 ((wrap64 (5 * (wrap64 ((Int.tmod (wrap64 (a0 + 719468)) 146097) - (wrap64 ((wrap64 ((wrap64 (365 * (wrap64 (Int.tdiv (wrap64 ((wrap64 ((wrap64 ((Int.tmod (wrap64 (a0 + 719468)) 146097) - (wrap64 (Int.tdiv (Int.tmod (wrap64 (a0 + 719468)) 146097) 1460)))) + (wrap64 (Int.tdiv (Int.tmod (wrap64 (a0 + 719468)) 146097) 36524)))) - (wrap64 (Int.tdiv (Int.tmod (wrap64 (a0 + 719468)) 146097) 146096)))) 365)))) + (wrap64 (Int.tdiv (wrap64 (Int.tdiv (wrap64 ((wrap64 ((wrap64 ((Int.tmod (wrap64 (a0 + 719468)) 146097) - (wrap64 (Int.tdiv (Int.tmod (wrap64 (a0 + 719468)) 146097) 1460)))) + (wrap64 (Int.tdiv (Int.tmod (wrap64 (a0 + 719468)) 146097) 36524)))) - (wrap64 (Int.tdiv (Int.tmod (wrap64 (a0 + 719468)) 146097) 146096)))) 365)) 4)))) - (wrap64 (Int.tdiv (wrap64 (Int.tdiv (wrap64 ((wrap64 ((wrap64 ((Int.tmod (wrap64 (a0 + 719468)) 146097) - (wrap64 (Int.tdiv (Int.tmod (wrap64 (a0 + 719468)) 146097) 1460)))) + (wrap64 (Int.tdiv (Int.tmod (wrap64 (a0 + 719468)) 146097) 36524)))) - (wrap64 (Int.tdiv (Int.tmod (wrap64 (a0 + 719468)) 146097) 146096)))) 365)) 100)))))))) + 2)) 153)))) + 2)) 5)))) + 1))) else (some (wrap64 ((wrap64 ((wrap64 (Int.tdiv (wrap64 (a0 + 719468)) 146097)) * 400)) + (wrap64 (Int.tdiv (wrap64 ((wrap64 ((wrap64 ((Int.tmod (wrap64 (a0 + 719468)) 146097) - (wrap64 (Int.tdiv (Int.tmod (wrap64 (a0 + 719468)) 146097) 1460)))) + (wrap64 (Int.tdiv (Int.tmod (wrap64 (a0 + 719468)) 146097) 36524)))) - (wrap64 (Int.tdiv (Int.tmod (wrap64 (a0 + 719468)) 146097) 146096)))) 365))), wrap64 ((Int.tmod (wrap64 (Int.tdiv (wrap64 ((wrap64 (5 * (wrap64 ((Int.tmod (wrap64 (a0 + 719468)) 146097) - (wrap64 ((wrap64 ((wrap64 (365 * (wrap64 (Int.tdiv (wrap64 ((wrap64 ((wrap64 ((Int.tmod (wrap64 (a0 + 719468)) 146097) - (wrap64 (Int.tdiv (Int.tmod (wrap64 (a0 + 719468)) 146097) 1460)))) + (wrap64 (Int.tdiv (Int.tmod (wrap64 (a0 + 719468)) 146097) 36524)))) - (wrap64 (Int.tdiv (Int.tmod (wrap64 (a0 + 719468)) 146097) 146096)))) 365)))) + (wrap64 (Int.tdiv (wrap64 (Int.tdiv (wrap64 ((wrap64 ((wrap64 ((Int.tmod (wrap64 (a0 + 719468)) 146097) - (wrap64 (Int.tdiv (Int.tmod (wrap64 (a0 + 719468)) 146097) 1460)))) + (wrap64 (Int.tdiv (Int.tmod (wrap64 (a0 + 719468)) 146097) 36524)))) - (wrap64 (Int.tdiv (Int.tmod (wrap64 (a0 + 719468)) 146097) 146096)))) 365)) 4)))) - (wrap64 (Int.tdiv (wrap64 (Int.tdiv (wrap64 ((wrap64 ((wrap64 ((Int.tmod (wrap64 (a0 + 719468)) 146097) - (wrap64 (Int.tdiv (Int.tmod (wrap64 (a0 + 719468)) 146097) 1460)))) + (wrap64 (Int.tdiv (Int.tmod (wrap64 (a0 + 719468)) 146097) 36524)))) - (wrap64 (Int.tdiv (Int.tmod (wrap64 (a0 + 719468)) 146097) 146096)))) 365)) 100)))))))) + 2)) 153)) 12) + 3), wrap64 ((wrap64 ((wrap64 ((Int.tmod (wrap64 (a0 + 719468)) 146097) - (wrap64 ((wrap64 ((wrap64 (365 * (wrap64 (Int.tdiv (wrap64 ((wrap64 ((wrap64 ((Int.tmod (wrap64 (a0 + 719468)) 146097) - (wrap64 (Int.tdiv (Int.tmod (wrap64 (a0 + 719468)) 146097) 1460)))) + (wrap64 (Int.tdiv (Int.tmod (wrap64 (a0 + 719468)) 146097) 36524)))) - (wrap64 (Int.tdiv (Int.tmod (wrap64 (a0 + 719468)) 146097) 146096)))) 365)))) + (wrap64 (Int.tdiv (wrap64 (Int.tdiv (wrap64 ((wrap64 ((wrap64 ((Int.tmod (wrap64 (a0 + 719468)) 146097) - (wrap64 (Int.tdiv (Int.tmod (wrap64 (a0 + 719468)) 146097) 1460)))) + (wrap64 (Int.tdiv (Int.tmod (wrap64 (a0 + 719468)) 146097) 36524)))) - (wrap64 (Int.tdiv (Int.tmod (wrap64 (a0 + 719468)) 146097) 146096)))) 365)) 4)))) - (wrap64 (Int.tdiv (wrap64 (Int.tdiv (wrap64 ((wrap64 ((wrap64 ((Int.tmod (wrap64 (a0 + 719468)) 146097) - (wrap64 (Int.tdiv (Int.tmod (wrap64 (a0 + 719468)) 146097) 1460)))) + (wrap64 (Int.tdiv (Int.tmod (wrap64 (a0 + 719468)) 146097) 36524)))) - (wrap64 (Int.tdiv (Int.tmod (wrap64 (a0 + 719468)) 146097) 146096)))) 365)) 100)))))) - (wrap64 (Int.tdiv (wrap64 ((wrap64 (153 * (wrap64 (Int.tdiv (wrap64 ((wrap64 (5 * (wrap64 ((Int.tmod (wrap64 (a0 + 719468)) 146097) - (wrap64 ((wrap64 ((wrap64 (365 * (wrap64 (Int.tdiv (wrap64 ((wrap64 ((wrap64 ((Int.tmod (wrap64 (a0 + 719468)) 146097) - (wrap64 (Int.tdiv (Int.tmod (wrap64 (a0 + 719468)) 146097) 1460)))) + (wrap64 (Int.tdiv (Int.tmod (wrap64 (a0 + 719468)) 146097) 36524)))) - (wrap64 (Int.tdiv (Int.tmod (wrap64 (a0 + 719468)) 146097) 146096)))) 365)))) + (wrap64 (Int.tdiv (wrap64 (Int.tdiv (wrap64 ((wrap64 ((wrap64 ((Int.tmod (wrap64 (a0 + 719468)) 146097) - (wrap64 (Int.tdiv (Int.tmod (wrap64 (a0 + 719468)) 146097) 1460)))) + (wrap64 (Int.tdiv (Int.tmod (wrap64 (a0 + 719468)) 146097) 36524)))) - (wrap64 (Int.tdiv (Int.tmod (wrap64 (a0 + 719468)) 146097) 146096)))) 365)) 4)))) - (wrap64 (Int.tdiv (wrap64 (Int.tdiv (wrap64 ((wrap64 ((wrap64 ((Int.tmod (wrap64 (a0 + 719468)) 146097) - (wrap64 (Int.tdiv (Int.tmod (wrap64 (a0 + 719468)) 146097) 1460)))) + (wrap64 (Int.tdiv (Int.tmod (wrap64 (a0 + 719468)) 146097) 36524)))) - (wrap64 (Int.tdiv (Int.tmod (wrap64 (a0 + 719468)) 146097) 146096)))) 365)) 100)))))))) + 2)) 153)))) + 2)) 5)))) + 1)))
set_option maxHeartbeats 8000000 in
set_option maxRecDepth 100000 in
theorem texts_civil.calls (a0 : Int) (r1 : Int) (r2 : Int) (r3 : Int) (w : World) (h : texts_civil.f a0 = some (r1, r2, r3)) :
    Calls Tryd.prog 36 #[.int .i64 a0] w fun e w' => e = .returned (.tuple #[.int .i64 r1, .int .i64 r2, .int .i64 r3]) ∧ Drawn0 w w' := by
  have H : (if (wrap64 ((Int.tmod (wrap64 (Int.tdiv (wrap64 ((wrap64 (5 * (wrap64 ((Int.tmod (wrap64 (a0 + 719468)) 146097) - (wrap64 ((wrap64 ((wrap64 (365 * (wrap64 (Int.tdiv (wrap64 ((wrap64 ((wrap64 ((Int.tmod (wrap64 (a0 + 719468)) 146097) - (wrap64 (Int.tdiv (Int.tmod (wrap64 (a0 + 719468)) 146097) 1460)))) + (wrap64 (Int.tdiv (Int.tmod (wrap64 (a0 + 719468)) 146097) 36524)))) - (wrap64 (Int.tdiv (Int.tmod (wrap64 (a0 + 719468)) 146097) 146096)))) 365)))) + (wrap64 (Int.tdiv (wrap64 (Int.tdiv (wrap64 ((wrap64 ((wrap64 ((Int.tmod (wrap64 (a0 + 719468)) 146097) - (wrap64 (Int.tdiv (Int.tmod (wrap64 (a0 + 719468)) 146097) 1460)))) + (wrap64 (Int.tdiv (Int.tmod (wrap64 (a0 + 719468)) 146097) 36524)))) - (wrap64 (Int.tdiv (Int.tmod (wrap64 (a0 + 719468)) 146097) 146096)))) 365)) 4)))) - (wrap64 (Int.tdiv (wrap64 (Int.tdiv (wrap64 ((wrap64 ((wrap64 ((Int.tmod (wrap64 (a0 + 719468)) 146097) - (wrap64 (Int.tdiv (Int.tmod (wrap64 (a0 + 719468)) 146097) 1460)))) + (wrap64 (Int.tdiv (Int.tmod (wrap64 (a0 + 719468)) 146097) 36524)))) - (wrap64 (Int.tdiv (Int.tmod (wrap64 (a0 + 719468)) 146097) 146096)))) 365)) 100)))))))) + 2)) 153)) 12) + 3)) > 12 then (some (wrap64 ((wrap64 ((wrap64 ((wrap64 (Int.tdiv (wrap64 (a0 + 719468)) 146097)) * 400)) + (wrap64 (Int.tdiv (wrap64 ((wrap64 ((wrap64 ((Int.tmod (wrap64 (a0 + 719468)) 146097) - (wrap64 (Int.tdiv (Int.tmod (wrap64 (a0 + 719468)) 146097) 1460)))) + (wrap64 (Int.tdiv (Int.tmod (wrap64 (a0 + 719468)) 146097) 36524)))) - (wrap64 (Int.tdiv (Int.tmod (wrap64 (a0 + 719468)) 146097) 146096)))) 365)))) + 1), wrap64 ((wrap64 ((Int.tmod (wrap64 (Int.tdiv (wrap64 ((wrap64 (5 * (wrap64 ((Int.tmod (wrap64 (a0 + 719468)) 146097) - (wrap64 ((wrap64 ((wrap64 (365 * (wrap64 (Int.tdiv (wrap64 ((wrap64 ((wrap64 ((Int.tmod (wrap64 (a0 + 719468)) 146097) - (wrap64 (Int.tdiv (Int.tmod (wrap64 (a0 + 719468)) 146097) 1460)))) + (wrap64 (Int.tdiv (Int.tmod (wrap64 (a0 + 719468)) 146097) 36524)))) - (wrap64 (Int.tdiv (Int.tmod (wrap64 (a0 + 719468)) 146097) 146096)))) 365)))) + (wrap64 (Int.tdiv (wrap64 (Int.tdiv (wrap64 ((wrap64 ((wrap64 ((Int.tmod (wrap64 (a0 + 719468)) 146097) - (wrap64 (Int.tdiv (Int.tmod (wrap64 (a0 + 719468)) 146097) 1460)))) + (wrap64 (Int.tdiv (Int.tmod (wrap64 (a0 + 719468)) 146097) 36524)))) - (wrap64 (Int.tdiv (Int.tmod (wrap64 (a0 + 719468)) 146097) 146096)))) 365)) 4)))) - (wrap64 (Int.tdiv (wrap64 (Int.tdiv (wrap64 ((wrap64 ((wrap64 ((Int.tmod (wrap64 (a0 + 719468)) 146097) - (wrap64 (Int.tdiv (Int.tmod (wrap64 (a0 + 719468)) 146097) 1460)))) + (wrap64 (Int.tdiv (Int.tmod (wrap64 (a0 + 719468)) 146097) 36524)))) - (wrap64 (Int.tdiv (Int.tmod (wrap64 (a0 + 719468)) 146097) 146096)))) 365)) 100)))))))) + 2)) 153)) 12) + 3)) - 12), wrap64 ((wrap64 ((wrap64 ((Int.tmod (wrap64 (a0 + 719468)) 146097) - (wrap64 ((wrap64 ((wrap64 (365 * (wrap64 (Int.tdiv (wrap64 ((wrap64 ((wrap64 ((Int.tmod (wrap64 (a0 + 719468)) 146097) - (wrap64 (Int.tdiv (Int.tmod (wrap64 (a0 + 719468)) 146097) 1460)))) + (wrap64 (Int.tdiv (Int.tmod (wrap64 (a0 + 719468)) 146097) 36524)))) - (wrap64 (Int.tdiv (Int.tmod (wrap64 (a0 + 719468)) 146097) 146096)))) 365)))) + (wrap64 (Int.tdiv (wrap64 (Int.tdiv (wrap64 ((wrap64 ((wrap64 ((Int.tmod (wrap64 (a0 + 719468)) 146097) - (wrap64 (Int.tdiv (Int.tmod (wrap64 (a0 + 719468)) 146097) 1460)))) + (wrap64 (Int.tdiv (Int.tmod (wrap64 (a0 + 719468)) 146097) 36524)))) - (wrap64 (Int.tdiv (Int.tmod (wrap64 (a0 + 719468)) 146097) 146096)))) 365)) 4)))) - (wrap64 (Int.tdiv (wrap64 (Int.tdiv (wrap64 ((wrap64 ((wrap64 ((Int.tmod (wrap64 (a0 + 719468)) 146097) - (wrap64 (Int.tdiv (Int.tmod (wrap64 (a0 + 719468)) 146097) 1460)))) + (wrap64 (Int.tdiv (Int.tmod (wrap64 (a0 + 719468)) 146097) 36524)))) - (wrap64 (Int.tdiv (Int.tmod (wrap64 (a0 + 719468)) 146097) 146096)))) 365)) 100)))))) - (wrap64 (Int.tdiv (wrap64 ((wrap64 (153 * (wrap64 (Int.tdiv (wrap64 ((wrap64 (5 * (wrap64 ((Int.tmod (wrap64 (a0 + 719468)) 146097) - (wrap64 ((wrap64 ((wrap64 (365 * (wrap64 (Int.tdiv (wrap64 ((wrap64 ((wrap64 ((Int.tmod (wrap64 (a0 + 719468)) 146097) - (wrap64 (Int.tdiv (Int.tmod (wrap64 (a0 + 719468)) 146097) 1460)))) + (wrap64 (Int.tdiv (Int.tmod (wrap64 (a0 + 719468)) 146097) 36524)))) - (wrap64 (Int.tdiv (Int.tmod (wrap64 (a0 + 719468)) 146097) 146096)))) 365)))) + (wrap64 (Int.tdiv (wrap64 (Int.tdiv (wrap64 ((wrap64 ((wrap64 ((Int.tmod (wrap64 (a0 + 719468)) 146097) - (wrap64 (Int.tdiv (Int.tmod (wrap64 (a0 + 719468)) 146097) 1460)))) + (wrap64 (Int.tdiv (Int.tmod (wrap64 (a0 + 719468)) 146097) 36524)))) - (wrap64 (Int.tdiv (Int.tmod (wrap64 (a0 + 719468)) 146097) 146096)))) 365)) 4)))) - (wrap64 (Int.tdiv (wrap64 (Int.tdiv (wrap64 ((wrap64 ((wrap64 ((Int.tmod (wrap64 (a0 + 719468)) 146097) - (wrap64 (Int.tdiv (Int.tmod (wrap64 (a0 + 719468)) 146097) 1460)))) + (wrap64 (Int.tdiv (Int.tmod (wrap64 (a0 + 719468)) 146097) 36524)))) - (wrap64 (Int.tdiv (Int.tmod (wrap64 (a0 + 719468)) 146097) 146096)))) 365)) 100)))))))) + 2)) 153)))) + 2)) 5)))) + 1))) else (some (wrap64 ((wrap64 ((wrap64 (Int.tdiv (wrap64 (a0 + 719468)) 146097)) * 400)) + (wrap64 (Int.tdiv (wrap64 ((wrap64 ((wrap64 ((Int.tmod (wrap64 (a0 + 719468)) 146097) - (wrap64 (Int.tdiv (Int.tmod (wrap64 (a0 + 719468)) 146097) 1460)))) + (wrap64 (Int.tdiv (Int.tmod (wrap64 (a0 + 719468)) 146097) 36524)))) - (wrap64 (Int.tdiv (Int.tmod (wrap64 (a0 + 719468)) 146097) 146096)))) 365))), wrap64 ((Int.tmod (wrap64 (Int.tdiv (wrap64 ((wrap64 (5 * (wrap64 ((Int.tmod (wrap64 (a0 + 719468)) 146097) - (wrap64 ((wrap64 ((wrap64 (365 * (wrap64 (Int.tdiv (wrap64 ((wrap64 ((wrap64 ((Int.tmod (wrap64 (a0 + 719468)) 146097) - (wrap64 (Int.tdiv (Int.tmod (wrap64 (a0 + 719468)) 146097) 1460)))) + (wrap64 (Int.tdiv (Int.tmod (wrap64 (a0 + 719468)) 146097) 36524)))) - (wrap64 (Int.tdiv (Int.tmod (wrap64 (a0 + 719468)) 146097) 146096)))) 365)))) + (wrap64 (Int.tdiv (wrap64 (Int.tdiv (wrap64 ((wrap64 ((wrap64 ((Int.tmod (wrap64 (a0 + 719468)) 146097) - (wrap64 (Int.tdiv (Int.tmod (wrap64 (a0 + 719468)) 146097) 1460)))) + (wrap64 (Int.tdiv (Int.tmod (wrap64 (a0 + 719468)) 146097) 36524)))) - (wrap64 (Int.tdiv (Int.tmod (wrap64 (a0 + 719468)) 146097) 146096)))) 365)) 4)))) - (wrap64 (Int.tdiv (wrap64 (Int.tdiv (wrap64 ((wrap64 ((wrap64 ((Int.tmod (wrap64 (a0 + 719468)) 146097) - (wrap64 (Int.tdiv (Int.tmod (wrap64 (a0 + 719468)) 146097) 1460)))) + (wrap64 (Int.tdiv (Int.tmod (wrap64 (a0 + 719468)) 146097) 36524)))) - (wrap64 (Int.tdiv (Int.tmod (wrap64 (a0 + 719468)) 146097) 146096)))) 365)) 100)))))))) + 2)) 153)) 12) + 3), wrap64 ((wrap64 ((wrap64 ((Int.tmod (wrap64 (a0 + 719468)) 146097) - (wrap64 ((wrap64 ((wrap64 (365 * (wrap64 (Int.tdiv (wrap64 ((wrap64 ((wrap64 ((Int.tmod (wrap64 (a0 + 719468)) 146097) - (wrap64 (Int.tdiv (Int.tmod (wrap64 (a0 + 719468)) 146097) 1460)))) + (wrap64 (Int.tdiv (Int.tmod (wrap64 (a0 + 719468)) 146097) 36524)))) - (wrap64 (Int.tdiv (Int.tmod (wrap64 (a0 + 719468)) 146097) 146096)))) 365)))) + (wrap64 (Int.tdiv (wrap64 (Int.tdiv (wrap64 ((wrap64 ((wrap64 ((Int.tmod (wrap64 (a0 + 719468)) 146097) - (wrap64 (Int.tdiv (Int.tmod (wrap64 (a0 + 719468)) 146097) 1460)))) + (wrap64 (Int.tdiv (Int.tmod (wrap64 (a0 + 719468)) 146097) 36524)))) - (wrap64 (Int.tdiv (Int.tmod (wrap64 (a0 + 719468)) 146097) 146096)))) 365)) 4)))) - (wrap64 (Int.tdiv (wrap64 (Int.tdiv (wrap64 ((wrap64 ((wrap64 ((Int.tmod (wrap64 (a0 + 719468)) 146097) - (wrap64 (Int.tdiv (Int.tmod (wrap64 (a0 + 719468)) 146097) 1460)))) + (wrap64 (Int.tdiv (Int.tmod (wrap64 (a0 + 719468)) 146097) 36524)))) - (wrap64 (Int.tdiv (Int.tmod (wrap64 (a0 + 719468)) 146097) 146096)))) 365)) 100)))))) - (wrap64 (Int.tdiv (wrap64 ((wrap64 (153 * (wrap64 (Int.tdiv (wrap64 ((wrap64 (5 * (wrap64 ((Int.tmod (wrap64 (a0 + 719468)) 146097) - (wrap64 ((wrap64 ((wrap64 (365 * (wrap64 (Int.tdiv (wrap64 ((wrap64 ((wrap64 ((Int.tmod (wrap64 (a0 + 719468)) 146097) - (wrap64 (Int.tdiv (Int.tmod (wrap64 (a0 + 719468)) 146097) 1460)))) + (wrap64 (Int.tdiv (Int.tmod (wrap64 (a0 + 719468)) 146097) 36524)))) - (wrap64 (Int.tdiv (Int.tmod (wrap64 (a0 + 719468)) 146097) 146096)))) 365)))) + (wrap64 (Int.tdiv (wrap64 (Int.tdiv (wrap64 ((wrap64 ((wrap64 ((Int.tmod (wrap64 (a0 + 719468)) 146097) - (wrap64 (Int.tdiv (Int.tmod (wrap64 (a0 + 719468)) 146097) 1460)))) + (wrap64 (Int.tdiv (Int.tmod (wrap64 (a0 + 719468)) 146097) 36524)))) - (wrap64 (Int.tdiv (Int.tmod (wrap64 (a0 + 719468)) 146097) 146096)))) 365)) 4)))) - (wrap64 (Int.tdiv (wrap64 (Int.tdiv (wrap64 ((wrap64 ((wrap64 ((Int.tmod (wrap64 (a0 + 719468)) 146097) - (wrap64 (Int.tdiv (Int.tmod (wrap64 (a0 + 719468)) 146097) 1460)))) + (wrap64 (Int.tdiv (Int.tmod (wrap64 (a0 + 719468)) 146097) 36524)))) - (wrap64 (Int.tdiv (Int.tmod (wrap64 (a0 + 719468)) 146097) 146096)))) 365)) 100)))))))) + 2)) 153)))) + 2)) 5)))) + 1)))) = some (r1, r2, r3) := h
  clear h
  by_cases c2 : (wrap64 ((Int.tmod (wrap64 (Int.tdiv (wrap64 ((wrap64 (5 * (wrap64 ((Int.tmod (wrap64 (a0 + 719468)) 146097) - (wrap64 ((wrap64 ((wrap64 (365 * (wrap64 (Int.tdiv (wrap64 ((wrap64 ((wrap64 ((Int.tmod (wrap64 (a0 + 719468)) 146097) - (wrap64 (Int.tdiv (Int.tmod (wrap64 (a0 + 719468)) 146097) 1460)))) + (wrap64 (Int.tdiv (Int.tmod (wrap64 (a0 + 719468)) 146097) 36524)))) - (wrap64 (Int.tdiv (Int.tmod (wrap64 (a0 + 719468)) 146097) 146096)))) 365)))) + (wrap64 (Int.tdiv (wrap64 (Int.tdiv (wrap64 ((wrap64 ((wrap64 ((Int.tmod (wrap64 (a0 + 719468)) 146097) - (wrap64 (Int.tdiv (Int.tmod (wrap64 (a0 + 719468)) 146097) 1460)))) + (wrap64 (Int.tdiv (Int.tmod (wrap64 (a0 + 719468)) 146097) 36524)))) - (wrap64 (Int.tdiv (Int.tmod (wrap64 (a0 + 719468)) 146097) 146096)))) 365)) 4)))) - (wrap64 (Int.tdiv (wrap64 (Int.tdiv (wrap64 ((wrap64 ((wrap64 ((Int.tmod (wrap64 (a0 + 719468)) 146097) - (wrap64 (Int.tdiv (Int.tmod (wrap64 (a0 + 719468)) 146097) 1460)))) + (wrap64 (Int.tdiv (Int.tmod (wrap64 (a0 + 719468)) 146097) 36524)))) - (wrap64 (Int.tdiv (Int.tmod (wrap64 (a0 + 719468)) 146097) 146096)))) 365)) 100)))))))) + 2)) 153)) 12) + 3)) > 12
  · rw [if_pos c2] at H
    have c2b0 : decide (12 < (wrap64 ((Int.tmod (wrap64 (Int.tdiv (wrap64 ((wrap64 (5 * (wrap64 ((Int.tmod (wrap64 (a0 + 719468)) 146097) - (wrap64 ((wrap64 ((wrap64 (365 * (wrap64 (Int.tdiv (wrap64 ((wrap64 ((wrap64 ((Int.tmod (wrap64 (a0 + 719468)) 146097) - (wrap64 (Int.tdiv (Int.tmod (wrap64 (a0 + 719468)) 146097) 1460)))) + (wrap64 (Int.tdiv (Int.tmod (wrap64 (a0 + 719468)) 146097) 36524)))) - (wrap64 (Int.tdiv (Int.tmod (wrap64 (a0 + 719468)) 146097) 146096)))) 365)))) + (wrap64 (Int.tdiv (wrap64 (Int.tdiv (wrap64 ((wrap64 ((wrap64 ((Int.tmod (wrap64 (a0 + 719468)) 146097) - (wrap64 (Int.tdiv (Int.tmod (wrap64 (a0 + 719468)) 146097) 1460)))) + (wrap64 (Int.tdiv (Int.tmod (wrap64 (a0 + 719468)) 146097) 36524)))) - (wrap64 (Int.tdiv (Int.tmod (wrap64 (a0 + 719468)) 146097) 146096)))) 365)) 4)))) - (wrap64 (Int.tdiv (wrap64 (Int.tdiv (wrap64 ((wrap64 ((wrap64 ((Int.tmod (wrap64 (a0 + 719468)) 146097) - (wrap64 (Int.tdiv (Int.tmod (wrap64 (a0 + 719468)) 146097) 1460)))) + (wrap64 (Int.tdiv (Int.tmod (wrap64 (a0 + 719468)) 146097) 36524)))) - (wrap64 (Int.tdiv (Int.tmod (wrap64 (a0 + 719468)) 146097) 146096)))) 365)) 100)))))))) + 2)) 153)) 12) + 3))) = true := decide_eq_true c2
    clear c2
    simp only [Option.some.injEq, Prod.mk.injEq] at H
    obtain ⟨rfl, rfl, rfl⟩ := H
    go_enter Tryd.func36, Tryd.ntmps36
    go_wp2
    go_ret3
    exact ⟨by first | rfl | (simp; done) | (simp [*]; done), by repeat (first | exact Drawn0.refl _ | apply Drawn0.step)⟩
  · rw [if_neg c2] at H
    have c2b0 : decide (12 < (wrap64 ((Int.tmod (wrap64 (Int.tdiv (wrap64 ((wrap64 (5 * (wrap64 ((Int.tmod (wrap64 (a0 + 719468)) 146097) - (wrap64 ((wrap64 ((wrap64 (365 * (wrap64 (Int.tdiv (wrap64 ((wrap64 ((wrap64 ((Int.tmod (wrap64 (a0 + 719468)) 146097) - (wrap64 (Int.tdiv (Int.tmod (wrap64 (a0 + 719468)) 146097) 1460)))) + (wrap64 (Int.tdiv (Int.tmod (wrap64 (a0 + 719468)) 146097) 36524)))) - (wrap64 (Int.tdiv (Int.tmod (wrap64 (a0 + 719468)) 146097) 146096)))) 365)))) + (wrap64 (Int.tdiv (wrap64 (Int.tdiv (wrap64 ((wrap64 ((wrap64 ((Int.tmod (wrap64 (a0 + 719468)) 146097) - (wrap64 (Int.tdiv (Int.tmod (wrap64 (a0 + 719468)) 146097) 1460)))) + (wrap64 (Int.tdiv (Int.tmod (wrap64 (a0 + 719468)) 146097) 36524)))) - (wrap64 (Int.tdiv (Int.tmod (wrap64 (a0 + 719468)) 146097) 146096)))) 365)) 4)))) - (wrap64 (Int.tdiv (wrap64 (Int.tdiv (wrap64 ((wrap64 ((wrap64 ((Int.tmod (wrap64 (a0 + 719468)) 146097) - (wrap64 (Int.tdiv (Int.tmod (wrap64 (a0 + 719468)) 146097) 1460)))) + (wrap64 (Int.tdiv (Int.tmod (wrap64 (a0 + 719468)) 146097) 36524)))) - (wrap64 (Int.tdiv (Int.tmod (wrap64 (a0 + 719468)) 146097) 146096)))) 365)) 100)))))))) + 2)) 153)) 12) + 3))) = false := decide_eq_false c2
    clear c2
    simp only [Option.some.injEq, Prod.mk.injEq] at H
    obtain ⟨rfl, rfl, rfl⟩ := H
    go_enter Tryd.func36, Tryd.ntmps36
    go_wp2
    go_ret3
    exact ⟨by first | rfl | (simp; done) | (simp [*]; done), by repeat (first | exact Drawn0.refl _ | apply Drawn0.step)⟩

/-! ### texts_PutTime: function 17 (by hand) -/
def texts_PutTime.f (a0 : Int) : Option (Int × List Int × Int) :=
  if a0 < (-631152000) ∨ 253402300799 < a0 then some (0, [], 32)
  else (texts_civil.f (wrap64 ((wrap64 (Int.tdiv (wrap64 (a0 + 631152000)) 86400)) - 7305))).bind fun q =>
    some (if q.1 < 2050 then 23 else 24, if q.1 < 2050 then (PutT.out q.1 q.2.1 q.2.2 (wrap64 (a0 + 631152000))).drop 2 else PutT.out q.1 q.2.1 q.2.2 (wrap64 (a0 + 631152000)), 0)
set_option maxHeartbeats 2000000 in
set_option maxRecDepth 1000000 in
theorem texts_PutTime.calls (a0 : Int) (r1 : Int) (r2 : List Int) (r3 : Int) (w : World) (h : texts_PutTime.f a0 = some (r1, r2, r3)) :
    Calls Tryd.prog 17 #[.int .i64 a0] w fun e w' => ∃ v1_ : Value, e = .returned (.tuple #[.int .u8 r1, v1_, .int .i64 r3]) ∧ Kd.V (Kd.int .u8) 5 w' w.heap.size (fun k_ => w.heap.size ≤ k_) v1_ r2 ∧ Below w.heap.size w w' := by
  unfold texts_PutTime.f at h
  by_cases c : a0 < (-631152000) ∨ 253402300799 < a0
  · rw [if_pos c] at h
    cases h
    by_cases c1 : a0 < (-631152000)
    · have d1 : decide (a0 < (-631152000)) = true := decide_eq_true c1
      clear c1 c
      go_enter Tryd.func17, Tryd.ntmps17
      go_wp2
      go_ret3
      exact ⟨.slice none 0 0, rfl, Kd.V_nil _ _ _ _ _, by repeat (first | exact Below.refl _ _ | apply below_drew1 | apply pw_below_drewN)⟩
    · have d1 : decide (a0 < (-631152000)) = false := decide_eq_false c1
      have d2 : decide (253402300799 < a0) = true := decide_eq_true (by omega)
      clear c1 c
      go_enter Tryd.func17, Tryd.ntmps17
      go_wp2
      go_ret3
      exact ⟨.slice none 0 0, rfl, Kd.V_nil _ _ _ _ _, by repeat (first | exact Below.refl _ _ | apply below_drew1 | apply pw_below_drewN)⟩
  · rw [if_neg c] at h
    obtain ⟨⟨y, m, d⟩, hc, h⟩ := Option.bind_eq_some_iff.mp h
    simp only [Option.some.injEq, Prod.mk.injEq] at h
    obtain ⟨rfl, rfl, rfl⟩ := h
    exact PutT.walk a0 y m d w (fun h => c (.inl h)) (fun h => c (.inr h)) (fun x W hx => texts_civil.calls x y m d W (hx ▸ hc))

/-! ### warderlaw03_head: function 12 (by hand) -/
def warderlaw03_head.f  : Option (Bool) := some true
theorem warderlaw03_head.put0 : texts_PutTime.f 0 = some (23, [55, 48, 48, 49, 48, 49, 48, 48, 48, 48, 48, 48, 90], 0) := by kernel_rfl
theorem warderlaw03_head.prep0 : texts_Prep.f (⟨#[32, 65, 32, 32, 98, 32]⟩ : ByteArray) = some ⟨#[97, 32, 98]⟩ := by kernel_rfl
theorem warderlaw03_head.right0 : texts_Right.f 22 [97] = some true := by kernel_rfl
theorem warderlaw03_head.str0 : strOfNums [55, 48, 48, 49, 48, 49, 48, 48, 48, 48, 48, 48, 90] = ⟨#[55, 48, 48, 49, 48, 49, 48, 48, 48, 48, 48, 48, 90]⟩ := by kernel_rfl
theorem warderlaw03_head.lit (W : World) : Kd.C (Kd.int .u8) (W.alloc (.cells #[.int .u8 97] 5 (1, 2))) (some ⟨W.heap.size, 0, none⟩) 1 [97] :=
  Kd.C_of_reads (enc := fun n => Value.int .u8 n) (d := (0 : Int)) (h1 := fun _ => rfl) ⟨rfl, by decide, fun _ => ⟨_, rfl, fun j hj => by
    obtain rfl : j = 0 := by omega
    show (W.alloc (.cells #[.int .u8 97] 5 (1, 2))).cell? ⟨W.heap.size, 0, none⟩ = _
    have h := heap_alloc_new W (.cells #[.int .u8 97] 5 (1, 2))
    unfold World.cell?
    rw [h]
    rfl⟩⟩
set_option maxHeartbeats 4000000 in
set_option maxRecDepth 100000 in
theorem warderlaw03_head.calls  (r : Bool) (w : World) (h : warderlaw03_head.f  = some r) :
    Calls Tryd.prog 12 #[] w fun e w' => e = .returned (.bool r) ∧ Below w.heap.size w w' := by
  cases h
  go_enter Tryd.func12, Tryd.ntmps12
  go_wp2_with (go_at_call 17; refine (texts_PutTime.calls _ _ _ _ _ warderlaw03_head.put0).mono ?_)
  rintro e w1 ⟨v1, rfl, hV, hb1⟩
  obtain ⟨A, c, rfl⟩ := Kd.V_slice hV
  have hcv : (convert 22 9 (.slice A 13 c)).run Tryd.prog w1 = .ok (.string (strOfNums [55, 48, 48, 49, 48, 49, 48, 48, 48, 48, 48, 48, 90])) w1 := Kd.C_string (P := Tryd.prog) (c := c) Tryd.underlying22 Tryd.underlying5 Tryd.underlying9 (Kd.V_reads' hV).2.2
  rw [warderlaw03_head.str0] at hcv
  have kc := fun (w : World) (C : Array Value) (n c : Nat) => Lib.run_convert_bytes_const (P := Tryd.prog) w 22 5 C n c Tryd.underlying22 Tryd.underlying5
  have HB1 := Aside0.mk hb1
  clear hV hb1
  go_wp2_with (go_at_call 15; refine (texts_Prep.calls _ _ _ warderlaw03_head.prep0).mono ?_)
  rintro e w2 ⟨rfl, hb2⟩
  have HB2 := Aside0.mk hb2
  clear hb2
  go_wp2_with (go_at_call 13; refine (texts_Right.calls 22 _ _ [97] _ _ (warderlaw03_head.lit _) (by decide) warderlaw03_head.right0).mono ?_)
  rintro e w3 ⟨rfl, hb3⟩
  go_wp2
  go_ret
  refine ⟨rfl, ?_⟩
  exact below_step (below_alloc (below_step HB1.out HB2.out) _) hb3

/-! ### warderref03_Prep: function 16 (by hand) -/
def warderref03_Prep.f (a0 : ByteArray) : Option ByteArray := if a0.size ≤ 8796093022208 then some ⟨(Tx.prep a0.data.toList).toArray⟩ else none
theorem warderref03_Prep.calls (a0 : ByteArray) (r : ByteArray) (w : World) (h : warderref03_Prep.f a0 = some r) :
    Calls Tryd.prog 16 #[.string a0] w fun e w' => e = .returned (.string r) ∧ Below w.heap.size w w' := by
  unfold warderref03_Prep.f at h
  split at h
  · rename_i hs
    cases h
    exact refPrep_any a0 w hs
  · cases h

/-! ### warderlaw03_TextsPreps: function 4 -/
def warderlaw03_TextsPreps.f (a0 : ByteArray) : Option (Bool) := (warderlaw03_head.f).bind fun t101 => (if t101 = true then ((texts_Prep.f a0).bind fun t102 => ((warderref03_Prep.f a0).bind fun t103 => (some (t102.toList == t103.toList)))) else (some false))
set_option maxHeartbeats 8000000 in
set_option maxRecDepth 100000 in
theorem warderlaw03_TextsPreps.calls (a0 : ByteArray) (r : Bool) (w : World) (h : warderlaw03_TextsPreps.f a0 = some r) :
    Calls Tryd.prog 4 #[.string a0] w fun e w' => e = .returned (.bool r) ∧ Below w.heap.size w w' := by
  have HB := Aside0.mk (Below.refl w.heap.size w)
  have H : ((warderlaw03_head.f).bind fun t101 => (if t101 = true then ((texts_Prep.f a0).bind fun t102 => ((warderref03_Prep.f a0).bind fun t103 => (some (t102.toList == t103.toList)))) else (some false))) = some r := h
  clear h
  replace H := Option.bind_eq_some_iff.mp H
  obtain ⟨t101, A20, H⟩ := H
  replace H : (if t101 = true then ((texts_Prep.f a0).bind fun t102 => ((warderref03_Prep.f a0).bind fun t103 => (some (t102.toList == t103.toList)))) else (some false)) = some r := H
  have A2 := Aside0.mk A20
  clear A20
  by_cases c3 : t101 = true
  · subst c3
    have H1 : ((texts_Prep.f a0).bind fun t102 => ((warderref03_Prep.f a0).bind fun t103 => (some (t102.toList == t103.toList)))) = some r := by rw [if_pos rfl] at H; exact H
    clear H
    have H := H1
    clear H1
    replace H := Option.bind_eq_some_iff.mp H
    obtain ⟨t102, A40, H⟩ := H
    replace H : ((warderref03_Prep.f a0).bind fun t103 => (some (t102.toList == t103.toList))) = some r := H
    have A4 := Aside0.mk A40
    clear A40
    replace H := Option.bind_eq_some_iff.mp H
    obtain ⟨t103, A50, H⟩ := H
    replace H : (some (t102.toList == t103.toList)) = some r := H
    have A5 := Aside0.mk A50
    clear A50
    obtain rfl := Option.some.inj H
    go_enter Tryd.func4, Tryd.ntmps4
    go_wp2_with (first | ((with_reducible refine gate_callee (f := 12) rfl ?_); refine goesL_ (some 4) rfl rfl Tryd.func12 (by kernel_rfl) rfl #[] rfl (by (try simp only [List.map_toArray, List.map_cons, List.map_nil]); first | done | rfl | (simp only [List.length_drop, List.length_take]; rfl)) ?_; (with_reducible refine (warderlaw03_head.calls  true _ A2.out).mono ?_); rintro e w6 ⟨rfl, hb⟩; refine ⟨_, rfl, ?_⟩; have n0_ := Aside0.mk (below_step (by repeat (first | (with_reducible first | exact HB.out | apply below_alloc | apply pw_below_drewN | apply below_drew1) | exact HB.out)) hb); clear HB; have HB := n0_; clear n0_; (try clear hb); (try clear hb2); (try clear hk); (try clear hi)) | (go_at_call 15; (with_reducible refine (texts_Prep.calls a0 t102 _ A4.out).mono ?_); rintro e w7 ⟨rfl, hb⟩; have n0_ := Aside0.mk (below_step (by repeat (first | (with_reducible first | exact HB.out | apply below_alloc | apply pw_below_drewN | apply below_drew1) | exact HB.out)) hb); clear HB; have HB := n0_; clear n0_; (try clear hb); (try clear hb2); (try clear hk); (try clear hi)) | (go_at_call 16; (with_reducible refine (warderref03_Prep.calls a0 t103 _ A5.out).mono ?_); rintro e w8 ⟨rfl, hb⟩; have n0_ := Aside0.mk (below_step (by repeat (first | (with_reducible first | exact HB.out | apply below_alloc | apply pw_below_drewN | apply below_drew1) | exact HB.out)) hb); clear HB; have HB := n0_; clear n0_; (try clear hb); (try clear hb2); (try clear hk); (try clear hi)))
    go_ret
    exact ⟨by first | rfl | (simp [errW_none, errW_some] <;> rfl) | (simp [*, errW_none, errW_some] <;> rfl), by repeat (first | (with_reducible first | exact HB.out | apply below_alloc | apply pw_below_drewN | apply below_drew1) | exact HB.out)⟩
  · replace c3 := Bool.eq_false_iff.mpr c3
    subst c3
    have H1 : (some false) = some r := by rw [if_neg (show ¬ (false = true) by decide)] at H; exact H
    clear H
    have H := H1
    clear H1
    obtain rfl := Option.some.inj H
    go_enter Tryd.func4, Tryd.ntmps4
    go_wp2_with (first | ((with_reducible refine gate_callee (f := 12) rfl ?_); refine goesL_ (some 4) rfl rfl Tryd.func12 (by kernel_rfl) rfl #[] rfl (by (try simp only [List.map_toArray, List.map_cons, List.map_nil]); first | done | rfl | (simp only [List.length_drop, List.length_take]; rfl)) ?_; (with_reducible refine (warderlaw03_head.calls  false _ A2.out).mono ?_); rintro e w9 ⟨rfl, hb⟩; refine ⟨_, rfl, ?_⟩; have n0_ := Aside0.mk (below_step (by repeat (first | (with_reducible first | exact HB.out | apply below_alloc | apply pw_below_drewN | apply below_drew1) | exact HB.out)) hb); clear HB; have HB := n0_; clear n0_; (try clear hb); (try clear hb2); (try clear hk); (try clear hi)))
    go_ret
    exact ⟨by first | rfl | (simp [errW_none, errW_some] <;> rfl) | (simp [*, errW_none, errW_some] <;> rfl), by repeat (first | (with_reducible first | exact HB.out | apply below_alloc | apply pw_below_drewN | apply below_drew1) | exact HB.out)⟩

/-! ### warderlaw03_TextsJoined: function 8 -/
def warderlaw03_TextsJoined.f (a0 : ByteArray) (a1 : ByteArray) : Option (Bool) := (warderlaw03_head.f).bind fun t104 => ((texts_Prep.f a0).bind fun t105 => ((texts_Prep.f a1).bind fun t106 => (if t105.size + 1 ≤ 9223372036854775807 then (if (t105 ++ (⟨#[32]⟩ : ByteArray)).size + t106.size ≤ 9223372036854775807 then (if t105.toList = ([] : List UInt8) then (if t105.size + t106.size ≤ 9223372036854775807 then (if t104 = true then (if a0.size + 1 ≤ 9223372036854775807 then (if (a0 ++ (⟨#[32]⟩ : ByteArray)).size + a1.size ≤ 9223372036854775807 then ((texts_Prep.f ((a0 ++ (⟨#[32]⟩ : ByteArray)) ++ a1)).bind fun t107 => (some (t107.toList == (t105 ++ t106).toList))) else (none)) else (none)) else (some false)) else (none)) else (if t106.toList = ([] : List UInt8) then (if t105.size + t106.size ≤ 9223372036854775807 then (if t104 = true then (if a0.size + 1 ≤ 9223372036854775807 then (if (a0 ++ (⟨#[32]⟩ : ByteArray)).size + a1.size ≤ 9223372036854775807 then ((texts_Prep.f ((a0 ++ (⟨#[32]⟩ : ByteArray)) ++ a1)).bind fun t108 => (some (t108.toList == (t105 ++ t106).toList))) else (none)) else (none)) else (some false)) else (none)) else (if t104 = true then (if a0.size + 1 ≤ 9223372036854775807 then (if (a0 ++ (⟨#[32]⟩ : ByteArray)).size + a1.size ≤ 9223372036854775807 then ((texts_Prep.f ((a0 ++ (⟨#[32]⟩ : ByteArray)) ++ a1)).bind fun t109 => (some (t109.toList == ((t105 ++ (⟨#[32]⟩ : ByteArray)) ++ t106).toList))) else (none)) else (none)) else (some false)))) else (none)) else (none))))
set_option maxHeartbeats 8000000 in
set_option maxRecDepth 100000 in
theorem warderlaw03_TextsJoined.calls (a0 : ByteArray) (a1 : ByteArray) (r : Bool) (w : World) (h : warderlaw03_TextsJoined.f a0 a1 = some r) :
    Calls Tryd.prog 8 #[.string a0, .string a1] w fun e w' => e = .returned (.bool r) ∧ Below w.heap.size w w' := by
  have HB := Aside0.mk (Below.refl w.heap.size w)
  have H : ((warderlaw03_head.f).bind fun t104 => ((texts_Prep.f a0).bind fun t105 => ((texts_Prep.f a1).bind fun t106 => (if t105.size + 1 ≤ 9223372036854775807 then (if (t105 ++ (⟨#[32]⟩ : ByteArray)).size + t106.size ≤ 9223372036854775807 then (if t105.toList = ([] : List UInt8) then (if t105.size + t106.size ≤ 9223372036854775807 then (if t104 = true then (if a0.size + 1 ≤ 9223372036854775807 then (if (a0 ++ (⟨#[32]⟩ : ByteArray)).size + a1.size ≤ 9223372036854775807 then ((texts_Prep.f ((a0 ++ (⟨#[32]⟩ : ByteArray)) ++ a1)).bind fun t107 => (some (t107.toList == (t105 ++ t106).toList))) else (none)) else (none)) else (some false)) else (none)) else (if t106.toList = ([] : List UInt8) then (if t105.size + t106.size ≤ 9223372036854775807 then (if t104 = true then (if a0.size + 1 ≤ 9223372036854775807 then (if (a0 ++ (⟨#[32]⟩ : ByteArray)).size + a1.size ≤ 9223372036854775807 then ((texts_Prep.f ((a0 ++ (⟨#[32]⟩ : ByteArray)) ++ a1)).bind fun t108 => (some (t108.toList == (t105 ++ t106).toList))) else (none)) else (none)) else (some false)) else (none)) else (if t104 = true then (if a0.size + 1 ≤ 9223372036854775807 then (if (a0 ++ (⟨#[32]⟩ : ByteArray)).size + a1.size ≤ 9223372036854775807 then ((texts_Prep.f ((a0 ++ (⟨#[32]⟩ : ByteArray)) ++ a1)).bind fun t109 => (some (t109.toList == ((t105 ++ (⟨#[32]⟩ : ByteArray)) ++ t106).toList))) else (none)) else (none)) else (some false)))) else (none)) else (none))))) = some r := h
  clear h
  replace H := Option.bind_eq_some_iff.mp H
  obtain ⟨t104, A30, H⟩ := H
  replace H : ((texts_Prep.f a0).bind fun t105 => ((texts_Prep.f a1).bind fun t106 => (if t105.size + 1 ≤ 9223372036854775807 then (if (t105 ++ (⟨#[32]⟩ : ByteArray)).size + t106.size ≤ 9223372036854775807 then (if t105.toList = ([] : List UInt8) then (if t105.size + t106.size ≤ 9223372036854775807 then (if t104 = true then (if a0.size + 1 ≤ 9223372036854775807 then (if (a0 ++ (⟨#[32]⟩ : ByteArray)).size + a1.size ≤ 9223372036854775807 then ((texts_Prep.f ((a0 ++ (⟨#[32]⟩ : ByteArray)) ++ a1)).bind fun t107 => (some (t107.toList == (t105 ++ t106).toList))) else (none)) else (none)) else (some false)) else (none)) else (if t106.toList = ([] : List UInt8) then (if t105.size + t106.size ≤ 9223372036854775807 then (if t104 = true then (if a0.size + 1 ≤ 9223372036854775807 then (if (a0 ++ (⟨#[32]⟩ : ByteArray)).size + a1.size ≤ 9223372036854775807 then ((texts_Prep.f ((a0 ++ (⟨#[32]⟩ : ByteArray)) ++ a1)).bind fun t108 => (some (t108.toList == (t105 ++ t106).toList))) else (none)) else (none)) else (some false)) else (none)) else (if t104 = true then (if a0.size + 1 ≤ 9223372036854775807 then (if (a0 ++ (⟨#[32]⟩ : ByteArray)).size + a1.size ≤ 9223372036854775807 then ((texts_Prep.f ((a0 ++ (⟨#[32]⟩ : ByteArray)) ++ a1)).bind fun t109 => (some (t109.toList == ((t105 ++ (⟨#[32]⟩ : ByteArray)) ++ t106).toList))) else (none)) else (none)) else (some false)))) else (none)) else (none)))) = some r := H
  have A3 := Aside0.mk A30
  clear A30
  replace H := Option.bind_eq_some_iff.mp H
  obtain ⟨t105, A40, H⟩ := H
  replace H : ((texts_Prep.f a1).bind fun t106 => (if t105.size + 1 ≤ 9223372036854775807 then (if (t105 ++ (⟨#[32]⟩ : ByteArray)).size + t106.size ≤ 9223372036854775807 then (if t105.toList = ([] : List UInt8) then (if t105.size + t106.size ≤ 9223372036854775807 then (if t104 = true then (if a0.size + 1 ≤ 9223372036854775807 then (if (a0 ++ (⟨#[32]⟩ : ByteArray)).size + a1.size ≤ 9223372036854775807 then ((texts_Prep.f ((a0 ++ (⟨#[32]⟩ : ByteArray)) ++ a1)).bind fun t107 => (some (t107.toList == (t105 ++ t106).toList))) else (none)) else (none)) else (some false)) else (none)) else (if t106.toList = ([] : List UInt8) then (if t105.size + t106.size ≤ 9223372036854775807 then (if t104 = true then (if a0.size + 1 ≤ 9223372036854775807 then (if (a0 ++ (⟨#[32]⟩ : ByteArray)).size + a1.size ≤ 9223372036854775807 then ((texts_Prep.f ((a0 ++ (⟨#[32]⟩ : ByteArray)) ++ a1)).bind fun t108 => (some (t108.toList == (t105 ++ t106).toList))) else (none)) else (none)) else (some false)) else (none)) else (if t104 = true then (if a0.size + 1 ≤ 9223372036854775807 then (if (a0 ++ (⟨#[32]⟩ : ByteArray)).size + a1.size ≤ 9223372036854775807 then ((texts_Prep.f ((a0 ++ (⟨#[32]⟩ : ByteArray)) ++ a1)).bind fun t109 => (some (t109.toList == ((t105 ++ (⟨#[32]⟩ : ByteArray)) ++ t106).toList))) else (none)) else (none)) else (some false)))) else (none)) else (none))) = some r := H
  have A4 := Aside0.mk A40
  clear A40
  replace H := Option.bind_eq_some_iff.mp H
  obtain ⟨t106, A50, H⟩ := H
  replace H : (if t105.size + 1 ≤ 9223372036854775807 then (if (t105 ++ (⟨#[32]⟩ : ByteArray)).size + t106.size ≤ 9223372036854775807 then (if t105.toList = ([] : List UInt8) then (if t105.size + t106.size ≤ 9223372036854775807 then (if t104 = true then (if a0.size + 1 ≤ 9223372036854775807 then (if (a0 ++ (⟨#[32]⟩ : ByteArray)).size + a1.size ≤ 9223372036854775807 then ((texts_Prep.f ((a0 ++ (⟨#[32]⟩ : ByteArray)) ++ a1)).bind fun t107 => (some (t107.toList == (t105 ++ t106).toList))) else (none)) else (none)) else (some false)) else (none)) else (if t106.toList = ([] : List UInt8) then (if t105.size + t106.size ≤ 9223372036854775807 then (if t104 = true then (if a0.size + 1 ≤ 9223372036854775807 then (if (a0 ++ (⟨#[32]⟩ : ByteArray)).size + a1.size ≤ 9223372036854775807 then ((texts_Prep.f ((a0 ++ (⟨#[32]⟩ : ByteArray)) ++ a1)).bind fun t108 => (some (t108.toList == (t105 ++ t106).toList))) else (none)) else (none)) else (some false)) else (none)) else (if t104 = true then (if a0.size + 1 ≤ 9223372036854775807 then (if (a0 ++ (⟨#[32]⟩ : ByteArray)).size + a1.size ≤ 9223372036854775807 then ((texts_Prep.f ((a0 ++ (⟨#[32]⟩ : ByteArray)) ++ a1)).bind fun t109 => (some (t109.toList == ((t105 ++ (⟨#[32]⟩ : ByteArray)) ++ t106).toList))) else (none)) else (none)) else (some false)))) else (none)) else (none)) = some r := H
  have A5 := Aside0.mk A50
  clear A50
  by_cases c6 : t105.size + 1 ≤ 9223372036854775807
  · rw [if_pos c6] at H
    have c6b0 := eq_true c6
    have c6b1 : decide (t105.size + 1 ≤ 9223372036854775807) = true := decide_eq_true c6
    try have c6b2 : (9223372036854775807 < t105.size + 1) = False := eq_false (Nat.not_lt.2 c6)
    by_cases c7 : (t105 ++ (⟨#[32]⟩ : ByteArray)).size + t106.size ≤ 9223372036854775807
    · rw [if_pos c7] at H
      have c7b0 := eq_true c7
      have c7b1 : decide ((t105 ++ (⟨#[32]⟩ : ByteArray)).size + t106.size ≤ 9223372036854775807) = true := decide_eq_true c7
      try have c7b2 : (9223372036854775807 < (t105 ++ (⟨#[32]⟩ : ByteArray)).size + t106.size) = False := eq_false (Nat.not_lt.2 c7)
      by_cases c8 : t105.toList = ([] : List UInt8)
      · rw [if_pos c8] at H
        have c8b0 : (t105.toList == ([] : List UInt8)) = true := beq_iff_eq.mpr c8
        have c8b1 : (t105.toList != ([] : List UInt8)) = false := bne_eq_false_iff_eq.mpr c8
        clear c8
        by_cases c9 : t105.size + t106.size ≤ 9223372036854775807
        · rw [if_pos c9] at H
          have c9b0 := eq_true c9
          have c9b1 : decide (t105.size + t106.size ≤ 9223372036854775807) = true := decide_eq_true c9
          try have c9b2 : (9223372036854775807 < t105.size + t106.size) = False := eq_false (Nat.not_lt.2 c9)
          by_cases c10 : t104 = true
          · subst c10
            have H1 : (if a0.size + 1 ≤ 9223372036854775807 then (if (a0 ++ (⟨#[32]⟩ : ByteArray)).size + a1.size ≤ 9223372036854775807 then ((texts_Prep.f ((a0 ++ (⟨#[32]⟩ : ByteArray)) ++ a1)).bind fun t107 => (some (t107.toList == (t105 ++ t106).toList))) else (none)) else (none)) = some r := by rw [if_pos rfl] at H; exact H
            clear H
            have H := H1
            clear H1
            by_cases c11 : a0.size + 1 ≤ 9223372036854775807
            · rw [if_pos c11] at H
              have c11b0 := eq_true c11
              have c11b1 : decide (a0.size + 1 ≤ 9223372036854775807) = true := decide_eq_true c11
              try have c11b2 : (9223372036854775807 < a0.size + 1) = False := eq_false (Nat.not_lt.2 c11)
              by_cases c12 : (a0 ++ (⟨#[32]⟩ : ByteArray)).size + a1.size ≤ 9223372036854775807
              · rw [if_pos c12] at H
                have c12b0 := eq_true c12
                have c12b1 : decide ((a0 ++ (⟨#[32]⟩ : ByteArray)).size + a1.size ≤ 9223372036854775807) = true := decide_eq_true c12
                try have c12b2 : (9223372036854775807 < (a0 ++ (⟨#[32]⟩ : ByteArray)).size + a1.size) = False := eq_false (Nat.not_lt.2 c12)
                replace H := Option.bind_eq_some_iff.mp H
                obtain ⟨t107, A130, H⟩ := H
                replace H : (some (t107.toList == (t105 ++ t106).toList)) = some r := H
                have A13 := Aside0.mk A130
                clear A130
                obtain rfl := Option.some.inj H
                go_enter Tryd.func8, Tryd.ntmps8
                go_wp2_with (first | ((with_reducible refine gate_callee (f := 12) rfl ?_); refine goesL_ (some 9) rfl rfl Tryd.func12 (by kernel_rfl) rfl #[] rfl (by (try simp only [List.map_toArray, List.map_cons, List.map_nil]); first | done | rfl | (simp only [List.length_drop, List.length_take]; rfl)) ?_; (with_reducible refine (warderlaw03_head.calls  true _ A3.out).mono ?_); rintro e w14 ⟨rfl, hb⟩; refine ⟨_, rfl, ?_⟩; have n0_ := Aside0.mk (below_step (by repeat (first | (with_reducible first | exact HB.out | apply below_alloc | apply pw_below_drewN | apply below_drew1) | exact HB.out)) hb); clear HB; have HB := n0_; clear n0_; (try clear hb); (try clear hb2); (try clear hk); (try clear hi)) | ((with_reducible refine gate_callee (f := 15) rfl ?_); refine goesL_ (some 11) rfl rfl Tryd.func15 (by kernel_rfl) rfl #[.string a0] rfl (by (try simp only [List.map_toArray, List.map_cons, List.map_nil]); first | done | rfl | (simp only [List.length_drop, List.length_take]; rfl)) ?_; (with_reducible refine (texts_Prep.calls a0 t105 _ A4.out).mono ?_); rintro e w15 ⟨rfl, hb⟩; refine ⟨_, rfl, ?_⟩; have n0_ := Aside0.mk (below_step (by repeat (first | (with_reducible first | exact HB.out | apply below_alloc | apply pw_below_drewN | apply below_drew1) | exact HB.out)) hb); clear HB; have HB := n0_; clear n0_; (try clear hb); (try clear hb2); (try clear hk); (try clear hi)) | ((with_reducible refine gate_callee (f := 15) rfl ?_); refine goesL_ (some 13) rfl rfl Tryd.func15 (by kernel_rfl) rfl #[.string a1] rfl (by (try simp only [List.map_toArray, List.map_cons, List.map_nil]); first | done | rfl | (simp only [List.length_drop, List.length_take]; rfl)) ?_; (with_reducible refine (texts_Prep.calls a1 t106 _ A5.out).mono ?_); rintro e w16 ⟨rfl, hb⟩; refine ⟨_, rfl, ?_⟩; have n0_ := Aside0.mk (below_step (by repeat (first | (with_reducible first | exact HB.out | apply below_alloc | apply pw_below_drewN | apply below_drew1) | exact HB.out)) hb); clear HB; have HB := n0_; clear n0_; (try clear hb); (try clear hb2); (try clear hk); (try clear hi)) | (go_at_call 15; (with_reducible refine (texts_Prep.calls ((a0 ++ (⟨#[32]⟩ : ByteArray)) ++ a1) t107 _ A13.out).mono ?_); rintro e w17 ⟨rfl, hb⟩; have n0_ := Aside0.mk (below_step (by repeat (first | (with_reducible first | exact HB.out | apply below_alloc | apply pw_below_drewN | apply below_drew1) | exact HB.out)) hb); clear HB; have HB := n0_; clear n0_; (try clear hb); (try clear hb2); (try clear hk); (try clear hi)))
                go_ret
                exact ⟨by first | rfl | (simp [errW_none, errW_some] <;> rfl) | (simp [*, errW_none, errW_some] <;> rfl), by repeat (first | (with_reducible first | exact HB.out | apply below_alloc | apply pw_below_drewN | apply below_drew1) | exact HB.out)⟩
              · rw [if_neg c12] at H
                exact absurd H (by simp)
            · rw [if_neg c11] at H
              exact absurd H (by simp)
          · replace c10 := Bool.eq_false_iff.mpr c10
            subst c10
            have H1 : (some false) = some r := by rw [if_neg (show ¬ (false = true) by decide)] at H; exact H
            clear H
            have H := H1
            clear H1
            obtain rfl := Option.some.inj H
            go_enter Tryd.func8, Tryd.ntmps8
            go_wp2_with (first | ((with_reducible refine gate_callee (f := 12) rfl ?_); refine goesL_ (some 9) rfl rfl Tryd.func12 (by kernel_rfl) rfl #[] rfl (by (try simp only [List.map_toArray, List.map_cons, List.map_nil]); first | done | rfl | (simp only [List.length_drop, List.length_take]; rfl)) ?_; (with_reducible refine (warderlaw03_head.calls  false _ A3.out).mono ?_); rintro e w18 ⟨rfl, hb⟩; refine ⟨_, rfl, ?_⟩; have n0_ := Aside0.mk (below_step (by repeat (first | (with_reducible first | exact HB.out | apply below_alloc | apply pw_below_drewN | apply below_drew1) | exact HB.out)) hb); clear HB; have HB := n0_; clear n0_; (try clear hb); (try clear hb2); (try clear hk); (try clear hi)) | ((with_reducible refine gate_callee (f := 15) rfl ?_); refine goesL_ (some 11) rfl rfl Tryd.func15 (by kernel_rfl) rfl #[.string a0] rfl (by (try simp only [List.map_toArray, List.map_cons, List.map_nil]); first | done | rfl | (simp only [List.length_drop, List.length_take]; rfl)) ?_; (with_reducible refine (texts_Prep.calls a0 t105 _ A4.out).mono ?_); rintro e w19 ⟨rfl, hb⟩; refine ⟨_, rfl, ?_⟩; have n0_ := Aside0.mk (below_step (by repeat (first | (with_reducible first | exact HB.out | apply below_alloc | apply pw_below_drewN | apply below_drew1) | exact HB.out)) hb); clear HB; have HB := n0_; clear n0_; (try clear hb); (try clear hb2); (try clear hk); (try clear hi)) | ((with_reducible refine gate_callee (f := 15) rfl ?_); refine goesL_ (some 13) rfl rfl Tryd.func15 (by kernel_rfl) rfl #[.string a1] rfl (by (try simp only [List.map_toArray, List.map_cons, List.map_nil]); first | done | rfl | (simp only [List.length_drop, List.length_take]; rfl)) ?_; (with_reducible refine (texts_Prep.calls a1 t106 _ A5.out).mono ?_); rintro e w20 ⟨rfl, hb⟩; refine ⟨_, rfl, ?_⟩; have n0_ := Aside0.mk (below_step (by repeat (first | (with_reducible first | exact HB.out | apply below_alloc | apply pw_below_drewN | apply below_drew1) | exact HB.out)) hb); clear HB; have HB := n0_; clear n0_; (try clear hb); (try clear hb2); (try clear hk); (try clear hi)))
            go_ret
            exact ⟨by first | rfl | (simp [errW_none, errW_some] <;> rfl) | (simp [*, errW_none, errW_some] <;> rfl), by repeat (first | (with_reducible first | exact HB.out | apply below_alloc | apply pw_below_drewN | apply below_drew1) | exact HB.out)⟩
        · rw [if_neg c9] at H
          exact absurd H (by simp)
      · rw [if_neg c8] at H
        have c8b0 : (t105.toList == ([] : List UInt8)) = false := beq_eq_false_iff_ne.mpr c8
        have c8b1 : (t105.toList != ([] : List UInt8)) = true := bne_iff_ne.mpr c8
        by_cases c21 : t106.toList = ([] : List UInt8)
        · rw [if_pos c21] at H
          have c21b0 : (t106.toList == ([] : List UInt8)) = true := beq_iff_eq.mpr c21
          have c21b1 : (t106.toList != ([] : List UInt8)) = false := bne_eq_false_iff_eq.mpr c21
          clear c21
          by_cases c22 : t105.size + t106.size ≤ 9223372036854775807
          · rw [if_pos c22] at H
            have c22b0 := eq_true c22
            have c22b1 : decide (t105.size + t106.size ≤ 9223372036854775807) = true := decide_eq_true c22
            try have c22b2 : (9223372036854775807 < t105.size + t106.size) = False := eq_false (Nat.not_lt.2 c22)
            by_cases c23 : t104 = true
            · subst c23
              have H1 : (if a0.size + 1 ≤ 9223372036854775807 then (if (a0 ++ (⟨#[32]⟩ : ByteArray)).size + a1.size ≤ 9223372036854775807 then ((texts_Prep.f ((a0 ++ (⟨#[32]⟩ : ByteArray)) ++ a1)).bind fun t108 => (some (t108.toList == (t105 ++ t106).toList))) else (none)) else (none)) = some r := by rw [if_pos rfl] at H; exact H
              clear H
              have H := H1
              clear H1
              by_cases c24 : a0.size + 1 ≤ 9223372036854775807
              · rw [if_pos c24] at H
                have c24b0 := eq_true c24
                have c24b1 : decide (a0.size + 1 ≤ 9223372036854775807) = true := decide_eq_true c24
                try have c24b2 : (9223372036854775807 < a0.size + 1) = False := eq_false (Nat.not_lt.2 c24)
                by_cases c25 : (a0 ++ (⟨#[32]⟩ : ByteArray)).size + a1.size ≤ 9223372036854775807
                · rw [if_pos c25] at H
                  have c25b0 := eq_true c25
                  have c25b1 : decide ((a0 ++ (⟨#[32]⟩ : ByteArray)).size + a1.size ≤ 9223372036854775807) = true := decide_eq_true c25
                  try have c25b2 : (9223372036854775807 < (a0 ++ (⟨#[32]⟩ : ByteArray)).size + a1.size) = False := eq_false (Nat.not_lt.2 c25)
                  replace H := Option.bind_eq_some_iff.mp H
                  obtain ⟨t108, A260, H⟩ := H
                  replace H : (some (t108.toList == (t105 ++ t106).toList)) = some r := H
                  have A26 := Aside0.mk A260
                  clear A260
                  obtain rfl := Option.some.inj H
                  go_enter Tryd.func8, Tryd.ntmps8
                  go_wp2_with (first | ((with_reducible refine gate_callee (f := 12) rfl ?_); refine goesL_ (some 9) rfl rfl Tryd.func12 (by kernel_rfl) rfl #[] rfl (by (try simp only [List.map_toArray, List.map_cons, List.map_nil]); first | done | rfl | (simp only [List.length_drop, List.length_take]; rfl)) ?_; (with_reducible refine (warderlaw03_head.calls  true _ A3.out).mono ?_); rintro e w27 ⟨rfl, hb⟩; refine ⟨_, rfl, ?_⟩; have n0_ := Aside0.mk (below_step (by repeat (first | (with_reducible first | exact HB.out | apply below_alloc | apply pw_below_drewN | apply below_drew1) | exact HB.out)) hb); clear HB; have HB := n0_; clear n0_; (try clear hb); (try clear hb2); (try clear hk); (try clear hi)) | ((with_reducible refine gate_callee (f := 15) rfl ?_); refine goesL_ (some 11) rfl rfl Tryd.func15 (by kernel_rfl) rfl #[.string a0] rfl (by (try simp only [List.map_toArray, List.map_cons, List.map_nil]); first | done | rfl | (simp only [List.length_drop, List.length_take]; rfl)) ?_; (with_reducible refine (texts_Prep.calls a0 t105 _ A4.out).mono ?_); rintro e w28 ⟨rfl, hb⟩; refine ⟨_, rfl, ?_⟩; have n0_ := Aside0.mk (below_step (by repeat (first | (with_reducible first | exact HB.out | apply below_alloc | apply pw_below_drewN | apply below_drew1) | exact HB.out)) hb); clear HB; have HB := n0_; clear n0_; (try clear hb); (try clear hb2); (try clear hk); (try clear hi)) | ((with_reducible refine gate_callee (f := 15) rfl ?_); refine goesL_ (some 13) rfl rfl Tryd.func15 (by kernel_rfl) rfl #[.string a1] rfl (by (try simp only [List.map_toArray, List.map_cons, List.map_nil]); first | done | rfl | (simp only [List.length_drop, List.length_take]; rfl)) ?_; (with_reducible refine (texts_Prep.calls a1 t106 _ A5.out).mono ?_); rintro e w29 ⟨rfl, hb⟩; refine ⟨_, rfl, ?_⟩; have n0_ := Aside0.mk (below_step (by repeat (first | (with_reducible first | exact HB.out | apply below_alloc | apply pw_below_drewN | apply below_drew1) | exact HB.out)) hb); clear HB; have HB := n0_; clear n0_; (try clear hb); (try clear hb2); (try clear hk); (try clear hi)) | (go_at_call 15; (with_reducible refine (texts_Prep.calls ((a0 ++ (⟨#[32]⟩ : ByteArray)) ++ a1) t108 _ A26.out).mono ?_); rintro e w30 ⟨rfl, hb⟩; have n0_ := Aside0.mk (below_step (by repeat (first | (with_reducible first | exact HB.out | apply below_alloc | apply pw_below_drewN | apply below_drew1) | exact HB.out)) hb); clear HB; have HB := n0_; clear n0_; (try clear hb); (try clear hb2); (try clear hk); (try clear hi)))
                  go_ret
                  exact ⟨by first | rfl | (simp [errW_none, errW_some] <;> rfl) | (simp [*, errW_none, errW_some] <;> rfl), by repeat (first | (with_reducible first | exact HB.out | apply below_alloc | apply pw_below_drewN | apply below_drew1) | exact HB.out)⟩
                · rw [if_neg c25] at H
                  exact absurd H (by simp)
              · rw [if_neg c24] at H
                exact absurd H (by simp)
            · replace c23 := Bool.eq_false_iff.mpr c23
              subst c23
              have H1 : (some false) = some r := by rw [if_neg (show ¬ (false = true) by decide)] at H; exact H
              clear H
              have H := H1
              clear H1
              obtain rfl := Option.some.inj H
              go_enter Tryd.func8, Tryd.ntmps8
              go_wp2_with (first | ((with_reducible refine gate_callee (f := 12) rfl ?_); refine goesL_ (some 9) rfl rfl Tryd.func12 (by kernel_rfl) rfl #[] rfl (by (try simp only [List.map_toArray, List.map_cons, List.map_nil]); first | done | rfl | (simp only [List.length_drop, List.length_take]; rfl)) ?_; (with_reducible refine (warderlaw03_head.calls  false _ A3.out).mono ?_); rintro e w31 ⟨rfl, hb⟩; refine ⟨_, rfl, ?_⟩; have n0_ := Aside0.mk (below_step (by repeat (first | (with_reducible first | exact HB.out | apply below_alloc | apply pw_below_drewN | apply below_drew1) | exact HB.out)) hb); clear HB; have HB := n0_; clear n0_; (try clear hb); (try clear hb2); (try clear hk); (try clear hi)) | ((with_reducible refine gate_callee (f := 15) rfl ?_); refine goesL_ (some 11) rfl rfl Tryd.func15 (by kernel_rfl) rfl #[.string a0] rfl (by (try simp only [List.map_toArray, List.map_cons, List.map_nil]); first | done | rfl | (simp only [List.length_drop, List.length_take]; rfl)) ?_; (with_reducible refine (texts_Prep.calls a0 t105 _ A4.out).mono ?_); rintro e w32 ⟨rfl, hb⟩; refine ⟨_, rfl, ?_⟩; have n0_ := Aside0.mk (below_step (by repeat (first | (with_reducible first | exact HB.out | apply below_alloc | apply pw_below_drewN | apply below_drew1) | exact HB.out)) hb); clear HB; have HB := n0_; clear n0_; (try clear hb); (try clear hb2); (try clear hk); (try clear hi)) | ((with_reducible refine gate_callee (f := 15) rfl ?_); refine goesL_ (some 13) rfl rfl Tryd.func15 (by kernel_rfl) rfl #[.string a1] rfl (by (try simp only [List.map_toArray, List.map_cons, List.map_nil]); first | done | rfl | (simp only [List.length_drop, List.length_take]; rfl)) ?_; (with_reducible refine (texts_Prep.calls a1 t106 _ A5.out).mono ?_); rintro e w33 ⟨rfl, hb⟩; refine ⟨_, rfl, ?_⟩; have n0_ := Aside0.mk (below_step (by repeat (first | (with_reducible first | exact HB.out | apply below_alloc | apply pw_below_drewN | apply below_drew1) | exact HB.out)) hb); clear HB; have HB := n0_; clear n0_; (try clear hb); (try clear hb2); (try clear hk); (try clear hi)))
              go_ret
              exact ⟨by first | rfl | (simp [errW_none, errW_some] <;> rfl) | (simp [*, errW_none, errW_some] <;> rfl), by repeat (first | (with_reducible first | exact HB.out | apply below_alloc | apply pw_below_drewN | apply below_drew1) | exact HB.out)⟩
          · rw [if_neg c22] at H
            exact absurd H (by simp)
        · rw [if_neg c21] at H
          have c21b0 : (t106.toList == ([] : List UInt8)) = false := beq_eq_false_iff_ne.mpr c21
          have c21b1 : (t106.toList != ([] : List UInt8)) = true := bne_iff_ne.mpr c21
          by_cases c34 : t104 = true
          · subst c34
            have H1 : (if a0.size + 1 ≤ 9223372036854775807 then (if (a0 ++ (⟨#[32]⟩ : ByteArray)).size + a1.size ≤ 9223372036854775807 then ((texts_Prep.f ((a0 ++ (⟨#[32]⟩ : ByteArray)) ++ a1)).bind fun t109 => (some (t109.toList == ((t105 ++ (⟨#[32]⟩ : ByteArray)) ++ t106).toList))) else (none)) else (none)) = some r := by rw [if_pos rfl] at H; exact H
            clear H
            have H := H1
            clear H1
            by_cases c35 : a0.size + 1 ≤ 9223372036854775807
            · rw [if_pos c35] at H
              have c35b0 := eq_true c35
              have c35b1 : decide (a0.size + 1 ≤ 9223372036854775807) = true := decide_eq_true c35
              try have c35b2 : (9223372036854775807 < a0.size + 1) = False := eq_false (Nat.not_lt.2 c35)
              by_cases c36 : (a0 ++ (⟨#[32]⟩ : ByteArray)).size + a1.size ≤ 9223372036854775807
              · rw [if_pos c36] at H
                have c36b0 := eq_true c36
                have c36b1 : decide ((a0 ++ (⟨#[32]⟩ : ByteArray)).size + a1.size ≤ 9223372036854775807) = true := decide_eq_true c36
                try have c36b2 : (9223372036854775807 < (a0 ++ (⟨#[32]⟩ : ByteArray)).size + a1.size) = False := eq_false (Nat.not_lt.2 c36)
                replace H := Option.bind_eq_some_iff.mp H
                obtain ⟨t109, A370, H⟩ := H
                replace H : (some (t109.toList == ((t105 ++ (⟨#[32]⟩ : ByteArray)) ++ t106).toList)) = some r := H
                have A37 := Aside0.mk A370
                clear A370
                obtain rfl := Option.some.inj H
                go_enter Tryd.func8, Tryd.ntmps8
                go_wp2_with (first | ((with_reducible refine gate_callee (f := 12) rfl ?_); refine goesL_ (some 9) rfl rfl Tryd.func12 (by kernel_rfl) rfl #[] rfl (by (try simp only [List.map_toArray, List.map_cons, List.map_nil]); first | done | rfl | (simp only [List.length_drop, List.length_take]; rfl)) ?_; (with_reducible refine (warderlaw03_head.calls  true _ A3.out).mono ?_); rintro e w38 ⟨rfl, hb⟩; refine ⟨_, rfl, ?_⟩; have n0_ := Aside0.mk (below_step (by repeat (first | (with_reducible first | exact HB.out | apply below_alloc | apply pw_below_drewN | apply below_drew1) | exact HB.out)) hb); clear HB; have HB := n0_; clear n0_; (try clear hb); (try clear hb2); (try clear hk); (try clear hi)) | ((with_reducible refine gate_callee (f := 15) rfl ?_); refine goesL_ (some 11) rfl rfl Tryd.func15 (by kernel_rfl) rfl #[.string a0] rfl (by (try simp only [List.map_toArray, List.map_cons, List.map_nil]); first | done | rfl | (simp only [List.length_drop, List.length_take]; rfl)) ?_; (with_reducible refine (texts_Prep.calls a0 t105 _ A4.out).mono ?_); rintro e w39 ⟨rfl, hb⟩; refine ⟨_, rfl, ?_⟩; have n0_ := Aside0.mk (below_step (by repeat (first | (with_reducible first | exact HB.out | apply below_alloc | apply pw_below_drewN | apply below_drew1) | exact HB.out)) hb); clear HB; have HB := n0_; clear n0_; (try clear hb); (try clear hb2); (try clear hk); (try clear hi)) | ((with_reducible refine gate_callee (f := 15) rfl ?_); refine goesL_ (some 13) rfl rfl Tryd.func15 (by kernel_rfl) rfl #[.string a1] rfl (by (try simp only [List.map_toArray, List.map_cons, List.map_nil]); first | done | rfl | (simp only [List.length_drop, List.length_take]; rfl)) ?_; (with_reducible refine (texts_Prep.calls a1 t106 _ A5.out).mono ?_); rintro e w40 ⟨rfl, hb⟩; refine ⟨_, rfl, ?_⟩; have n0_ := Aside0.mk (below_step (by repeat (first | (with_reducible first | exact HB.out | apply below_alloc | apply pw_below_drewN | apply below_drew1) | exact HB.out)) hb); clear HB; have HB := n0_; clear n0_; (try clear hb); (try clear hb2); (try clear hk); (try clear hi)) | (go_at_call 15; (with_reducible refine (texts_Prep.calls ((a0 ++ (⟨#[32]⟩ : ByteArray)) ++ a1) t109 _ A37.out).mono ?_); rintro e w41 ⟨rfl, hb⟩; have n0_ := Aside0.mk (below_step (by repeat (first | (with_reducible first | exact HB.out | apply below_alloc | apply pw_below_drewN | apply below_drew1) | exact HB.out)) hb); clear HB; have HB := n0_; clear n0_; (try clear hb); (try clear hb2); (try clear hk); (try clear hi)))
                go_ret
                exact ⟨by first | rfl | (simp [errW_none, errW_some] <;> rfl) | (simp [*, errW_none, errW_some] <;> rfl), by repeat (first | (with_reducible first | exact HB.out | apply below_alloc | apply pw_below_drewN | apply below_drew1) | exact HB.out)⟩
              · rw [if_neg c36] at H
                exact absurd H (by simp)
            · rw [if_neg c35] at H
              exact absurd H (by simp)
          · replace c34 := Bool.eq_false_iff.mpr c34
            subst c34
            have H1 : (some false) = some r := by rw [if_neg (show ¬ (false = true) by decide)] at H; exact H
            clear H
            have H := H1
            clear H1
            obtain rfl := Option.some.inj H
            go_enter Tryd.func8, Tryd.ntmps8
            go_wp2_with (first | ((with_reducible refine gate_callee (f := 12) rfl ?_); refine goesL_ (some 9) rfl rfl Tryd.func12 (by kernel_rfl) rfl #[] rfl (by (try simp only [List.map_toArray, List.map_cons, List.map_nil]); first | done | rfl | (simp only [List.length_drop, List.length_take]; rfl)) ?_; (with_reducible refine (warderlaw03_head.calls  false _ A3.out).mono ?_); rintro e w42 ⟨rfl, hb⟩; refine ⟨_, rfl, ?_⟩; have n0_ := Aside0.mk (below_step (by repeat (first | (with_reducible first | exact HB.out | apply below_alloc | apply pw_below_drewN | apply below_drew1) | exact HB.out)) hb); clear HB; have HB := n0_; clear n0_; (try clear hb); (try clear hb2); (try clear hk); (try clear hi)) | ((with_reducible refine gate_callee (f := 15) rfl ?_); refine goesL_ (some 11) rfl rfl Tryd.func15 (by kernel_rfl) rfl #[.string a0] rfl (by (try simp only [List.map_toArray, List.map_cons, List.map_nil]); first | done | rfl | (simp only [List.length_drop, List.length_take]; rfl)) ?_; (with_reducible refine (texts_Prep.calls a0 t105 _ A4.out).mono ?_); rintro e w43 ⟨rfl, hb⟩; refine ⟨_, rfl, ?_⟩; have n0_ := Aside0.mk (below_step (by repeat (first | (with_reducible first | exact HB.out | apply below_alloc | apply pw_below_drewN | apply below_drew1) | exact HB.out)) hb); clear HB; have HB := n0_; clear n0_; (try clear hb); (try clear hb2); (try clear hk); (try clear hi)) | ((with_reducible refine gate_callee (f := 15) rfl ?_); refine goesL_ (some 13) rfl rfl Tryd.func15 (by kernel_rfl) rfl #[.string a1] rfl (by (try simp only [List.map_toArray, List.map_cons, List.map_nil]); first | done | rfl | (simp only [List.length_drop, List.length_take]; rfl)) ?_; (with_reducible refine (texts_Prep.calls a1 t106 _ A5.out).mono ?_); rintro e w44 ⟨rfl, hb⟩; refine ⟨_, rfl, ?_⟩; have n0_ := Aside0.mk (below_step (by repeat (first | (with_reducible first | exact HB.out | apply below_alloc | apply pw_below_drewN | apply below_drew1) | exact HB.out)) hb); clear HB; have HB := n0_; clear n0_; (try clear hb); (try clear hb2); (try clear hk); (try clear hi)))
            go_ret
            exact ⟨by first | rfl | (simp [errW_none, errW_some] <;> rfl) | (simp [*, errW_none, errW_some] <;> rfl), by repeat (first | (with_reducible first | exact HB.out | apply below_alloc | apply pw_below_drewN | apply below_drew1) | exact HB.out)⟩
    · rw [if_neg c7] at H
      exact absurd H (by simp)
  · rw [if_neg c6] at H
    exact absurd H (by simp)

end Go.Proofs.YtgpghjmoapffcaaDoor.XPJ
