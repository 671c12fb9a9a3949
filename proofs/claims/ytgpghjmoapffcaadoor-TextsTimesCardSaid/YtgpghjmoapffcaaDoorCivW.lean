/- texts.civil, walked. No condition. -/
import Derived.Test.YtgpghjmoapffcaaDoorCiv
import Derived.Test.YtgpghjmoapffcaaDoorProg
import Derived.Test.YtgpghjmoapffcaaDoorPl
import Derived.WalkKit
import Derived.BigCall
set_option linter.unusedVariables false
set_option linter.unusedSimpArgs false
namespace Go.Proofs.YtgpghjmoapffcaaDoor
open Go.RowKit Go.Proofs.YtgpghjmoapffcaaDoorW.PrintWords
namespace Civ
theorem wr (x : Int) (h0 : -9223372036854775808 ≤ x) (h1 : x < 9223372036854775808) : wrap64 x = x := by
  unfold wrap64
  omega
theorem td (x : Int) (k : Int) (h0 : 0 ≤ x) : Int.tdiv x k = x / k := Int.tdiv_eq_ediv_of_nonneg h0
theorem tm (x : Int) (k : Int) (h0 : 0 ≤ x) : Int.tmod x k = x % k := Int.tmod_eq_emod_of_nonneg h0
set_option maxHeartbeats 2000000 in
set_option maxRecDepth 100000 in
theorem walk (a : Int) (w : World) (h0 : 0 ≤ a + 719468) (h1 : a + 719468 ≤ 4000000) :
    Calls Tryd.prog 36 #[.int .i64 a] w fun e w' => e = .returned (.tuple #[.int .i64 (civ (a + 719468)).1, .int .i64 (civ (a + 719468)).2.1, .int .i64 (civ (a + 719468)).2.2]) ∧ Drawn0 w w' := by
  obtain ⟨z, hz⟩ : ∃ z, z = a + 719468 := ⟨_, rfl⟩
  rw [← hz] at h0 h1 ⊢
  have e1 : wrap64 (a + 719468) = z := by rw [hz]; exact wr _ (by omega) (by omega)
  clear hz
  obtain ⟨era, e2⟩ : ∃ era, z / 146097 = era := ⟨_, rfl⟩
  obtain ⟨doe, e3⟩ : ∃ doe, z % 146097 = doe := ⟨_, rfl⟩
  have hcv : civ z = (if (5 * (z % 146097 - S (yoe (z % 146097))) + 2) / 153 < 10 then (z / 146097) * 400 + yoe (z % 146097) else (z / 146097) * 400 + yoe (z % 146097) + 1, if (5 * (z % 146097 - S (yoe (z % 146097))) + 2) / 153 < 10 then (5 * (z % 146097 - S (yoe (z % 146097))) + 2) / 153 + 3 else (5 * (z % 146097 - S (yoe (z % 146097))) + 2) / 153 - 9, z % 146097 - S (yoe (z % 146097)) - M ((5 * (z % 146097 - S (yoe (z % 146097))) + 2) / 153) + 1) := rfl
  rw [hcv]
  clear hcv
  rw [e2, e3]
  have hd0 : 0 ≤ doe := by omega
  have hd1 : doe ≤ 146096 := by omega
  have he0 : 0 ≤ era := by omega
  have he1 : era ≤ 27 := by omega
  have hy := yoe_range doe hd0 hd1
  have hy2 := doy_range doe hd0 hd1
  obtain ⟨y, e4⟩ : ∃ y, (doe - doe / 1460 + doe / 36524 - doe / 146096) / 365 = y := ⟨_, rfl⟩
  have e4' : yoe doe = y := e4
  rw [e4'] at hy hy2 ⊢
  obtain ⟨doy, e5⟩ : ∃ doy, doe - (365 * y + y / 4 - y / 100) = doy := ⟨_, rfl⟩
  have e5' : doe - S y = doy := e5
  rw [e5'] at hy2 ⊢
  obtain ⟨mp, e6⟩ : ∃ mp, (5 * doy + 2) / 153 = mp := ⟨_, rfl⟩
  rw [e6]
  have hm0 : 0 ≤ mp := by omega
  have hm1 : mp ≤ 11 := by omega
  obtain ⟨d, e7⟩ : ∃ d, doy - (153 * mp + 2) / 5 + 1 = d := ⟨_, rfl⟩
  have e7' : doy - M mp + 1 = d := e7
  rw [e7']
  obtain ⟨hy0, hy1⟩ := hy
  obtain ⟨hq0, hq1⟩ := hy2
  have H2 := Aside0.mk e2
  have H3 := Aside0.mk e3
  have H4 := Aside0.mk e4
  have H5 := Aside0.mk e5
  have H6 := Aside0.mk e6
  have H7 := Aside0.mk e7
  clear e2 e3 e4 e4' e5 e5' e6 e7 e7'
  have hmm : mp % 12 = mp := by omega
  by_cases hm : mp < 10
  · rw [if_pos hm, if_pos hm]
    have h3 : ¬ 12 < mp + 3 := by omega
    go_enter Tryd.func36, Tryd.ntmps36
    go_upto_region 2 with (fail)
    rw [e1]
    go_upto_region 3 with (fail)
    rw [H2.out]
    go_upto_region 4 with (fail)
    rw [H3.out]
    go_upto_region 5 with (fail)
    rw [H4.out]
    go_upto_region 6 with (fail)
    rw [H5.out]
    go_upto_region 7 with (fail)
    rw [H6.out]
    go_upto_region 8 with (fail)
    rw [H7.out]
    go_upto_region 9 with (fail)
    rw [hmm]
    go_wp2
    go_ret3
    exact ⟨rfl, by repeat (first | exact Drawn0.refl _ | apply Drawn0.step)⟩
  · rw [if_neg hm, if_neg hm]
    have h3 : 12 < mp + 3 := by omega
    have e10 : mp + 3 - 12 = mp - 9 := by omega
    go_enter Tryd.func36, Tryd.ntmps36
    go_upto_region 2 with (fail)
    rw [e1]
    go_upto_region 3 with (fail)
    rw [H2.out]
    go_upto_region 4 with (fail)
    rw [H3.out]
    go_upto_region 5 with (fail)
    rw [H4.out]
    go_upto_region 6 with (fail)
    rw [H5.out]
    go_upto_region 7 with (fail)
    rw [H6.out]
    go_upto_region 8 with (fail)
    rw [H7.out]
    go_upto_region 9 with (fail)
    rw [hmm]
    go_wp2
    go_ret3
    exact ⟨by simp [e10], by repeat (first | exact Drawn0.refl _ | apply Drawn0.step)⟩
end Civ
end Go.Proofs.YtgpghjmoapffcaaDoor
