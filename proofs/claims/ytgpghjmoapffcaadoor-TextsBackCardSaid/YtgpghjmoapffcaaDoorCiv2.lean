/- A date tells its day. No condition. -/
import Derived.Test.YtgpghjmoapffcaaDoorCiv
set_option linter.unusedVariables false
set_option linter.unusedSimpArgs false
namespace Go.Proofs.YtgpghjmoapffcaaDoor
namespace Civ
/-- A date's day, from the first of March of the year 0 on. -/
def dayz (y m d : Int) : Int := if m < 3 then 365 * (y - 1) + (y - 1) / 4 - (y - 1) / 100 + (y - 1) / 400 + M (m + 9) + d - 1 else 365 * y + y / 4 - y / 100 + y / 400 + M (m - 3) + d - 1
theorem dayz_civ (z : Int) (h0 : 0 ≤ z) : dayz (civ z).1 (civ z).2.1 (civ z).2.2 = z := by
  obtain ⟨y0, doy, hy, hd0, hd1, hz, hc⟩ := civ_parts z h0
  have ht := doy_tab doy hd0 hd1
  rw [hc]
  simp only
  obtain ⟨mp, hmp⟩ : ∃ mp, (5 * doy + 2) / 153 = mp := ⟨_, rfl⟩
  rw [hmp] at ht ⊢
  unfold dayz
  by_cases hm : mp < 10
  · rw [if_pos hm, if_pos hm, if_neg (by omega), show mp + 3 - 3 = mp by omega]
    generalize M mp = mm at *
    omega
  · rw [if_neg hm, if_neg hm, if_pos (by omega), show mp - 9 + 9 = mp by omega, show y0 + 1 - 1 = y0 by omega]
    generalize M mp = mm at *
    omega
theorem civ_inj (z z' : Int) (h0 : 0 ≤ z) (h1 : 0 ≤ z') (h : civ z = civ z') : z = z' := by
  rw [← dayz_civ z h0, ← dayz_civ z' h1, h]
end Civ
end Go.Proofs.YtgpghjmoapffcaaDoor
