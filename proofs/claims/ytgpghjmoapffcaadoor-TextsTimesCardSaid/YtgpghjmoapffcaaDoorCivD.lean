/- A date tells its day; years' and months' lengths; a right date is its day's. No condition. -/
import Derived.Test.YtgpghjmoapffcaaDoorCiv
set_option linter.unusedVariables false
set_option linter.unusedSimpArgs false
namespace Go.Proofs.YtgpghjmoapffcaaDoor
namespace Civ
/-- A date's day, from the first of March of the year 0 on. -/
def dayz (y m d : Int) : Int := if m < 3 then 365 * (y - 1) + (y - 1) / 4 - (y - 1) / 100 + (y - 1) / 400 + M (m + 9) + d - 1 else 365 * y + y / 4 - y / 100 + y / 400 + M (m - 3) + d - 1
theorem dayz_civ (z : Int) (h0 : 0 ≤ z) : dayz (civ z).1 (civ z).2.1 (civ z).2.2 = z := by
  obtain ⟨y0, doy, hy, hd0, hd1, hz, hc⟩ := civ_parts z h0
  have ht := doy_tab doy hd0 hd1
  rw [hc]
  simp only
  obtain ⟨mp, hmp⟩ : ∃ mp, (5 * doy + 2) / 153 = mp := ⟨_, rfl⟩
  rw [hmp] at ht ⊢
  unfold dayz
  by_cases hm : mp < 10
  · rw [if_pos hm, if_pos hm, if_neg (by omega), show mp + 3 - 3 = mp by omega]
    generalize M mp = mm at *
    omega
  · rw [if_neg hm, if_neg hm, if_pos (by omega), show mp - 9 + 9 = mp by omega, show y0 + 1 - 1 = y0 by omega]
    generalize M mp = mm at *
    omega
theorem civ_inj (z z' : Int) (h0 : 0 ≤ z) (h1 : 0 ≤ z') (h : civ z = civ z') : z = z' := by
  rw [← dayz_civ z h0, ← dayz_civ z' h1, h]
/-- The days from 1970 on to a year's beginning. -/
def dy (y : Int) : Int := 365 * (y - 1970) + (y - 1) / 4 - (y - 1) / 100 + (y - 1) / 400 - 477
def ml (y m : Int) : Int := if m = 2 then (if y % 4 = 0 ∧ (y % 100 ≠ 0 ∨ y % 400 = 0) then 29 else 28) else if m = 4 ∨ m = 6 ∨ m = 9 ∨ m = 11 then 30 else 31
/-- The days of a year ahead of a month. -/
def cum (y m : Int) : Int := dayz y m 1 - 719468 - dy y
theorem dayz_d (y m d : Int) : dayz y m d = dayz y m 1 + d - 1 := by
  unfold dayz
  split <;> omega
theorem dayz_cum (y m d : Int) : dayz y m d = dy y + cum y m + d - 1 + 719468 := by
  rw [dayz_d y m d]
  unfold cum
  omega
theorem cum_one (y : Int) : cum y 1 = 0 := by
  unfold cum dayz dy M
  rw [if_pos (by omega)]
  omega
theorem m_cases (m : Int) (h0 : 1 ≤ m) (h1 : m ≤ 12) : m = 1 ∨ m = 2 ∨ m = 3 ∨ m = 4 ∨ m = 5 ∨ m = 6 ∨ m = 7 ∨ m = 8 ∨ m = 9 ∨ m = 10 ∨ m = 11 ∨ m = 12 := by omega
theorem cum_succ (y m : Int) (h0 : 1 ≤ m) (h1 : m ≤ 11) : cum y (m + 1) = cum y m + ml y m := by
  unfold cum dayz ml M
  rcases m_cases m h0 (by omega) with rfl | rfl | rfl | rfl | rfl | rfl | rfl | rfl | rfl | rfl | rfl | rfl
  all_goals repeat' split
  all_goals omega
theorem dy_next (y : Int) : dy (y + 1) = dy y + cum y 12 + ml y 12 := by
  unfold cum dayz ml dy M
  rw [if_neg (by omega), if_neg (by omega), if_neg (by omega)]
  omega
theorem ml_range (y m : Int) : 28 ≤ ml y m ∧ ml y m ≤ 31 := by
  unfold ml
  repeat' split
  all_goals omega
theorem cum_mono (y m : Int) (h0 : 1 ≤ m) : ∀ n : Nat, m + n ≤ 12 → cum y m ≤ cum y (m + n)
  | 0, _ => by simp
  | n + 1, h => by
    have ih := cum_mono y m h0 n (by omega)
    have h1 := cum_succ y (m + n) (by omega) (by omega)
    have h2 := ml_range y (m + n)
    rw [show m + ((n + 1 : Nat) : Int) = m + n + 1 by omega]
    omega
theorem cum_le (y m m' : Int) (h0 : 1 ≤ m) (h1 : m ≤ m') (h2 : m' ≤ 12) : cum y m ≤ cum y m' := by
  have := cum_mono y m h0 (m' - m).toNat (by omega)
  rwa [show m + ((m' - m).toNat : Int) = m' by omega] at this
theorem cum_end (y m : Int) (h0 : 1 ≤ m) (h1 : m ≤ 12) : cum y m + ml y m ≤ dy (y + 1) - dy y := by
  have hn := dy_next y
  by_cases e : m = 12
  · subst e; omega
  · have h2 := cum_succ y m h0 (by omega)
    have h3 := cum_le y (m + 1) 12 (by omega) (by omega) (by omega)
    have h4 := ml_range y 12
    omega
theorem dy_mono (y : Int) : ∀ n : Nat, dy y ≤ dy (y + n)
  | 0 => by simp
  | n + 1 => by
    have ih := dy_mono y n
    have : dy (y + n) ≤ dy (y + n + 1) := by unfold dy; omega
    rw [show y + ((n + 1 : Nat) : Int) = y + n + 1 by omega]
    omega
theorem dy_le (y y' : Int) (h : y ≤ y') : dy y ≤ dy y' := by
  have := dy_mono y (y' - y).toNat
  rwa [show y + ((y' - y).toNat : Int) = y' by omega] at this
/-- A right date. -/
def Ok3 (y m d : Int) : Prop := 1 ≤ m ∧ m ≤ 12 ∧ 1 ≤ d ∧ d ≤ ml y m
theorem day_in (y m d : Int) (h : Ok3 y m d) : dy y ≤ dayz y m d - 719468 ∧ dayz y m d - 719468 < dy (y + 1) := by
  obtain ⟨h0, h1, h2, h3⟩ := h
  have e := dayz_cum y m d
  have c1 := cum_le y 1 m (by omega) h0 h1
  have c2 := cum_end y m h0 h1
  rw [cum_one] at c1
  omega
theorem day_inj (y m d y' m' d' : Int) (h : Ok3 y m d) (h' : Ok3 y' m' d') (e : dayz y m d = dayz y' m' d') : y = y' ∧ m = m' ∧ d = d' := by
  have a1 := day_in y m d h
  have a2 := day_in y' m' d' h'
  have ey : y = y' := by
    rcases Int.lt_trichotomy y y' with hl | hl | hl
    · have := dy_le (y + 1) y' (by omega); omega
    · exact hl
    · have := dy_le (y' + 1) y (by omega); omega
  subst ey
  obtain ⟨h0, h1, h2, h3⟩ := h
  obtain ⟨h0', h1', h2', h3'⟩ := h'
  have e1 := dayz_cum y m d
  have e2 := dayz_cum y m' d'
  have em : m = m' := by
    rcases Int.lt_trichotomy m m' with hl | hl | hl
    · have b1 := cum_succ y m h0 (by omega)
      have b2 := cum_le y (m + 1) m' (by omega) (by omega) h1'
      omega
    · exact hl
    · have b1 := cum_succ y m' h0' (by omega)
      have b2 := cum_le y (m' + 1) m (by omega) (by omega) h1
      omega
  subst em
  exact ⟨rfl, rfl, by omega⟩
theorem civ_parts2 (z : Int) (h0 : 0 ≤ z) : ∃ y0 doy : Int, 0 ≤ y0 ∧ 0 ≤ doy ∧ doy ≤ 365 ∧ z = 365 * y0 + y0 / 4 - y0 / 100 + y0 / 400 + doy ∧ z < 365 * (y0 + 1) + (y0 + 1) / 4 - (y0 + 1) / 100 + (y0 + 1) / 400 ∧
    civ z = (if (5 * doy + 2) / 153 < 10 then y0 else y0 + 1, if (5 * doy + 2) / 153 < 10 then (5 * doy + 2) / 153 + 3 else (5 * doy + 2) / 153 - 9, doy - M ((5 * doy + 2) / 153) + 1) := by
  have hd0 : 0 ≤ z % 146097 := by omega
  have hd1 : z % 146097 ≤ 146096 := by omega
  have hy := yoe_range _ hd0 hd1
  have hr := doy_range _ hd0 hd1
  have hh := yoe_high _ hd0 hd1
  refine ⟨(z / 146097) * 400 + yoe (z % 146097), z % 146097 - S (yoe (z % 146097)), by omega, hr.1, hr.2, ?_, ?_, rfl⟩
  · generalize yoe (z % 146097) = y at *
    unfold S at *
    have a1 : (z / 146097 * 400 + y) / 4 = 100 * (z / 146097) + y / 4 := by omega
    have a2 : (z / 146097 * 400 + y) / 100 = 4 * (z / 146097) + y / 100 := by omega
    have a3 : (z / 146097 * 400 + y) / 400 = z / 146097 := by omega
    rw [a1, a2, a3]
    omega
  · generalize yoe (z % 146097) = y at *
    by_cases h399 : y < 399
    · have h1 := hh h399
      unfold S at *
      have a1 : (z / 146097 * 400 + y + 1) / 4 = 100 * (z / 146097) + (y + 1) / 4 := by omega
      have a2 : (z / 146097 * 400 + y + 1) / 100 = 4 * (z / 146097) + (y + 1) / 100 := by omega
      have a3 : (z / 146097 * 400 + y + 1) / 400 = z / 146097 := by omega
      rw [a1, a2, a3]
      omega
    · have e : y = 399 := by omega
      subst e
      have a1 : (z / 146097 * 400 + 399 + 1) / 4 = 100 * (z / 146097) + 100 := by omega
      have a2 : (z / 146097 * 400 + 399 + 1) / 100 = 4 * (z / 146097) + 4 := by omega
      have a3 : (z / 146097 * 400 + 399 + 1) / 400 = z / 146097 + 1 := by omega
      rw [a1, a2, a3]
      omega
theorem civ_ok (z : Int) (h0 : 0 ≤ z) : Ok3 (civ z).1 (civ z).2.1 (civ z).2.2 := by
  obtain ⟨y0, doy, hy, hd0, hd1, hz, hz2, hc⟩ := civ_parts2 z h0
  have ht := doy_tab doy hd0 hd1
  rw [hc]
  simp only
  have hleap : doy = 365 → (y0 + 1) % 4 = 0 ∧ ((y0 + 1) % 100 ≠ 0 ∨ (y0 + 1) % 400 = 0) := by
    intro h
    subst h
    omega
  obtain ⟨mp, hmp⟩ : ∃ mp, (5 * doy + 2) / 153 = mp := ⟨_, rfl⟩
  rw [hmp] at ht ⊢
  clear hc hz hz2
  have hcases : mp = 0 ∨ mp = 1 ∨ mp = 2 ∨ mp = 3 ∨ mp = 4 ∨ mp = 5 ∨ mp = 6 ∨ mp = 7 ∨ mp = 8 ∨ mp = 9 ∨ mp = 10 ∨ mp = 11 := by omega
  unfold Ok3 ml M at *
  rcases hcases with rfl | rfl | rfl | rfl | rfl | rfl | rfl | rfl | rfl | rfl | rfl | rfl
  all_goals refine ⟨?_, ?_, ?_, ?_⟩
  all_goals repeat' split
  all_goals omega
/-- A right date is its day's. -/
theorem civ_dayz (y m d : Int) (h : Ok3 y m d) (h0 : 0 ≤ dayz y m d) : civ (dayz y m d) = (y, m, d) := by
  have e := dayz_civ (dayz y m d) h0
  have ho := civ_ok (dayz y m d) h0
  obtain ⟨⟨y1, m1, d1⟩, hc⟩ : ∃ q, civ (dayz y m d) = q := ⟨_, rfl⟩
  rw [hc] at e ho ⊢
  obtain ⟨rfl, rfl, rfl⟩ := day_inj y1 m1 d1 y m d ho h e
  rfl
end Civ
end Go.Proofs.YtgpghjmoapffcaaDoor
