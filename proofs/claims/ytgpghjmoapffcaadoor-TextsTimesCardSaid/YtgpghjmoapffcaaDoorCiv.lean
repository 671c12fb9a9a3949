/- Plain facts of the civil calendar: a day's March year, and where it stands in it. No condition. -/
import Derived.KernelRfl
set_option linter.unusedVariables false
set_option linter.unusedSimpArgs false
namespace Go.Proofs.YtgpghjmoapffcaaDoor
namespace Civ
def S (y : Int) : Int := 365 * y + y / 4 - y / 100
def v (doe : Int) : Int := doe - doe / 1460 + doe / 36524 - doe / 146096
def yoe (doe : Int) : Int := v doe / 365
theorem v_mono (a b : Int) (h0 : 0 ≤ a) (h : a ≤ b) : v a ≤ v b := by
  have h1 : a - a / 1460 ≤ b - b / 1460 := by omega
  have e1 : a / 146096 = a / 36524 / 4 := by omega
  have e2 : b / 146096 = b / 36524 / 4 := by omega
  have h2 : a / 36524 ≤ b / 36524 := by omega
  unfold v
  rw [e1, e2]
  generalize a / 36524 = x at *
  generalize b / 36524 = y at *
  omega
theorem yoe_mono (a b : Int) (h0 : 0 ≤ a) (h : a ≤ b) : yoe a ≤ yoe b := by
  have := v_mono a b h0 h
  unfold yoe
  omega
theorem yoe_tab : ∀ y : Fin 400, yoe (S (y.val : Int)) = (y.val : Int) ∧ (1 ≤ y.val → yoe (S (y.val : Int) - 1) = (y.val : Int) - 1) := by decide +kernel
theorem yoe_at (y : Int) (h0 : 0 ≤ y) (h1 : y < 400) : yoe (S y) = y ∧ (1 ≤ y → yoe (S y - 1) = y - 1) := by
  have h := yoe_tab ⟨y.toNat, by omega⟩
  have e : ((y.toNat : Nat) : Int) = y := by omega
  simp only [e] at h
  exact ⟨h.1, fun h2 => h.2 (by omega)⟩
theorem yoe_range (doe : Int) (h0 : 0 ≤ doe) (h1 : doe ≤ 146096) : 0 ≤ yoe doe ∧ yoe doe ≤ 399 := by
  unfold yoe v
  omega
theorem S_step (y : Int) (h0 : 0 ≤ y) : S y + 365 ≤ S (y + 1) ∧ S (y + 1) ≤ S y + 366 := by
  unfold S
  omega
theorem yoe_low (doe : Int) (h0 : 0 ≤ doe) (h1 : doe ≤ 146096) : S (yoe doe) ≤ doe := by
  have hr := yoe_range doe h0 h1
  rcases Int.lt_or_le doe (S (yoe doe)) with hlt | hle
  · exfalso
    have hy : 1 ≤ yoe doe := by
      rcases Int.lt_or_le (yoe doe) 1 with h | h
      · have : yoe doe = 0 := by omega
        rw [this] at hlt
        have : S 0 = 0 := by decide
        omega
      · exact h
    have h2 := (yoe_at (yoe doe) hr.1 (by omega)).2 hy
    have h3 := yoe_mono doe (S (yoe doe) - 1) h0 (by omega)
    omega
  · exact hle
theorem yoe_high (doe : Int) (h0 : 0 ≤ doe) (h1 : doe ≤ 146096) : yoe doe < 399 → doe < S (yoe doe + 1) := by
  intro h
  have hr := yoe_range doe h0 h1
  rcases Int.lt_or_le doe (S (yoe doe + 1)) with hlt | hle
  · exact hlt
  · exfalso
    have h2 := (yoe_at (yoe doe + 1) (by omega) (by omega)).1
    have hs : 0 ≤ S (yoe doe + 1) := by unfold S; omega
    have h3 := yoe_mono (S (yoe doe + 1)) doe hs hle
    omega
/-- The days of a March year. -/
theorem doy_range (doe : Int) (h0 : 0 ≤ doe) (h1 : doe ≤ 146096) : 0 ≤ doe - S (yoe doe) ∧ doe - S (yoe doe) ≤ 365 := by
  have hr := yoe_range doe h0 h1
  have hl := yoe_low doe h0 h1
  refine ⟨by omega, ?_⟩
  rcases Int.lt_or_le (yoe doe) 399 with h | h
  · have := yoe_high doe h0 h1 h
    have := (S_step (yoe doe) hr.1).2
    omega
  · have e : yoe doe = 399 := by omega
    rw [e]
    have : S 399 = 145731 := by decide
    omega
def M (mp : Int) : Int := (153 * mp + 2) / 5
theorem mp_tab : ∀ n : Fin 366, let doy : Int := n.val; let mp := (5 * doy + 2) / 153; 0 ≤ mp ∧ mp ≤ 11 ∧ 0 ≤ doy - M mp ∧ doy - M mp ≤ 30 := by decide +kernel
/-- A day's year, month and day; z: the days since the first of March of the year 0. -/
def civ (z : Int) : Int × Int × Int :=
  let doe := z % 146097
  let y := yoe doe
  let doy := doe - S y
  let mp := (5 * doy + 2) / 153
  (if mp < 10 then (z / 146097) * 400 + y else (z / 146097) * 400 + y + 1, if mp < 10 then mp + 3 else mp - 9, doy - M mp + 1)
theorem civ_parts (z : Int) (h0 : 0 ≤ z) : ∃ y0 doy : Int, 0 ≤ y0 ∧ 0 ≤ doy ∧ doy ≤ 365 ∧ z = 365 * y0 + y0 / 4 - y0 / 100 + y0 / 400 + doy ∧
    civ z = (if (5 * doy + 2) / 153 < 10 then y0 else y0 + 1, if (5 * doy + 2) / 153 < 10 then (5 * doy + 2) / 153 + 3 else (5 * doy + 2) / 153 - 9, doy - M ((5 * doy + 2) / 153) + 1) := by
  have hd0 : 0 ≤ z % 146097 := by omega
  have hd1 : z % 146097 ≤ 146096 := by omega
  have hy := yoe_range _ hd0 hd1
  have hr := doy_range _ hd0 hd1
  refine ⟨(z / 146097) * 400 + yoe (z % 146097), z % 146097 - S (yoe (z % 146097)), by omega, hr.1, hr.2, ?_, rfl⟩
  generalize yoe (z % 146097) = y at *
  unfold S at *
  have a1 : (z / 146097 * 400 + y) / 4 = 100 * (z / 146097) + y / 4 := by omega
  have a2 : (z / 146097 * 400 + y) / 100 = 4 * (z / 146097) + y / 100 := by omega
  have a3 : (z / 146097 * 400 + y) / 400 = z / 146097 := by omega
  rw [a1, a2, a3]
  omega
theorem doy_tab (doy : Int) (h0 : 0 ≤ doy) (h1 : doy ≤ 365) : 0 ≤ (5 * doy + 2) / 153 ∧ (5 * doy + 2) / 153 ≤ 11 ∧ 1 ≤ doy - M ((5 * doy + 2) / 153) + 1 ∧ doy - M ((5 * doy + 2) / 153) + 1 ≤ 31 := by
  have h := mp_tab ⟨doy.toNat, by omega⟩
  have e : ((doy.toNat : Nat) : Int) = doy := by omega
  simp only [e] at h
  omega
theorem civ_bounds (z : Int) (h0 : 712163 ≤ z) (h1 : z ≤ 3652364) : 1950 ≤ (civ z).1 ∧ (civ z).1 ≤ 9999 ∧ 1 ≤ (civ z).2.1 ∧ (civ z).2.1 ≤ 12 ∧ 1 ≤ (civ z).2.2 ∧ (civ z).2.2 ≤ 31 ∧ ((civ z).1 < 2050 ↔ z < 748688) := by
  obtain ⟨y0, doy, hy, hd0, hd1, hz, hc⟩ := civ_parts z (by omega)
  have ht := doy_tab doy hd0 hd1
  rw [hc]
  simp only
  generalize M ((5 * doy + 2) / 153) = mm at *
  have hcase : y0 < 1949 ∨ y0 = 1949 ∨ (1949 < y0 ∧ y0 < 2049) ∨ y0 = 2049 ∨ (2049 < y0 ∧ y0 < 9999) ∨ y0 = 9999 ∨ 9999 < y0 := by omega
  by_cases hm : (5 * doy + 2) / 153 < 10
  · rw [if_pos hm, if_pos hm]
    rcases hcase with h | rfl | h | rfl | h | rfl | h <;> (refine ⟨?_, ?_, ?_, ?_, ?_, ?_, ?_⟩ <;> omega)
  · rw [if_neg hm, if_neg hm]
    rcases hcase with h | rfl | h | rfl | h | rfl | h <;> (refine ⟨?_, ?_, ?_, ?_, ?_, ?_, ?_⟩ <;> omega)
end Civ
end Go.Proofs.YtgpghjmoapffcaaDoor
