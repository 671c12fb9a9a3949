/- The law TextsTimes: the document's PutTime and Time are the program's. No condition. -/
import Derived.Test.YtgpghjmoapffcaaDoorXT4
import Derived.Test.YtgpghjmoapffcaaDoorTimeF2
import Derived.Test.YtgpghjmoapffcaaDoorOpn
import Derived.Shelf.Unicode.DecodeSlow
set_option linter.unusedVariables false
set_option linter.unusedSimpArgs false
namespace Go.Proofs.YtgpghjmoapffcaaDoor
open Go.RowKit Go.Proofs.YtgpghjmoapffcaaDoorW.PrintWords
namespace Rf
open XT
theorem leaps_f (y : Int) (h0 : 0 ≤ y) (h1 : y ≤ 20000) : warderref03_leaps.f y = some (y / 4 - y / 100 + y / 400) := by
  unfold warderref03_leaps.f
  rw [Civ.td y 4 h0, Civ.td y 100 h0, Civ.td y 400 h0, Civ.wr (y / 4) (by omega) (by omega), Civ.wr (y / 100) (by omega) (by omega), Civ.wr (y / 400) (by omega) (by omega), Civ.wr (y / 4 - y / 100) (by omega) (by omega), Civ.wr (y / 4 - y / 100 + y / 400) (by omega) (by omega)]
theorem days_f (y : Int) (h0 : 1 ≤ y) (h1 : y ≤ 20000) : warderref03_days.f y = some (Civ.dy y) := by
  unfold warderref03_days.f Civ.dy
  rw [Civ.wr (y - 1) (by omega) (by omega), leaps_f (y - 1) (by omega) (by omega), Option.bind_some, leaps_f 1969 (by omega) (by omega), Option.bind_some, Civ.wr (y - 1970) (by omega) (by omega), Civ.wr (365 * (y - 1970)) (by omega) (by omega)]
  rw [Civ.wr (365 * (y - 1970) + ((y - 1) / 4 - (y - 1) / 100 + (y - 1) / 400)) (by omega) (by omega), Civ.wr _ (by omega) (by omega)]
  congr 1
  omega
theorem leap_f (y : Int) (h0 : 0 ≤ y) : warderref03_leap.f y = some (decide (y % 4 = 0 ∧ (y % 100 ≠ 0 ∨ y % 400 = 0))) := by
  unfold warderref03_leap.f
  rw [Civ.tm y 4 h0, Civ.tm y 100 h0, Civ.tm y 400 h0]
  by_cases a : y % 4 = 0
  · rw [if_pos a]
    by_cases b : y % 100 = 0
    · rw [if_pos b]
      by_cases c : y % 400 = 0
      · rw [decide_eq_true ⟨a, .inr c⟩, c]
        rfl
      · rw [decide_eq_false (fun h => h.2.elim (fun h => h b) c)]
        simp [c]
    · rw [if_neg b, decide_eq_true ⟨a, .inl b⟩]
  · rw [if_neg a, decide_eq_false (fun h => a h.1)]
theorem month_f (y m : Int) (h0 : 0 ≤ y) (hm0 : 1 ≤ m) (hm1 : m ≤ 12) : warderref03_month.f y m = some (Civ.ml y m) := by
  unfold warderref03_month.f Civ.ml
  rw [Option.bind_some]
  by_cases h2 : m = 2
  · subst h2
    rw [if_pos rfl, if_pos rfl, leap_f y h0, Option.bind_some]
    by_cases c : y % 4 = 0 ∧ (y % 100 ≠ 0 ∨ y % 400 = 0)
    · rw [decide_eq_true c, if_pos rfl, if_pos c]
    · have e1 : wrap64 ((2 : Int) - 1) = 1 := Civ.wr _ (by decide) (by decide)
      rw [decide_eq_false c, if_neg (by decide), if_neg c, e1]
      rfl
  · rw [if_neg h2, if_neg h2, Civ.wr (m - 1) (by omega) (by omega)]
    have hc : m = 1 ∨ m = 3 ∨ m = 4 ∨ m = 5 ∨ m = 6 ∨ m = 7 ∨ m = 8 ∨ m = 9 ∨ m = 10 ∨ m = 11 ∨ m = 12 := by omega
    rcases hc with rfl | rfl | rfl | rfl | rfl | rfl | rfl | rfl | rfl | rfl | rfl <;> rfl
theorem two_f (v : Int) (h0 : 0 ≤ v) (h1 : v ≤ 99) : warderref03_two.f v = some (Tf.B v) := by
  unfold warderref03_two.f Tf.B
  rw [Civ.td v 10 h0, Civ.tm v 10 h0, Civ.wr (v / 10) (by omega) (by omega), Civ.wr (48 + v / 10) (by omega) (by omega), Civ.wr (48 + v % 10) (by omega) (by omega), show (48 + v / 10) % 256 = v / 10 + 48 by omega, show (48 + v % 10) % 256 = v % 10 + 48 by omega]
theorem B_len (v : Int) : (Tf.B v).length = 2 := rfl
theorem j3_f (k : Nat) (r q m t : Int) (x : List Int) (hr0 : 0 ≤ r) (hr1 : r < 86400) (hq0 : 0 ≤ q) (hq1 : q ≤ 98) (hm0 : 0 ≤ m) (hm1 : m ≤ 99) (hx : x.length ≤ 4) :
    warderref03_PutTime.j3 (k + 1) r q m t x = some (t, x ++ Tf.B m ++ Tf.B (q + 1) ++ Tf.B (r / 3600) ++ Tf.B (r / 60 % 60) ++ Tf.B (r % 60) ++ [90], 0) := by
  rw [warderref03_PutTime.j3, two_f m hm0 hm1, Option.bind_some, if_pos (by rw [B_len]; omega), Option.bind_some, Civ.wr (q + 1) (by omega) (by omega), two_f (q + 1) (by omega) (by omega), Option.bind_some]
  rw [if_pos (by simp only [List.length_append, B_len]; omega), Option.bind_some, Civ.td r 3600 hr0, Civ.wr (r / 3600) (by omega) (by omega), two_f (r / 3600) (by omega) (by omega), Option.bind_some]
  rw [if_pos (by simp only [List.length_append, B_len]; omega), Option.bind_some, Civ.td r 60 hr0, Civ.wr (r / 60) (by omega) (by omega), Civ.tm (r / 60) 60 (by omega), two_f (r / 60 % 60) (by omega) (by omega), Option.bind_some]
  rw [if_pos (by simp only [List.length_append, B_len]; omega), Option.bind_some, Civ.tm r 60 hr0, two_f (r % 60) (by omega) (by omega), Option.bind_some]
  rw [if_pos (by simp only [List.length_append, B_len]; omega), Option.bind_some, if_pos (by simp only [List.length_append, B_len]; omega)]
/-- The body of a date and a clock. -/
def body (y m d r : Int) : Int × List Int × Int := (if y < 2050 then 23 else 24, (if y < 2050 then Tf.B (y % 100) else Tf.B (y / 100) ++ Tf.B (y % 100)) ++ Tf.B m ++ Tf.B d ++ Tf.B (r / 3600) ++ Tf.B (r / 60 % 60) ++ Tf.B (r % 60) ++ [90], 0)
theorem l1_f (k : Nat) (r y m d : Int) (hy0 : 0 ≤ y) (hy1 : y ≤ 9999) (hr0 : 0 ≤ r) (hr1 : r < 86400) (ho : Civ.Ok3 y m d) : ∀ (n : Nat) (m0 : Int), 1 ≤ m0 → m0 + n = m → warderref03_PutTime.l1 (n + 2 + k) r (Civ.cum y m + d - 1 - Civ.cum y m0) y m0 = some (body y m d r)
  | 0, m0, h1, h => by
    obtain rfl : m0 = m := by omega
    obtain ⟨o0, o1, o2, o3⟩ := ho
    have hml := Civ.ml_range y m0
    have e : Civ.cum y m0 + d - 1 - Civ.cum y m0 = d - 1 := by omega
    rw [e, show 0 + 2 + k = (k + 1) + 1 by omega, warderref03_PutTime.l1, month_f y m0 hy0 o0 o1, Option.bind_some, if_neg (by omega), Civ.td y 100 hy0, Civ.wr (y / 100) (by omega) (by omega), two_f (y / 100) (by omega) (by omega), Option.bind_some, Civ.tm y 100 hy0, two_f (y % 100) (by omega) (by omega), Option.bind_some, if_pos (by rw [B_len, B_len]; omega)]
    unfold body
    by_cases hy : y < 2050
    · rw [if_pos hy, if_pos hy, if_pos hy, Option.bind_some, j3_f k r (d - 1) m0 23 _ hr0 hr1 (by omega) (by omega) (by omega) (by omega) (by rw [B_len]; omega), show d - 1 + 1 = d by omega]
    · rw [if_neg hy, if_neg hy, if_neg hy, j3_f k r (d - 1) m0 24 _ hr0 hr1 (by omega) (by omega) (by omega) (by omega) (by simp only [List.length_append, B_len]; omega), show d - 1 + 1 = d by omega]
  | n + 1, m0, h1, h => by
    have ih := l1_f k r y m d hy0 hy1 hr0 hr1 ho n (m0 + 1) (by omega) (by omega)
    obtain ⟨o0, o1, o2, o3⟩ := ho
    have hs := Civ.cum_succ y m0 h1 (by omega)
    have hl := Civ.cum_le y (m0 + 1) m (by omega) (by omega) o1
    have he := Civ.cum_end y m o0 o1
    have hml := Civ.ml_range y m0
    have hml2 := Civ.ml_range y m
    have hc1 := Civ.cum_le y 1 m0 (by omega) h1 (by omega)
    have hd : Civ.dy (y + 1) - Civ.dy y ≤ 366 := by unfold Civ.dy; omega
    rw [Civ.cum_one] at hc1
    rw [show n + 1 + 2 + k = (n + 2 + k) + 1 by omega, warderref03_PutTime.l1, month_f y m0 hy0 h1 (by omega), Option.bind_some, if_pos (by omega), Option.bind_some, Civ.wr _ (by omega) (by omega), Civ.wr (m0 + 1) (by omega) (by omega)]
    rw [show Civ.cum y m + d - 1 - Civ.cum y m0 - Civ.ml y m0 = Civ.cum y m + d - 1 - Civ.cum y (m0 + 1) by omega]
    exact ih
theorem l0_f (k : Nat) (r D y m d : Int) (hy1 : y ≤ 9999) (hr0 : 0 ≤ r) (hr1 : r < 86400) (ho : Civ.Ok3 y m d) (hD : Civ.dayz y m d - 719468 = D) : ∀ (n : Nat) (y0 : Int), 1950 ≤ y0 → y0 + n = y → warderref03_PutTime.l0 (n + 15 + k) r D y0 = some (body y m d r)
  | 0, y0, h1, h => by
    obtain rfl : y0 = y := by omega
    have hin := Civ.day_in y0 m d ho
    have hdc := Civ.dayz_cum y0 m d
    obtain ⟨o0, o1, o2, o3⟩ := ho
    have hdr : Civ.dy (y0 + 1) - Civ.dy y0 ≤ 366 := by unfold Civ.dy; omega
    rw [show 0 + 15 + k = (14 + k) + 1 by omega, warderref03_PutTime.l0, Civ.wr (y0 + 1) (by omega) (by omega), days_f (y0 + 1) (by omega) (by omega), Option.bind_some, if_neg (by omega), days_f y0 (by omega) (by omega), Option.bind_some, Civ.wr _ (by omega) (by omega)]
    have hl := l1_f (12 - (m - 1).toNat + k) r y0 m d (by omega) hy1 hr0 hr1 ⟨o0, o1, o2, o3⟩ (m - 1).toNat 1 (by omega) (by omega)
    rw [Civ.cum_one] at hl
    rw [show (m - 1).toNat + 2 + (12 - (m - 1).toNat + k) = 14 + k by omega, show Civ.cum y0 m + d - 1 - 0 = D - Civ.dy y0 by omega] at hl
    exact hl
  | n + 1, y0, h1, h => by
    have ih := l0_f k r D y m d hy1 hr0 hr1 ho hD n (y0 + 1) (by omega) (by omega)
    have hin := Civ.day_in y m d ho
    have hle := Civ.dy_le (y0 + 1) y (by omega)
    rw [show n + 1 + 15 + k = (n + 15 + k) + 1 by omega, warderref03_PutTime.l0, Civ.wr (y0 + 1) (by omega) (by omega), days_f (y0 + 1) (by omega) (by omega), Option.bind_some, if_pos (by omega)]
    exact ih
/-- The document's answer is the program's. -/
theorem put_f (a : Int) (ha : -9223372036854775808 ≤ a ∧ a < 9223372036854775808) (k : Nat) : warderref03_PutTime.f (10000 + k) a = XY.texts_PutTime.f a := by
  unfold warderref03_PutTime.f
  by_cases c : -631152000 ≤ a ∧ a ≤ 253402300799
  · obtain ⟨y, m, d, hc, hy0, hy1, hm0, hm1, hd0, hd1, hb, hp⟩ := Dy.put a c.1 c.2
    have hz := Civ.dayz_civ ((a + 631152000) / 86400 + 712163) (by omega)
    have ho := Civ.civ_ok ((a + 631152000) / 86400 + 712163) (by omega)
    rw [hc] at hz ho
    simp only at hz ho
    rw [if_neg (by omega), decide_eq_false (by omega), show 10000 + k = (9999 + k) + 1 by omega, warderref03_PutTime.j0, if_neg (by decide)]
    have hr : Int.tmod (wrap64 (Int.tmod a 86400 + 86400)) 86400 = a % 86400 := by
      have h1 : -86400 < Int.tmod a 86400 ∧ Int.tmod a 86400 < 86400 ∧ (a - Int.tmod a 86400) % 86400 = 0 := by
        by_cases h : 0 ≤ a
        · rw [Civ.tm a 86400 h]; omega
        · have e : Int.tmod a 86400 = -((-a) % 86400) := by
            have := Int.neg_tmod (-a) 86400
            rw [Int.neg_neg] at this
            rw [this, Civ.tm (-a) 86400 (by omega)]
          rw [e]
          omega
      generalize Int.tmod a 86400 = q at *
      rw [Civ.wr (q + 86400) (by omega) (by omega), Civ.tm (q + 86400) 86400 (by omega)]
      omega
    rw [hr, Civ.wr (a - a % 86400) (by omega) (by omega)]
    have hD : wrap64 (Int.tdiv (a - a % 86400) 86400) = a / 86400 := by
      have e : a - a % 86400 = 86400 * (a / 86400) := by omega
      rw [e, Int.mul_tdiv_cancel_left _ (by decide), Civ.wr _ (by omega) (by omega)]
    rw [hD]
    have hl := l0_f (9999 + k - (y - 1950).toNat - 15) (a % 86400) (a / 86400) y m d hy1 (by omega) (by omega) ho (by omega) (y - 1950).toNat 1950 (by omega) (by omega)
    rw [show (y - 1950).toNat + 15 + (9999 + k - (y - 1950).toNat - 15) = 9999 + k by omega] at hl
    rw [hl, hp]
    unfold body
    rw [Tf.hd_B y m d (by omega), Tf.tl_n _ (by omega), show (a + 631152000) % 86400 = a % 86400 by omega, show (a + 631152000) % 60 = a % 86400 % 60 by omega]
    by_cases hy : y < 2050
    · simp only [if_pos hy, List.append_assoc]
      rfl
    · simp only [if_neg hy, List.append_assoc]
  · have e : XY.texts_PutTime.f a = some (0, [], 32) := by
      unfold XY.texts_PutTime.f
      rw [if_pos (by omega)]
    rw [e]
    by_cases h : a < -631152000
    · rw [if_pos h, show 10000 + k = (9999 + k) + 1 by omega, warderref03_PutTime.j0, if_pos rfl]
    · rw [if_neg h, decide_eq_true (by omega), show 10000 + k = (9999 + k) + 1 by omega, warderref03_PutTime.j0, if_pos rfl]
end Rf
namespace Rf
open XT
def num (a b : Int) : Int := if a < 48 then -1 else if a > 57 then -1 else if b < 48 then -1 else if b > 57 then -1 else 10 * ((a - 48) % 256) + ((b - 48) % 256)
theorem num_cases (a b : Int) : num a b = -1 ∨ (48 ≤ a ∧ a ≤ 57 ∧ 48 ≤ b ∧ b ≤ 57 ∧ num a b = 10 * (a - 48) + (b - 48)) := by
  unfold num
  repeat' split
  all_goals omega
theorem num_B (v : Int) (h0 : 0 ≤ v) (h1 : v ≤ 99) : num (v / 10 + 48) (v % 10 + 48) = v := by
  unfold num
  repeat' split
  all_goals omega
theorem B_num (a b : Int) (h : 0 ≤ num a b) : [a, b] = Tf.B (num a b) ∧ num a b ≤ 99 := by
  rcases num_cases a b with e | ⟨h1, h2, h3, h4, e⟩
  · omega
  · rw [e]
    unfold Tf.B
    rw [show (10 * (a - 48) + (b - 48)) / 10 + 48 = a by omega, show (10 * (a - 48) + (b - 48)) % 10 + 48 = b by omega]
    exact ⟨rfl, by omega⟩
theorem number_f (l : List Int) (j : Int) (i : Nat) (hj : j = (i : Int)) (hi : i + 1 < l.length) (hl : l.length ≤ 100) : warderref03_number.f l j = some (num (l.getD i 0) (l.getD (i + 1) 0)) := by
  subst hj
  unfold warderref03_number.f
  have e1 : wrap64 ((i : Int) + 1) = ((i + 1 : Nat) : Int) := by rw [Civ.wr _ (by omega) (by omega)]; omega
  have e2 : rd l (i : Int) = l.getD i 0 := by unfold rd; rw [Int.toNat_natCast]
  have e3 : rd l ((i + 1 : Nat) : Int) = l.getD (i + 1) 0 := by unfold rd; rw [Int.toNat_natCast]
  rw [if_pos (by omega), if_pos (by omega), e1, e2, e3]
  unfold num
  by_cases c1 : l.getD i 0 < 48
  · rw [if_pos c1, if_pos c1]
  rw [if_neg c1, if_neg c1]
  by_cases c2 : l.getD i 0 > 57
  · rw [if_pos c2, if_pos c2]
  rw [if_neg c2, if_neg c2, if_pos (by omega), if_pos (by omega)]
  by_cases c3 : l.getD (i + 1) 0 < 48
  · rw [if_pos c3, if_pos c3]
  rw [if_neg c3, if_neg c3]
  by_cases c4 : l.getD (i + 1) 0 > 57
  · rw [if_pos c4, if_pos c4]
  rw [if_neg c4, if_neg c4]
theorem l0_t (k : Nat) (y m h n s d : Int) (hy0 : 1 ≤ y) (hy1 : y ≤ 9999) (hm1 : m ≤ 12) (hh : 0 ≤ h ∧ h ≤ 23) (hn : 0 ≤ n ∧ n ≤ 59) (hs : 0 ≤ s ∧ s ≤ 59) (hd : 1 ≤ d ∧ d ≤ 31) : ∀ (q : Nat) (m0 : Int), 1 ≤ m0 → m0 + q = m →
    warderref03_Time.l0 (q + 1 + k) y m h n s (Civ.dy y + d - 1 + Civ.cum y m0) m0 = some ((Civ.dy y + Civ.cum y m + d - 1) * 86400 + (3600 * h + 60 * n + s), 0)
  | 0, m0, h1, h2 => by
    obtain rfl : m0 = m := by omega
    have c1 := Civ.cum_le y 1 m0 (by omega) h1 hm1
    have c2 := Civ.cum_end y m0 h1 hm1
    have c3 := Civ.ml_range y m0
    rw [Civ.cum_one] at c1
    have hdr : Civ.dy (y + 1) - Civ.dy y ≤ 366 := by unfold Civ.dy; omega
    have hdy : -800000 ≤ Civ.dy y ∧ Civ.dy y ≤ 4000000 := by unfold Civ.dy; omega
    rw [show 0 + 1 + k = k + 1 by omega, warderref03_Time.l0, if_neg (by omega), Civ.wr ((Civ.dy y + d - 1 + Civ.cum y m0) * 86400) (by omega) (by omega), Civ.wr (3600 * h) (by omega) (by omega), Civ.wr (60 * n) (by omega) (by omega), Civ.wr (3600 * h + 60 * n) (by omega) (by omega), Civ.wr (3600 * h + 60 * n + s) (by omega) (by omega), Civ.wr _ (by omega) (by omega)]
    congr 2
    omega
  | q + 1, m0, h1, h2 => by
    have ih := l0_t k y m h n s d hy0 hy1 hm1 hh hn hs hd q (m0 + 1) (by omega) (by omega)
    have hsu := Civ.cum_succ y m0 h1 (by omega)
    have c1 := Civ.cum_le y 1 m0 (by omega) h1 (by omega)
    have c2 := Civ.cum_end y m0 h1 (by omega)
    rw [Civ.cum_one] at c1
    have c3 := Civ.ml_range y m0
    have hdr : Civ.dy (y + 1) - Civ.dy y ≤ 366 := by unfold Civ.dy; omega
    have hdy : -800000 ≤ Civ.dy y ∧ Civ.dy y ≤ 4000000 := by unfold Civ.dy; omega
    rw [show q + 1 + 1 + k = (q + 1 + k) + 1 by omega, warderref03_Time.l0, if_pos (by omega), month_f y m0 (by omega) h1 (by omega), Option.bind_some, Civ.wr _ (by omega) (by omega), Civ.wr (m0 + 1) (by omega) (by omega)]
    rw [show Civ.dy y + d - 1 + Civ.cum y m0 + Civ.ml y m0 = Civ.dy y + d - 1 + Civ.cum y (m0 + 1) by omega]
    exact ih
def good (y m d h n s z : Int) : Prop := z = 90 ∧ 1 ≤ m ∧ m ≤ 12 ∧ 1 ≤ d ∧ 0 ≤ h ∧ h ≤ 23 ∧ 0 ≤ n ∧ n ≤ 59 ∧ 0 ≤ s ∧ s ≤ 59 ∧ d ≤ Civ.ml y m
instance (y m d h n s z : Int) : Decidable (good y m d h n s z) := by unfold good; infer_instance
def fin (y m d h n s z : Int) : Int × Int := if good y m d h n s z then ((Civ.dy y + Civ.cum y m + d - 1) * 86400 + (3600 * h + 60 * n + s), 0) else (0, 32)
theorem j4_bad (k : Nat) (y m d h n s : Int) : warderref03_Time.j4 (k + 1) y m d h n s true = some (0, 32) := by
  rw [warderref03_Time.j4, if_pos rfl]
theorem j4_ok (k : Nat) (y m d h n s : Int) (hy0 : 1 ≤ y) (hy1 : y ≤ 9999) (hm0 : 1 ≤ m) (hm1 : m ≤ 12) (hd : 1 ≤ d) (hh : 0 ≤ h ∧ h ≤ 23) (hn : 0 ≤ n ∧ n ≤ 59) (hs : 0 ≤ s ∧ s ≤ 59) : warderref03_Time.j4 (k + 20) y m d h n s false = some (fin y m d h n s 90) := by
  have c3 := Civ.ml_range y m
  have hdy : -800000 ≤ Civ.dy y ∧ Civ.dy y ≤ 4000000 := by unfold Civ.dy; omega
  rw [show k + 20 = (k + 19) + 1 from rfl, warderref03_Time.j4, if_neg (by decide), month_f y m (by omega) hm0 hm1, Option.bind_some]
  unfold fin
  by_cases c : d > Civ.ml y m
  · rw [if_pos c, if_neg (fun g : good y m d h n s 90 => by unfold good at g; omega)]
  · rw [if_neg c, if_pos (show good y m d h n s 90 from ⟨rfl, hm0, hm1, hd, hh.1, hh.2, hn.1, hn.2, hs.1, hs.2, by omega⟩), days_f y hy0 (by omega), Option.bind_some, Civ.wr (Civ.dy y + d) (by omega) (by omega), Civ.wr (Civ.dy y + d - 1) (by omega) (by omega)]
    have hl := l0_t (k + 18 - (m - 1).toNat) y m h n s d hy0 hy1 hm1 hh hn hs ⟨hd, by omega⟩ (m - 1).toNat 1 (by omega) (by omega)
    rw [Civ.cum_one, show Civ.dy y + d - 1 + 0 = Civ.dy y + d - 1 by omega, show (m - 1).toNat + 1 + (k + 18 - (m - 1).toNat) = k + 19 by omega] at hl
    exact hl
theorem j3_ok (k : Nat) (y a0 a1 a2 a3 a4 a5 a6 a7 a8 a9 a10 : Int) (hy0 : 1 ≤ y) (hy1 : y ≤ 9999) :
    warderref03_Time.j3 (k + 21) y [a0, a1, a2, a3, a4, a5, a6, a7, a8, a9, a10] = some (fin y (num a0 a1) (num a2 a3) (num a4 a5) (num a6 a7) (num a8 a9) a10) := by
  have bad := j4_bad (k + 19) y (num a0 a1) (num a2 a3) (num a4 a5) (num a6 a7) (num a8 a9)
  have q0 : warderref03_number.f [a0, a1, a2, a3, a4, a5, a6, a7, a8, a9, a10] 0 = some (num a0 a1) := number_f _ 0 0 rfl (by simp) (by simp)
  have q2 : warderref03_number.f [a0, a1, a2, a3, a4, a5, a6, a7, a8, a9, a10] 2 = some (num a2 a3) := number_f _ 2 2 rfl (by simp) (by simp)
  have q4 : warderref03_number.f [a0, a1, a2, a3, a4, a5, a6, a7, a8, a9, a10] 4 = some (num a4 a5) := number_f _ 4 4 rfl (by simp) (by simp)
  have q6 : warderref03_number.f [a0, a1, a2, a3, a4, a5, a6, a7, a8, a9, a10] 6 = some (num a6 a7) := number_f _ 6 6 rfl (by simp) (by simp)
  have q8 : warderref03_number.f [a0, a1, a2, a3, a4, a5, a6, a7, a8, a9, a10] 8 = some (num a8 a9) := number_f _ 8 8 rfl (by simp) (by simp)
  rw [show k + 21 = (k + 20) + 1 from rfl, warderref03_Time.j3, q0, Option.bind_some, q2, Option.bind_some, q4, Option.bind_some, q6, Option.bind_some, q8, Option.bind_some, if_pos (show (10 : Int) < (([a0, a1, a2, a3, a4, a5, a6, a7, a8, a9, a10] : List Int).length : Int) by simp)]
  have e10 : rd [a0, a1, a2, a3, a4, a5, a6, a7, a8, a9, a10] 10 = a10 := rfl
  have hok := j4_ok k y (num a0 a1) (num a2 a3) (num a4 a5) (num a6 a7) (num a8 a9) hy0 hy1
  rw [e10]
  show (if a10 = 90 then (if num a0 a1 < 1 then _ else (if num a0 a1 > 12 then _ else (if num a2 a3 < 1 then _ else (if num a4 a5 < 0 then _ else (if num a4 a5 > 23 then _ else (if num a6 a7 < 0 then _ else (if num a6 a7 > 59 then _ else (if num a8 a9 < 0 then _ else _)))))))) else _) = _
  generalize num a0 a1 = m at *
  generalize num a2 a3 = d at *
  generalize num a4 a5 = h at *
  generalize num a6 a7 = n at *
  generalize num a8 a9 = s at *
  have hbad : ¬ good y m d h n s a10 → warderref03_Time.j4 (k + 20) y m d h n s true = some (fin y m d h n s a10) := fun hg => by
    rw [bad]
    unfold fin
    rw [if_neg hg]
  by_cases c0 : a10 = 90
  · rw [if_pos c0]
    by_cases c1 : m < 1
    · rw [if_pos c1]; exact hbad (fun g => by unfold good at g; omega)
    rw [if_neg c1]
    by_cases c2 : m > 12
    · rw [if_pos c2]; exact hbad (fun g => by unfold good at g; omega)
    rw [if_neg c2]
    by_cases c3 : d < 1
    · rw [if_pos c3]; exact hbad (fun g => by unfold good at g; omega)
    rw [if_neg c3]
    by_cases c4 : h < 0
    · rw [if_pos c4]; exact hbad (fun g => by unfold good at g; omega)
    rw [if_neg c4]
    by_cases c5 : h > 23
    · rw [if_pos c5]; exact hbad (fun g => by unfold good at g; omega)
    rw [if_neg c5]
    by_cases c6 : n < 0
    · rw [if_pos c6]; exact hbad (fun g => by unfold good at g; omega)
    rw [if_neg c6]
    by_cases c7 : n > 59
    · rw [if_pos c7]; exact hbad (fun g => by unfold good at g; omega)
    rw [if_neg c7]
    by_cases c8 : s < 0
    · rw [if_pos c8]; exact hbad (fun g => by unfold good at g; omega)
    rw [if_neg c8]
    by_cases c9 : s > 59
    · rw [decide_eq_true c9]; exact hbad (fun g => by unfold good at g; omega)
    · rw [decide_eq_false c9, c0]
      exact hok (by omega) (by omega) (by omega) (by omega) (by omega) (by omega)
  · rw [if_neg c0]
    exact hbad (fun g => c0 g.1)
/-- A good time's number is written as it stands. -/
theorem put_of_good (y m d h n s z : Int) (hy0 : 1950 ≤ y) (hy1 : y ≤ 9999) (hg : good y m d h n s z) : XY.texts_PutTime.f ((Civ.dy y + Civ.cum y m + d - 1) * 86400 + (3600 * h + 60 * n + s)) = some (if y < 2050 then 23 else 24, (if y < 2050 then Tf.B (y % 100) else Tf.B (y / 100) ++ Tf.B (y % 100)) ++ Tf.B m ++ Tf.B d ++ Tf.B h ++ Tf.B n ++ Tf.B s ++ [z], 0) := by
  obtain ⟨rfl, g1, g2, g3, g4, g5, g6, g7, g8, g9, g10⟩ := hg
  have ho : Civ.Ok3 y m d := ⟨g1, g2, g3, g10⟩
  have hin := Civ.day_in y m d ho
  have hdc := Civ.dayz_cum y m d
  have b1 := Civ.dy_le 1950 y hy0
  have b2 := Civ.dy_le (y + 1) 10000 (by omega)
  have v1 : Civ.dy 1950 = -7305 := by decide
  have v2 : Civ.dy 10000 = 2932897 := by decide
  obtain ⟨D, hD⟩ : ∃ D, Civ.dy y + Civ.cum y m + d - 1 = D := ⟨_, rfl⟩
  obtain ⟨a, ha⟩ : ∃ a, D * 86400 + (3600 * h + 60 * n + s) = a := ⟨_, rfl⟩
  rw [hD, ha]
  have ed : (a + 631152000) / 86400 + 712163 = Civ.dayz y m d := by omega
  obtain ⟨y', m', d', hc, _, _, _, _, _, _, _, hp⟩ := Dy.put a (by omega) (by omega)
  rw [ed, Civ.civ_dayz y m d ho (by omega)] at hc
  simp only [Prod.mk.injEq] at hc
  obtain ⟨rfl, rfl, rfl⟩ := hc
  rw [hp, Tf.hd_B y m d (by omega), Tf.tl_n _ (by omega), show (a + 631152000) % 86400 / 3600 = h by omega, show (a + 631152000) % 86400 / 60 % 60 = n by omega, show (a + 631152000) % 60 = s by omega]
  by_cases hy : y < 2050
  · simp only [if_pos hy, List.append_assoc]
    rfl
  · simp only [if_neg hy, List.append_assoc]
/-- What is written is good. -/
theorem good_of_put (a t : Int) (l : List Int) (hp : XY.texts_PutTime.f a = some (t, l, 0)) : ∃ y m d h n s, 1950 ≤ y ∧ y ≤ 9999 ∧ good y m d h n s 90 ∧ a = (Civ.dy y + Civ.cum y m + d - 1) * 86400 + (3600 * h + 60 * n + s) ∧ t = (if y < 2050 then 23 else 24) ∧ l = (if y < 2050 then Tf.B (y % 100) else Tf.B (y / 100) ++ Tf.B (y % 100)) ++ Tf.B m ++ Tf.B d ++ Tf.B h ++ Tf.B n ++ Tf.B s ++ [90] := by
  have hr : -631152000 ≤ a ∧ a ≤ 253402300799 := by
    by_cases c : -631152000 ≤ a ∧ a ≤ 253402300799
    · exact c
    · unfold XY.texts_PutTime.f at hp
      rw [if_pos (by omega)] at hp
      have := Option.some.inj hp
      simp only [Prod.mk.injEq] at this
      omega
  obtain ⟨y, m, d, hc, hy0, hy1, hm0, hm1, hd0, hd1, _, hq⟩ := Dy.put a hr.1 hr.2
  have hz := Civ.dayz_civ ((a + 631152000) / 86400 + 712163) (by omega)
  have ho := Civ.civ_ok ((a + 631152000) / 86400 + 712163) (by omega)
  rw [hc] at hz ho
  simp only at hz ho
  have hdc := Civ.dayz_cum y m d
  have hg : good y m d ((a + 631152000) % 86400 / 3600) ((a + 631152000) % 86400 / 60 % 60) ((a + 631152000) % 60) 90 := by
    obtain ⟨o0, o1, o2, o3⟩ := ho
    exact ⟨rfl, o0, o1, o2, by omega, by omega, by omega, by omega, by omega, by omega, o3⟩
  have ea : a = (Civ.dy y + Civ.cum y m + d - 1) * 86400 + (3600 * ((a + 631152000) % 86400 / 3600) + 60 * ((a + 631152000) % 86400 / 60 % 60) + (a + 631152000) % 60) := by omega
  have hpg := put_of_good y m d _ _ _ 90 hy0 hy1 hg
  rw [← ea, hp] at hpg
  have e := Option.some.inj hpg
  simp only [Prod.mk.injEq] at e
  exact ⟨y, m, d, _, _, _, hy0, hy1, hg, ea, e.1, e.2.1⟩
theorem len13 (l : List Int) (h : l.length = 13) : ∃ b0 b1 a0 a1 a2 a3 a4 a5 a6 a7 a8 a9 a10, l = [b0, b1, a0, a1, a2, a3, a4, a5, a6, a7, a8, a9, a10] := by
  match l, h with
  | [b0, b1, a0, a1, a2, a3, a4, a5, a6, a7, a8, a9, a10], _ => exact ⟨_, _, _, _, _, _, _, _, _, _, _, _, _, rfl⟩
theorem len15 (l : List Int) (h : l.length = 15) : ∃ b0 b1 b2 b3 a0 a1 a2 a3 a4 a5 a6 a7 a8 a9 a10, l = [b0, b1, b2, b3, a0, a1, a2, a3, a4, a5, a6, a7, a8, a9, a10] := by
  match l, h with
  | [b0, b1, b2, b3, a0, a1, a2, a3, a4, a5, a6, a7, a8, a9, a10], _ => exact ⟨_, _, _, _, _, _, _, _, _, _, _, _, _, _, _, rfl⟩
/-- The last eleven bytes of what was good. -/
theorem tail_B (y a0 a1 a2 a3 a4 a5 a6 a7 a8 a9 a10 : Int) (hg : good y (num a0 a1) (num a2 a3) (num a4 a5) (num a6 a7) (num a8 a9) a10) : [a0, a1, a2, a3, a4, a5, a6, a7, a8, a9, a10] = Tf.B (num a0 a1) ++ Tf.B (num a2 a3) ++ Tf.B (num a4 a5) ++ Tf.B (num a6 a7) ++ Tf.B (num a8 a9) ++ [a10] := by
  obtain ⟨_, g1, g2, g3, g4, g5, g6, g7, g8, g9, g10⟩ := hg
  rw [← (B_num a0 a1 (by omega)).1, ← (B_num a2 a3 (by omega)).1, ← (B_num a4 a5 (by omega)).1, ← (B_num a6 a7 (by omega)).1, ← (B_num a8 a9 (by omega)).1]
  rfl
theorem j2_bad (k : Nat) (l : List Int) : warderref03_Time.j2 (k + 1) l false = some (0, 32) := by
  rw [warderref03_Time.j2, if_neg (by decide)]
theorem j1_ok (k : Nat) (b0 b1 : Int) (r : List Int) (y6 y : Int) (x36 : Bool) (h : y = if x36 = true then wrap64 (2000 + num b0 b1) else y6) : warderref03_Time.j1 (k + 1) (b0 :: b1 :: r) y6 (num b0 b1) x36 = if num b0 b1 < 0 then some (0, 32) else warderref03_Time.j3 k y r := by
  have hlen : (2 : Int) ≤ ((b0 :: b1 :: r : List Int).length : Int) := by simp only [List.length_cons]; omega
  rw [warderref03_Time.j1]
  subst h
  cases x36 with
  | true =>
    rw [if_pos rfl, if_pos hlen, if_pos rfl]
    rfl
  | false =>
    simp only [Bool.false_eq_true, if_false]
    rw [if_pos hlen]
    rfl
/-- The document's Time: what it tells was written so. -/
theorem time_ref (k : Nat) (t : Int) (l : List Int) : ∃ n g, warderref03_Time.f (k + 23) t l = some (n, g) ∧ (g = 0 ∨ (n = 0 ∧ g = 32)) ∧ (g = 0 → XY.texts_PutTime.f n = some (t, l, 0)) := by
  have bad : ∀ {o : Option (Int × Int)}, o = some (0, 32) → ∃ n g, o = some (n, g) ∧ (g = 0 ∨ (n = 0 ∧ g = 32)) ∧ (g = 0 → XY.texts_PutTime.f n = some (t, l, 0)) := fun e => ⟨0, 32, e, .inr ⟨rfl, rfl⟩, fun h => by cases h⟩
  have fing : ∀ (y m d h n s z : Int) (o : Option (Int × Int)), o = some (fin y m d h n s z) → (good y m d h n s z → XY.texts_PutTime.f ((Civ.dy y + Civ.cum y m + d - 1) * 86400 + (3600 * h + 60 * n + s)) = some (t, l, 0)) → ∃ n g, o = some (n, g) ∧ (g = 0 ∨ (n = 0 ∧ g = 32)) ∧ (g = 0 → XY.texts_PutTime.f n = some (t, l, 0)) := by
    intro y m d h n s z o ho hp
    unfold fin at ho
    by_cases c : good y m d h n s z
    · rw [if_pos c] at ho
      exact ⟨_, _, ho, .inl rfl, fun _ => hp c⟩
    · rw [if_neg c] at ho
      exact bad ho
  unfold warderref03_Time.f
  by_cases h23 : t = 23
  · rw [if_pos h23]
    by_cases hl : l.length = 13
    · obtain ⟨b0, b1, a0, a1, a2, a3, a4, a5, a6, a7, a8, a9, a10, rfl⟩ := len13 l hl
      rw [show ((([b0, b1, a0, a1, a2, a3, a4, a5, a6, a7, a8, a9, a10] : List Int).length : Int) == 13) = true from rfl, show k + 23 = (k + 22) + 1 from rfl, warderref03_Time.j0, if_pos rfl, number_f _ 0 0 rfl (by simp) (by simp), Option.bind_some]
      rw [show ([b0, b1, a0, a1, a2, a3, a4, a5, a6, a7, a8, a9, a10] : List Int).getD 0 0 = b0 from rfl, show ([b0, b1, a0, a1, a2, a3, a4, a5, a6, a7, a8, a9, a10] : List Int).getD (0 + 1) 0 = b1 from rfl]
      by_cases hn : num b0 b1 < 0
      · rw [if_neg (by omega), show k + 22 = (k + 21) + 1 from rfl, j1_ok (k + 21) b0 b1 _ _ _ false rfl, if_pos hn]
        exact bad rfl
      · have hB := B_num b0 b1 (by omega)
        obtain ⟨y, hy⟩ : ∃ y, y = if num b0 b1 < 50 then 2000 + num b0 b1 else 1900 + num b0 b1 := ⟨_, rfl⟩
        have hyr : 1950 ≤ y ∧ y < 2050 ∧ y % 100 = num b0 b1 := by
          rw [hy]
          split <;> omega
        have e36 : y = if decide (num b0 b1 < 50) = true then wrap64 (2000 + num b0 b1) else wrap64 (1900 + num b0 b1) := by
          rw [hy, Civ.wr (2000 + num b0 b1) (by omega) (by omega), Civ.wr (1900 + num b0 b1) (by omega) (by omega)]
          by_cases c : num b0 b1 < 50
          · rw [if_pos c, decide_eq_true c, if_pos rfl]
          · rw [if_neg c, decide_eq_false c, if_neg (by decide)]
        rw [if_pos (by omega), show k + 22 = (k + 21) + 1 from rfl, j1_ok (k + 21) b0 b1 _ _ y _ e36, if_neg hn]
        refine fing _ _ _ _ _ _ _ _ (j3_ok k y a0 a1 a2 a3 a4 a5 a6 a7 a8 a9 a10 (by omega) (by omega)) (fun hg => ?_)
        rw [put_of_good y _ _ _ _ _ _ hyr.1 (by omega) hg, if_pos hyr.2.1, if_pos hyr.2.1, hyr.2.2, h23]
        have ht := tail_B y a0 a1 a2 a3 a4 a5 a6 a7 a8 a9 a10 hg
        have e : ([b0, b1, a0, a1, a2, a3, a4, a5, a6, a7, a8, a9, a10] : List Int) = [b0, b1] ++ [a0, a1, a2, a3, a4, a5, a6, a7, a8, a9, a10] := rfl
        rw [e, ht, hB.1]
        simp only [List.append_assoc]
    · have e13 : ((l.length : Int) == 13) = false := by
        rw [beq_eq_false_iff_ne]
        omega
      rw [e13, show k + 23 = (k + 22) + 1 from rfl, warderref03_Time.j0, if_neg (by decide), if_neg (by omega)]
      exact bad (j2_bad (k + 21) l)
  · rw [if_neg h23, show k + 23 = (k + 22) + 1 from rfl, warderref03_Time.j0, if_neg (by decide)]
    by_cases h24 : t = 24
    · rw [if_pos h24]
      by_cases hl : l.length = 15
      · obtain ⟨b0, b1, b2, b3, a0, a1, a2, a3, a4, a5, a6, a7, a8, a9, a10, rfl⟩ := len15 l hl
        rw [show ((([b0, b1, b2, b3, a0, a1, a2, a3, a4, a5, a6, a7, a8, a9, a10] : List Int).length : Int) == 15) = true from rfl, show k + 22 = (k + 21) + 1 from rfl, warderref03_Time.j2, if_pos rfl, number_f _ 0 0 rfl (by simp) (by simp), Option.bind_some, number_f _ 2 2 rfl (by simp) (by simp), Option.bind_some]
        rw [show ([b0, b1, b2, b3, a0, a1, a2, a3, a4, a5, a6, a7, a8, a9, a10] : List Int).getD 0 0 = b0 from rfl, show ([b0, b1, b2, b3, a0, a1, a2, a3, a4, a5, a6, a7, a8, a9, a10] : List Int).getD (0 + 1) 0 = b1 from rfl, show ([b0, b1, b2, b3, a0, a1, a2, a3, a4, a5, a6, a7, a8, a9, a10] : List Int).getD 2 0 = b2 from rfl, show ([b0, b1, b2, b3, a0, a1, a2, a3, a4, a5, a6, a7, a8, a9, a10] : List Int).getD (2 + 1) 0 = b3 from rfl]
        rw [if_pos (show (4 : Int) ≤ (([b0, b1, b2, b3, a0, a1, a2, a3, a4, a5, a6, a7, a8, a9, a10] : List Int).length : Int) by simp)]
        by_cases hp : num b0 b1 < 0
        · rw [if_pos hp]; exact bad rfl
        rw [if_neg hp]
        by_cases hq : num b2 b3 < 0
        · rw [if_pos hq]; exact bad rfl
        rw [if_neg hq]
        have hB := B_num b0 b1 (by omega)
        have hB2 := B_num b2 b3 (by omega)
        rw [Civ.wr (100 * num b0 b1) (by omega) (by omega), Civ.wr (100 * num b0 b1 + num b2 b3) (by omega) (by omega)]
        by_cases hy : 100 * num b0 b1 + num b2 b3 < 2050
        · rw [if_pos hy]; exact bad rfl
        rw [if_neg hy]
        refine fing _ _ _ _ _ _ _ _ (j3_ok k (100 * num b0 b1 + num b2 b3) a0 a1 a2 a3 a4 a5 a6 a7 a8 a9 a10 (by omega) (by omega)) (fun hg => ?_)
        rw [put_of_good _ _ _ _ _ _ _ (by omega) (by omega) hg, if_neg hy, if_neg hy, h24, show (100 * num b0 b1 + num b2 b3) / 100 = num b0 b1 by omega, show (100 * num b0 b1 + num b2 b3) % 100 = num b2 b3 by omega]
        have ht := tail_B _ a0 a1 a2 a3 a4 a5 a6 a7 a8 a9 a10 hg
        have e : ([b0, b1, b2, b3, a0, a1, a2, a3, a4, a5, a6, a7, a8, a9, a10] : List Int) = [b0, b1] ++ [b2, b3] ++ [a0, a1, a2, a3, a4, a5, a6, a7, a8, a9, a10] := rfl
        rw [e, ht, hB.1, hB2.1]
        simp only [List.append_assoc]
      · have e15 : ((l.length : Int) == 15) = false := by
          rw [beq_eq_false_iff_ne]
          omega
        rw [e15]
        exact bad (j2_bad (k + 21) l)
    · rw [if_neg h24]
      exact bad (j2_bad (k + 21) l)
/-- And it tells what was written. -/
theorem time_ref_put (k : Nat) (a t : Int) (l : List Int) (hp : XY.texts_PutTime.f a = some (t, l, 0)) : warderref03_Time.f (k + 23) t l = some (a, 0) := by
  obtain ⟨y, m, d, h, n, s, hy0, hy1, hg, ha, ht, hl⟩ := good_of_put a t l hp
  have hg2 := hg
  obtain ⟨_, g1, g2, g3, g4, g5, g6, g7, g8, g9, g10⟩ := hg2
  have hml := Civ.ml_range y m
  have hfin : ∀ a0 a1 a2 a3 a4 a5 a6 a7 a8 a9, num a0 a1 = m → num a2 a3 = d → num a4 a5 = h → num a6 a7 = n → num a8 a9 = s → fin y (num a0 a1) (num a2 a3) (num a4 a5) (num a6 a7) (num a8 a9) 90 = (a, 0) := by
    intro a0 a1 a2 a3 a4 a5 a6 a7 a8 a9 e1 e2 e3 e4 e5
    rw [e1, e2, e3, e4, e5]
    unfold fin
    rw [if_pos hg, ha]
  have n1 := num_B m (by omega) (by omega)
  have n2 := num_B d (by omega) (by omega)
  have n3 := num_B h (by omega) (by omega)
  have n4 := num_B n (by omega) (by omega)
  have n5 := num_B s (by omega) (by omega)
  have n6 := num_B (y % 100) (by omega) (by omega)
  have n7 := num_B (y / 100) (by omega) (by omega)
  unfold warderref03_Time.f
  by_cases hy : y < 2050
  · rw [if_pos hy] at ht hl
    have hlx : l = [y % 100 / 10 + 48, y % 100 % 10 + 48, m / 10 + 48, m % 10 + 48, d / 10 + 48, d % 10 + 48, h / 10 + 48, h % 10 + 48, n / 10 + 48, n % 10 + 48, s / 10 + 48, s % 10 + 48, 90] := hl
    rw [hlx, if_pos ht, show ((([y % 100 / 10 + 48, y % 100 % 10 + 48, m / 10 + 48, m % 10 + 48, d / 10 + 48, d % 10 + 48, h / 10 + 48, h % 10 + 48, n / 10 + 48, n % 10 + 48, s / 10 + 48, s % 10 + 48, 90] : List Int).length : Int) == 13) = true from rfl, show k + 23 = (k + 22) + 1 from rfl, warderref03_Time.j0, if_pos rfl, number_f _ 0 0 rfl (by simp) (by simp), Option.bind_some]
    show (if num (y % 100 / 10 + 48) (y % 100 % 10 + 48) ≥ 0 then warderref03_Time.j1 (k + 22) _ (wrap64 (1900 + num (y % 100 / 10 + 48) (y % 100 % 10 + 48))) (num (y % 100 / 10 + 48) (y % 100 % 10 + 48)) (decide (num (y % 100 / 10 + 48) (y % 100 % 10 + 48) < 50)) else _) = _
    have e36 : y = if decide (num (y % 100 / 10 + 48) (y % 100 % 10 + 48) < 50) = true then wrap64 (2000 + num (y % 100 / 10 + 48) (y % 100 % 10 + 48)) else wrap64 (1900 + num (y % 100 / 10 + 48) (y % 100 % 10 + 48)) := by
      rw [n6, Civ.wr (2000 + y % 100) (by omega) (by omega), Civ.wr (1900 + y % 100) (by omega) (by omega)]
      by_cases c : y % 100 < 50
      · rw [decide_eq_true c, if_pos rfl]; omega
      · rw [decide_eq_false c, if_neg (by decide)]; omega
    rw [if_pos (by rw [n6]; omega), show k + 22 = (k + 21) + 1 from rfl, j1_ok (k + 21) _ _ _ _ y _ e36, if_neg (by rw [n6]; omega), j3_ok k y _ _ _ _ _ _ _ _ _ _ _ (by omega) (by omega), hfin _ _ _ _ _ _ _ _ _ _ n1 n2 n3 n4 n5]
  · rw [if_neg hy] at ht hl
    have hlx : l = [y / 100 / 10 + 48, y / 100 % 10 + 48, y % 100 / 10 + 48, y % 100 % 10 + 48, m / 10 + 48, m % 10 + 48, d / 10 + 48, d % 10 + 48, h / 10 + 48, h % 10 + 48, n / 10 + 48, n % 10 + 48, s / 10 + 48, s % 10 + 48, 90] := hl
    rw [hlx, if_neg (by omega), show k + 23 = (k + 22) + 1 from rfl, warderref03_Time.j0, if_neg (by decide), if_pos ht, show ((([y / 100 / 10 + 48, y / 100 % 10 + 48, y % 100 / 10 + 48, y % 100 % 10 + 48, m / 10 + 48, m % 10 + 48, d / 10 + 48, d % 10 + 48, h / 10 + 48, h % 10 + 48, n / 10 + 48, n % 10 + 48, s / 10 + 48, s % 10 + 48, 90] : List Int).length : Int) == 15) = true from rfl, show k + 22 = (k + 21) + 1 from rfl, warderref03_Time.j2, if_pos rfl, number_f _ 0 0 rfl (by simp) (by simp), Option.bind_some, number_f _ 2 2 rfl (by simp) (by simp), Option.bind_some, if_pos (show (4 : Int) ≤ (([y / 100 / 10 + 48, y / 100 % 10 + 48, y % 100 / 10 + 48, y % 100 % 10 + 48, m / 10 + 48, m % 10 + 48, d / 10 + 48, d % 10 + 48, h / 10 + 48, h % 10 + 48, n / 10 + 48, n % 10 + 48, s / 10 + 48, s % 10 + 48, 90] : List Int).length : Int) by simp)]
    show (if num (y / 100 / 10 + 48) (y / 100 % 10 + 48) < 0 then _ else (if num (y % 100 / 10 + 48) (y % 100 % 10 + 48) < 0 then _ else (if wrap64 (wrap64 (100 * num (y / 100 / 10 + 48) (y / 100 % 10 + 48)) + num (y % 100 / 10 + 48) (y % 100 % 10 + 48)) < 2050 then _ else warderref03_Time.j3 (k + 21) (wrap64 (wrap64 (100 * num (y / 100 / 10 + 48) (y / 100 % 10 + 48)) + num (y % 100 / 10 + 48) (y % 100 % 10 + 48))) [m / 10 + 48, m % 10 + 48, d / 10 + 48, d % 10 + 48, h / 10 + 48, h % 10 + 48, n / 10 + 48, n % 10 + 48, s / 10 + 48, s % 10 + 48, 90]))) = _
    rw [n7, n6, Civ.wr (100 * (y / 100)) (by omega) (by omega), Civ.wr (100 * (y / 100) + y % 100) (by omega) (by omega), show 100 * (y / 100) + y % 100 = y by omega, if_neg (by omega), if_neg (by omega), if_neg hy, j3_ok k y _ _ _ _ _ _ _ _ _ _ _ (by omega) (by omega), hfin _ _ _ _ _ _ _ _ _ _ n1 n2 n3 n4 n5]
end Rf
namespace Tt
open XT
theorem times_eq (k : Nat) (t : Int) (l : List Int) (hb : ∀ x ∈ l, 0 ≤ x ∧ x < 256) : ∃ q, Tm.time XY.texts_PutTime.f t l = some q ∧ warderref03_Time.f (k + 23) t l = some q := by
  obtain ⟨n, g, hn, hg, hx⟩ := Tf.put_time XY.texts_PutTime.f Tf.put_any t l
  by_cases h : g = 0
  · obtain ⟨x, hp, hs⟩ := hx h
    have hbx : ∀ b ∈ x, 0 ≤ b ∧ b < 256 := by
      obtain ⟨_, _, _, _, _, _, _, _, _, _, _, hl⟩ := Rf.good_of_put n t x hp
      have hr : -631152000 ≤ n ∧ n ≤ 253402300799 := by
        by_cases c : -631152000 ≤ n ∧ n ≤ 253402300799
        · exact c
        · unfold XY.texts_PutTime.f at hp
          rw [if_pos (by omega)] at hp
          have := Option.some.inj hp
          simp only [Prod.mk.injEq] at this
          omega
      exact (Tf.time_put n hr.1 hr.2 t x 0 hp).2.1
    have e := Dy.strs_inj x l hbx hb hs
    subst e
    subst h
    exact ⟨_, hn, Rf.time_ref_put k n t x hp⟩
  · have h0 : n = 0 ∧ g = 32 := by omega
    obtain ⟨n', g', hn', hg', hx'⟩ := Rf.time_ref k t l
    by_cases h' : g' = 0
    · have hp := hx' h'
      have hr : -631152000 ≤ n' ∧ n' ≤ 253402300799 := by
        by_cases c : -631152000 ≤ n' ∧ n' ≤ 253402300799
        · exact c
        · unfold XY.texts_PutTime.f at hp
          rw [if_pos (by omega)] at hp
          have := Option.some.inj hp
          simp only [Prod.mk.injEq] at this
          omega
      have h2 := (Tf.time_put n' hr.1 hr.2 t l 0 hp).2.2
      rw [hn] at h2
      have := Option.some.inj h2
      simp only [Prod.mk.injEq] at this
      omega
    · have h1 : n' = 0 ∧ g' = 32 := by omega
      refine ⟨_, hn, ?_⟩
      rw [hn', h1.1, h1.2, h0.1, h0.2]
theorem f_true (a t : Int) (l : List Int) (ha : -9223372036854775808 ≤ a ∧ a < 9223372036854775808) (hb : ∀ x ∈ l, 0 ≤ x ∧ x < 256) : warderlaw03_TextsTimes.f (10000 + 23) a t l = some true := by
  unfold warderlaw03_TextsTimes.f
  obtain ⟨⟨q1, q2, q3⟩, hq⟩ := Tf.put_any a
  obtain ⟨⟨n, g⟩, h1, h2⟩ := times_eq 10000 t l hb
  rw [show warderlaw03_head.f = some true from rfl, Option.bind_some, show texts_PutTime.f a = XY.texts_PutTime.f a from rfl, hq, Option.bind_some, Rf.put_f a ha 23, hq, Option.bind_some, show texts_Time.f t l = Tm.time XY.texts_PutTime.f t l from rfl, h1, Option.bind_some, h2, Option.bind_some]
  simp only
  rw [if_pos trivial, if_pos trivial, if_pos trivial, if_pos trivial, beq_self_eq_true]
  simp
end Tt
theorem textsTimes.law (w : World) (a t : Int) (A : Option Addr) (c : Nat) (l : List Int) (ha : -9223372036854775808 ≤ a ∧ a < 9223372036854775808) (_ : 0 ≤ t ∧ t < 256)
    (hC : Kd.C (Kd.int .u8) w A l.length l) (hc : l.length ≤ c) (hb : ∀ x ∈ l, 0 ≤ x ∧ x < 256) (_ : Lib.Utf8Tabs 0 1 w) :
    Calls Tryd.prog 10 #[.int .i64 a, .int .u8 t, .slice A l.length c] w fun e w' => e = .returned (.bool true) ∧ Below w.heap.size w w' :=
  XT.warderlaw03_TextsTimes.calls (10000 + 23) a t A c l true w hC hc (Tt.f_true a t l ha hb)
end Go.Proofs.YtgpghjmoapffcaaDoor
