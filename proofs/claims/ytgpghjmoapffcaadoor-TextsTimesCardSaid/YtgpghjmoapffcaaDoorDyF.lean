/- Plain facts of written times. No condition. -/
import Derived.Test.YtgpghjmoapffcaaDoorLYears
import Derived.Test.YtgpghjmoapffcaaDoorCivD
set_option linter.unusedVariables false
set_option linter.unusedSimpArgs false
namespace Go.Proofs.YtgpghjmoapffcaaDoor
open Go.RowKit Go.Proofs.YtgpghjmoapffcaaDoorW.PrintWords
namespace Dy
theorem back (x : List Int) (h : ∀ b ∈ x, 0 ≤ b ∧ b < 256) : ((strOfNums x).toList).map (fun u : UInt8 => (u.toNat : Int)) = x := by
  rw [ByteArray.toList_eq, strOfNums_data, List.map_map]
  conv => rhs; rw [← List.map_id x]
  refine List.map_congr_left fun b hb => ?_
  have := h b hb
  simp only [Function.comp, id, UInt8.toNat_ofNat']
  omega
theorem strs_inj (x y : List Int) (hx : ∀ b ∈ x, 0 ≤ b ∧ b < 256) (hy : ∀ b ∈ y, 0 ≤ b ∧ b < 256) (h : (strOfNums x).toList = (strOfNums y).toList) : x = y := by
  rw [← back x hx, ← back y hy, h]
/-- The clock's digits, and the Z. -/
def tl (n : Int) : List Int := (PutT.two (wrap64 (Int.tdiv (Int.tmod n 86400) 3600)) ++ PutT.two (Int.tmod (wrap64 (Int.tdiv (Int.tmod n 86400) 60)) 60) ++ PutT.two (Int.tmod n 60)).map PutT.up ++ [90]
theorem tl_next (n : Int) (h : 0 ≤ n) : tl (n + 86400) = tl n := by
  unfold tl
  rw [Civ.tm (n + 86400) 86400 (by omega), Civ.tm (n + 86400) 60 (by omega), Civ.tm n 86400 h, Civ.tm n 60 h, show (n + 86400) % 86400 = n % 86400 by omega, show (n + 86400) % 60 = n % 60 by omega]
theorem tl_len (n : Int) : (tl n).length = 7 := rfl
def hd (y m d : Int) : List Int := [y / 1000 + 48, y / 100 % 10 + 48, y % 100 / 10 + 48, y % 100 % 10 + 48, m / 10 + 48, m % 10 + 48, d / 10 + 48, d % 10 + 48]
theorem out_eq (y m d n : Int) : PutT.out y m d n = [PutT.up (wrap64 (Int.tdiv y 1000) % 256), PutT.up (Int.tmod (wrap64 (Int.tdiv y 100)) 10 % 256), PutT.up (wrap64 (Int.tdiv (Int.tmod y 100) 10) % 256), PutT.up (Int.tmod (Int.tmod y 100) 10 % 256), PutT.up (wrap64 (Int.tdiv m 10) % 256), PutT.up (Int.tmod m 10 % 256), PutT.up (wrap64 (Int.tdiv d 10) % 256), PutT.up (Int.tmod d 10 % 256)] ++ tl n := rfl
theorem out_n (y m d n : Int) (hy0 : 0 ≤ y) (hy1 : y ≤ 9999) (hm0 : 0 ≤ m) (hm1 : m ≤ 99) (hd0 : 0 ≤ d) (hd1 : d ≤ 99) : PutT.out y m d n = hd y m d ++ tl n := by
  rw [out_eq, Civ.td y 1000 hy0, Civ.td y 100 hy0, Civ.tm y 100 hy0, Civ.td m 10 hm0, Civ.tm m 10 hm0, Civ.td d 10 hd0, Civ.tm d 10 hd0, Civ.wr (y / 1000) (by omega) (by omega), Civ.wr (y / 100) (by omega) (by omega), Civ.tm (y / 100) 10 (by omega), Civ.td (y % 100) 10 (by omega), Civ.tm (y % 100) 10 (by omega), Civ.wr (y % 100 / 10) (by omega) (by omega), Civ.wr (m / 10) (by omega) (by omega), Civ.wr (d / 10) (by omega) (by omega)]
  unfold hd PutT.up
  rw [show (y / 1000 % 256 + 48) % 256 = y / 1000 + 48 by omega, show (y / 100 % 10 % 256 + 48) % 256 = y / 100 % 10 + 48 by omega, show (y % 100 / 10 % 256 + 48) % 256 = y % 100 / 10 + 48 by omega, show (y % 100 % 10 % 256 + 48) % 256 = y % 100 % 10 + 48 by omega, show (m / 10 % 256 + 48) % 256 = m / 10 + 48 by omega, show (m % 10 % 256 + 48) % 256 = m % 10 + 48 by omega, show (d / 10 % 256 + 48) % 256 = d / 10 + 48 by omega, show (d % 10 % 256 + 48) % 256 = d % 10 + 48 by omega]
theorem hd_inj2 (y m d y' m' d' : Int) (n n' : Int) (h : (hd y m d ++ tl n).drop 2 = (hd y' m' d' ++ tl n').drop 2) : y % 100 = y' % 100 ∧ m = m' ∧ d = d' := by
  have h2 := congrArg (List.take 6) h
  simp only [hd, List.cons_append, List.nil_append, List.drop_succ_cons, List.drop_zero, List.take_succ_cons, List.take_zero, List.cons.injEq, and_true] at h2
  omega
theorem hd_inj (y m d y' m' d' : Int) (n n' : Int) (h : hd y m d ++ tl n = hd y' m' d' ++ tl n') : y = y' ∧ m = m' ∧ d = d' := by
  have h3 := hd_inj2 y m d y' m' d' n n' (congrArg (List.drop 2) h)
  have h2 := congrArg (List.take 2) h
  simp only [hd, List.cons_append, List.nil_append, List.drop_succ_cons, List.drop_zero, List.take_succ_cons, List.take_zero, List.cons.injEq, and_true] at h2
  omega
theorem body_bytes {l : List Int} (h : Yr.Body l) : ∀ b ∈ l, 0 ≤ b ∧ b < 256 := by
  obtain ⟨p, rfl, hp⟩ := h
  intro b hb
  rw [List.mem_append, List.mem_singleton] at hb
  rcases hb with hb | rfl
  · have := hp b hb; omega
  · omega
/-- A written time: its tag, its body, of what date and clock. -/
theorem put (a : Int) (h0 : -631152000 ≤ a) (h1 : a ≤ 253402300799) : ∃ y m d : Int, Civ.civ ((a + 631152000) / 86400 + 712163) = (y, m, d) ∧ 1950 ≤ y ∧ y ≤ 9999 ∧ 1 ≤ m ∧ m ≤ 12 ∧ 1 ≤ d ∧ d ≤ 31 ∧ (∀ b ∈ hd y m d ++ tl (a + 631152000), 0 ≤ b ∧ b < 256) ∧
    XY.texts_PutTime.f a = some (if y < 2050 then 23 else 24, if y < 2050 then (hd y m d ++ tl (a + 631152000)).drop 2 else hd y m d ++ tl (a + 631152000), 0) := by
  obtain ⟨y, m, d, hc, hy, hy0, hy1, hm0, hm1, hd0, hd1, hf⟩ := Yr.putf a h0 h1
  have hraw := Yr.raw_ok y m d (a + 631152000) (by omega) (by omega) (by omega) (by omega) (by omega) (by omega) (by omega)
  have hb := body_bytes (Yr.out_body y m d (a + 631152000) hraw)
  rw [out_n y m d _ (by omega) (by omega) (by omega) (by omega) (by omega) (by omega)] at hf hb
  exact ⟨y, m, d, hc, hy0, hy1, hm0, hm1, hd0, hd1, hb, hf⟩
theorem tail2 (y m d n : Int) : ((hd y m d ++ tl n).drop 2).drop 6 = tl n := rfl
theorem tail0 (y m d n : Int) : (hd y m d ++ tl n).drop 8 = tl n := rfl
theorem len2 (y m d n : Int) : ((hd y m d ++ tl n).drop 2).length = 13 := rfl
theorem len0 (y m d n : Int) : (hd y m d ++ tl n).length = 15 := rfl
end Dy
end Go.Proofs.YtgpghjmoapffcaaDoor
