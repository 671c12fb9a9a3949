/- Plain facts of times: what is written is read as it was; what is read is written as it stood; a later one's body stands behind. No condition. -/
import Derived.Test.YtgpghjmoapffcaaDoorDyF
import Derived.Test.YtgpghjmoapffcaaDoorTimeW
set_option linter.unusedVariables false
set_option linter.unusedSimpArgs false
namespace Go.Proofs.YtgpghjmoapffcaaDoor
open Go.RowKit Go.Proofs.YtgpghjmoapffcaaDoorW.PrintWords
namespace Tf
open Dy Tm
/-! ### digits -/
def B (v : Int) : List Int := [v / 10 + 48, v % 10 + 48]
theorem two_n (v : Int) (h0 : 0 ≤ v) (h1 : v ≤ 99) : (PutT.two v).map PutT.up = B v := by
  unfold PutT.two B
  rw [Civ.td v 10 h0, Civ.tm v 10 h0, Civ.wr (v / 10) (by omega) (by omega)]
  simp only [List.map_cons, List.map_nil, PutT.up]
  rw [show (v / 10 % 256 + 48) % 256 = v / 10 + 48 by omega, show (v % 10 % 256 + 48) % 256 = v % 10 + 48 by omega]
theorem tl_n (n : Int) (h : 0 ≤ n) : tl n = B (n % 86400 / 3600) ++ B (n % 86400 / 60 % 60) ++ B (n % 60) ++ [90] := by
  unfold tl
  rw [Civ.tm n 86400 h, Civ.tm n 60 h, Civ.td (n % 86400) 3600 (by omega), Civ.td (n % 86400) 60 (by omega), Civ.wr (n % 86400 / 3600) (by omega) (by omega), Civ.wr (n % 86400 / 60) (by omega) (by omega), Civ.tm (n % 86400 / 60) 60 (by omega), List.map_append, List.map_append, two_n _ (by omega) (by omega), two_n _ (by omega) (by omega), two_n _ (by omega) (by omega)]
theorem hd_B (y m d : Int) (h0 : 0 ≤ y) : hd y m d = B (y / 100) ++ B (y % 100) ++ B m ++ B d := by
  unfold hd B
  rw [show y / 100 / 10 = y / 1000 by omega]
  rfl
theorem by_take (s : ByteArray) (i : Nat) (h : i < 14) : by_ (s.extract 0 14) i = by_ s i := by
  unfold by_
  have e : (s.extract 0 14).data.toList = s.data.toList.take 14 := by simp [ByteArray.data_extract]
  rw [e]
  simp [List.getD_eq_getElem?_getD, List.getElem?_take, h]
theorem by_str (x : List Int) (hx : ∀ b ∈ x, 0 ≤ b ∧ b < 256) (i : Nat) (h : i < x.length) (s : ByteArray) (hs : s.data.toList = x.map fun n => UInt8.ofNat n.toNat) : by_ s i = x.getD i 0 := by
  unfold by_
  have hb := hx x[i] (List.getElem_mem h)
  rw [hs]
  simp only [List.getD_eq_getElem?_getD, List.getElem?_map, List.getElem?_eq_getElem h, Option.map_some, Option.getD_some, UInt8.toNat_ofNat']
  omega
theorem str_app (a b : List Int) : (strOfNums a ++ strOfNums b).data.toList = (a ++ b).map fun n => UInt8.ofNat n.toNat := by
  rw [show (strOfNums a ++ strOfNums b).data.toList = (strOfNums a).data.toList ++ (strOfNums b).data.toList by simp, strOfNums_data, strOfNums_data, List.map_append]
/-- What is read of a written time's digits. -/
theorem read (y m d n : Int) (hy0 : 0 ≤ y) (hy1 : y ≤ 9999) (hm0 : 0 ≤ m) (hm1 : m ≤ 99) (hd0 : 0 ≤ d) (hd1 : d ≤ 99) (hn : 0 ≤ n) (S : ByteArray) (hS : ∀ i, i < 14 → by_ S i = (hd y m d ++ tl n).getD i 0) :
    okD S = true ∧ val S 0 = y / 100 ∧ val S 1 = y % 100 ∧ val S 2 = m ∧ val S 3 = d ∧ val S 4 = n % 86400 / 3600 ∧ val S 5 = n % 86400 / 60 % 60 ∧ val S 6 = n % 60 := by
  rw [hd_B y m d hy0, tl_n n hn] at hS
  have b0 : by_ S 0 = y / 100 / 10 + 48 := hS 0 (by omega)
  have b1 : by_ S 1 = y / 100 % 10 + 48 := hS 1 (by omega)
  have b2 : by_ S 2 = y % 100 / 10 + 48 := hS 2 (by omega)
  have b3 : by_ S 3 = y % 100 % 10 + 48 := hS 3 (by omega)
  have b4 : by_ S 4 = m / 10 + 48 := hS 4 (by omega)
  have b5 : by_ S 5 = m % 10 + 48 := hS 5 (by omega)
  have b6 : by_ S 6 = d / 10 + 48 := hS 6 (by omega)
  have b7 : by_ S 7 = d % 10 + 48 := hS 7 (by omega)
  have b8 : by_ S 8 = n % 86400 / 3600 / 10 + 48 := hS 8 (by omega)
  have b9 : by_ S 9 = n % 86400 / 3600 % 10 + 48 := hS 9 (by omega)
  have b10 : by_ S 10 = n % 86400 / 60 % 60 / 10 + 48 := hS 10 (by omega)
  have b11 : by_ S 11 = n % 86400 / 60 % 60 % 10 + 48 := hS 11 (by omega)
  have b12 : by_ S 12 = n % 60 / 10 + 48 := hS 12 (by omega)
  have b13 : by_ S 13 = n % 60 % 10 + 48 := hS 13 (by omega)
  clear hS
  refine ⟨okD_true S (fun j hj => ?_), ?_, ?_, ?_, ?_, ?_, ?_, ?_⟩
  · unfold isD
    have hc : j = 0 ∨ j = 1 ∨ j = 2 ∨ j = 3 ∨ j = 4 ∨ j = 5 ∨ j = 6 ∨ j = 7 ∨ j = 8 ∨ j = 9 ∨ j = 10 ∨ j = 11 ∨ j = 12 ∨ j = 13 := by omega
    rcases hc with rfl | rfl | rfl | rfl | rfl | rfl | rfl | rfl | rfl | rfl | rfl | rfl | rfl | rfl
    · rw [b0]; omega
    · rw [b1]; omega
    · rw [b2]; omega
    · rw [b3]; omega
    · rw [b4]; omega
    · rw [b5]; omega
    · rw [b6]; omega
    · rw [b7]; omega
    · rw [b8]; omega
    · rw [b9]; omega
    · rw [b10]; omega
    · rw [b11]; omega
    · rw [b12]; omega
    · rw [b13]; omega
  · show 10 * (by_ S 0 - 48) + (by_ S 1 - 48) = _
    rw [b0, b1]; omega
  · show 10 * (by_ S 2 - 48) + (by_ S 3 - 48) = _
    rw [b2, b3]; omega
  · show 10 * (by_ S 4 - 48) + (by_ S 5 - 48) = _
    rw [b4, b5]; omega
  · show 10 * (by_ S 6 - 48) + (by_ S 7 - 48) = _
    rw [b6, b7]; omega
  · show 10 * (by_ S 8 - 48) + (by_ S 9 - 48) = _
    rw [b8, b9]; omega
  · show 10 * (by_ S 10 - 48) + (by_ S 11 - 48) = _
    rw [b10, b11]; omega
  · show 10 * (by_ S 12 - 48) + (by_ S 13 - 48) = _
    rw [b12, b13]; omega
theorem dayt_z (y m d : Int) (hy : 1 ≤ y) (hm : 1 ≤ m) : dayt y m d = Civ.dayz y m d - 719468 := by
  unfold dayt dz Civ.dayz Civ.M
  by_cases h : m < 3
  · rw [if_pos h, if_pos h, Civ.td _ _ (by omega), Civ.td _ _ (by omega), Civ.td _ _ (by omega), show m + 12 - 3 = m + 9 by omega]
  · rw [if_neg h, if_neg h, Civ.td _ _ (by omega), Civ.td _ _ (by omega), Civ.td _ _ (by omega)]
/-- What is written is read as it was. -/
theorem time_put (a : Int) (h0 : -631152000 ≤ a) (h1 : a ≤ 253402300799) (t : Int) (x : List Int) (e : Int) (hf : XY.texts_PutTime.f a = some (t, x, e)) : e = 0 ∧ (∀ b ∈ x, 0 ≤ b ∧ b < 256) ∧ time XY.texts_PutTime.f t x = some (a, 0) := by
  obtain ⟨y, m, d, hc, hy0, hy1, hm0, hm1, hd0, hd1, hb, hp⟩ := put a h0 h1
  have hz := Civ.dayz_civ ((a + 631152000) / 86400 + 712163) (by omega)
  rw [hc] at hz
  simp only at hz
  obtain ⟨n, hn⟩ : ∃ n, a + 631152000 = n := ⟨_, rfl⟩
  rw [hn] at hz hb hp
  rw [hf] at hp
  have hp2 := Option.some.inj hp
  simp only [Prod.mk.injEq] at hp2
  obtain ⟨ht, hx, he⟩ := hp2
  have key : ∀ S : ByteArray, (∀ i, i < 14 → by_ S i = (hd y m d ++ tl n).getD i 0) → tell XY.texts_PutTime.f t x S = some (a, 0) := by
    intro S hS
    obtain ⟨k, v0, v1, v2, v3, v4, v5, v6⟩ := read y m d n (by omega) (by omega) (by omega) (by omega) (by omega) (by omega) (by omega) S hS
    have hs : sec S = a := by
      unfold sec
      rw [v0, v1, v2, v3, v4, v5, v6, show 100 * (y / 100) + y % 100 = y by omega, dayt_z y m d (by omega) (by omega), hz]
      omega
    unfold tell
    rw [if_pos k, if_neg (by rw [v2, v4, v5, v6]; omega), hs, hf, Option.bind_some, if_pos ⟨he, rfl, rfl⟩]
  by_cases hy : y < 2050
  · rw [if_pos hy] at ht hx
    have hbx : ∀ b ∈ x, 0 ≤ b ∧ b < 256 := fun b hb2 => hb b (by rw [hx] at hb2; exact List.mem_of_mem_drop hb2)
    refine ⟨he, hbx, ?_⟩
    have hxl : x.length = 13 := by rw [hx]; rfl
    unfold time
    rw [if_pos ⟨ht, hxl⟩]
    have h00 : rd x 0 = y % 100 / 10 + 48 := by rw [hx]; rfl
    by_cases h53 : rd x 0 < 53
    · rw [if_pos h53]
      have e20 : (⟨#[50, 48]⟩ : ByteArray) = strOfNums [50, 48] := rfl
      refine key _ (fun i hi => ?_)
      rw [by_take _ i hi, e20, by_str ([50, 48] ++ x) (fun b hb2 => ?_) i (by simp [hxl]; omega) _ (str_app _ _)]
      · congr 1
        rw [hx]
        have q1 : y / 1000 + 48 = 50 := by omega
        have q2 : y / 100 % 10 + 48 = 48 := by omega
        unfold hd
        rw [q1, q2]
        rfl
      · rw [List.mem_append] at hb2
        rcases hb2 with hb2 | hb2
        · simp only [List.mem_cons, List.mem_nil_iff, or_false] at hb2
          rcases hb2 with rfl | rfl <;> omega
        · exact hbx b hb2
    · rw [if_neg h53]
      have e19 : (⟨#[49, 57]⟩ : ByteArray) = strOfNums [49, 57] := rfl
      refine key _ (fun i hi => ?_)
      rw [by_take _ i hi, e19, by_str ([49, 57] ++ x) (fun b hb2 => ?_) i (by simp [hxl]; omega) _ (str_app _ _)]
      · congr 1
        rw [hx]
        have q1 : y / 1000 + 48 = 49 := by omega
        have q2 : y / 100 % 10 + 48 = 57 := by omega
        unfold hd
        rw [q1, q2]
        rfl
      · rw [List.mem_append] at hb2
        rcases hb2 with hb2 | hb2
        · simp only [List.mem_cons, List.mem_nil_iff, or_false] at hb2
          rcases hb2 with rfl | rfl <;> omega
        · exact hbx b hb2
  · rw [if_neg hy] at ht hx
    have hbx : ∀ b ∈ x, 0 ≤ b ∧ b < 256 := fun b hb2 => hb b (by rw [hx] at hb2; exact hb2)
    refine ⟨he, hbx, ?_⟩
    have hxl : x.length = 15 := by rw [hx]; rfl
    unfold time
    rw [if_neg (by omega), if_pos ⟨ht, hxl⟩]
    refine key _ (fun i hi => ?_)
    rw [by_take _ i hi, by_str x hbx i (by omega) _ (strOfNums_data x), hx]
/-- What is read is written as it stood; what isn't tells nothing. -/
theorem put_time (pf : Int → Option (Int × List Int × Int)) (hpf : ∀ a, ∃ q, pf a = some q) (t : Int) (l : List Int) : ∃ n g, time pf t l = some (n, g) ∧ (g = 0 ∨ (n = 0 ∧ g = 32)) ∧ (g = 0 → ∃ x, pf n = some (t, x, 0) ∧ (strOfNums x).toList = (strOfNums l).toList) := by
  have bad : ∃ n g, (some ((0 : Int), (32 : Int)) : Option (Int × Int)) = some (n, g) ∧ (g = 0 ∨ (n = 0 ∧ g = 32)) ∧ (g = 0 → ∃ x, pf n = some (t, x, 0) ∧ (strOfNums x).toList = (strOfNums l).toList) := ⟨0, 32, rfl, .inr ⟨rfl, rfl⟩, fun h => by cases h⟩
  have key : ∀ S, ∃ n g, tell pf t l S = some (n, g) ∧ (g = 0 ∨ (n = 0 ∧ g = 32)) ∧ (g = 0 → ∃ x, pf n = some (t, x, 0) ∧ (strOfNums x).toList = (strOfNums l).toList) := by
    intro S
    unfold tell
    split
    · split
      · exact bad
      · obtain ⟨⟨q1, q2, q3⟩, hq⟩ := hpf (sec S)
        rw [hq, Option.bind_some]
        simp only
        split
        · rename_i h
          refine ⟨sec S, 0, rfl, .inl rfl, fun _ => ⟨q2, ?_, h.2.2⟩⟩
          rw [hq, h.1, h.2.1]
        · exact bad
    · exact bad
  unfold time
  split
  · split
    · exact key _
    · exact key _
  · split
    · exact key _
    · exact bad
theorem put_any (a : Int) : ∃ q, XY.texts_PutTime.f a = some q := by
  by_cases h : -631152000 ≤ a ∧ a ≤ 253402300799
  · obtain ⟨y, m, d, _, _, _, _, _, _, _, _, hp⟩ := put a h.1 h.2
    exact ⟨_, hp⟩
  · refine ⟨(0, [], 32), ?_⟩
    unfold XY.texts_PutTime.f
    rw [if_pos (by omega)]
/-! ### order -/
theorem F_dy (y : Int) : 365 * y + y / 4 - y / 100 + y / 400 = Civ.dy (y + 1) + 719162 := by
  unfold Civ.dy
  rw [show y + 1 - 1 = y by omega]
  generalize y / 4 = a
  generalize y / 100 = b
  generalize y / 400 = c
  omega
theorem civ_lt (z z' : Int) (h0 : 0 ≤ z) (h : z < z') : (Civ.civ z).1 < (Civ.civ z').1 ∨ (Civ.civ z).1 = (Civ.civ z').1 ∧ ((Civ.civ z).2.1 < (Civ.civ z').2.1 ∨ (Civ.civ z).2.1 = (Civ.civ z').2.1 ∧ (Civ.civ z).2.2 < (Civ.civ z').2.2) := by
  obtain ⟨y0, doy, hy, hd0, hd1, hz, hc⟩ := Civ.civ_parts z h0
  obtain ⟨y0', doy', hy', hd0', hd1', hz', hz2', hc'⟩ := Civ.civ_parts2 z' (by omega)
  have ht := Civ.doy_tab doy hd0 hd1
  have ht' := Civ.doy_tab doy' hd0' hd1'
  rw [hc, hc']
  simp only
  have e1 : z = Civ.dy (y0 + 1) + 719162 + doy := by rw [← F_dy y0]; exact hz
  have e2 : z' < Civ.dy (y0' + 2) + 719162 := by
    have h1 := F_dy (y0' + 1)
    have h3 : y0' + 1 + 1 = y0' + 2 := Int.add_assoc y0' 1 1
    rw [h3] at h1
    rw [← h1]
    exact hz2'
  have hm := Civ.dy_le (y0' + 2) (y0 + 1)
  have hcase : y0 < y0' ∨ y0 = y0' ∧ doy < doy' := by
    by_cases hc1 : y0 ≤ y0'
    · by_cases hc2 : y0 = y0'
      · subst hc2
        right
        refine ⟨rfl, ?_⟩
        have e3 : z' = Civ.dy (y0 + 1) + 719162 + doy' := by rw [← F_dy y0]; exact hz'
        clear hm e2 hz2' hc hc' ht ht' hz hz'
        omega
      · exact .inl (Int.lt_iff_le_and_ne.2 ⟨hc1, hc2⟩)
    · have h1 := hm (by clear hz hz' hz2' hc hc' ht ht' e1 e2 hm; omega)
      clear hz hz' hz2' hc hc' ht ht'
      omega
  clear e1 e2 hm hz hz' hz2'
  have hmono : doy < doy' → (5 * doy + 2) / 153 ≤ (5 * doy' + 2) / 153 := by omega
  obtain ⟨mp, hmp⟩ : ∃ mp, (5 * doy + 2) / 153 = mp := ⟨_, rfl⟩
  obtain ⟨mp', hmp'⟩ : ∃ mp, (5 * doy' + 2) / 153 = mp := ⟨_, rfl⟩
  rw [hmp] at ht hmono ⊢
  rw [hmp'] at ht' hmono ⊢
  have hM : mp = mp' → Civ.M mp = Civ.M mp' := fun e => by rw [e]
  generalize Civ.M mp = k at *
  generalize Civ.M mp' = k' at *
  by_cases c1 : mp < 10 <;> by_cases c2 : mp' < 10
  · simp only [if_pos c1, if_pos c2]; omega
  · simp only [if_pos c1, if_neg c2]; omega
  · simp only [if_neg c1, if_pos c2]; omega
  · simp only [if_neg c1, if_neg c2]; omega
def u (l : List Int) : List UInt8 := l.map fun n => UInt8.ofNat n.toNat
theorem u_app (a b : List Int) : u (a ++ b) = u a ++ u b := List.map_append
theorem u8_lt (a b : Int) (ha : 0 ≤ a) (hb : b < 256) (h : a < b) : UInt8.ofNat a.toNat < UInt8.ofNat b.toNat := by
  rw [UInt8.lt_iff_toNat_lt, UInt8.toNat_ofNat', UInt8.toNat_ofNat']
  omega
theorem blk_lt (v v' : Int) (h0 : 0 ≤ v) (h1 : v' ≤ 99) (h : v < v') (r s : List UInt8) : Op.bytesLess (u (B v) ++ r) (u (B v') ++ s) = true := by
  show Op.bytesLess (UInt8.ofNat (v / 10 + 48).toNat :: UInt8.ofNat (v % 10 + 48).toNat :: r) (UInt8.ofNat (v' / 10 + 48).toNat :: UInt8.ofNat (v' % 10 + 48).toNat :: s) = true
  unfold Op.bytesLess
  by_cases e : v / 10 = v' / 10
  · rw [e]
    unfold Op.bytesLess
    have hlt := u8_lt (v % 10 + 48) (v' % 10 + 48) (by omega) (by omega) (by omega)
    simp [hlt]
  · have hlt := u8_lt (v / 10 + 48) (v' / 10 + 48) (by omega) (by omega) (by omega)
    simp [hlt]
theorem pre_lt (p r s : List UInt8) (h : Op.bytesLess r s = true) : Op.bytesLess (p ++ r) (p ++ s) = true := by
  induction p with
  | nil => exact h
  | cons c p ih =>
    show Op.bytesLess (c :: (p ++ r)) (c :: (p ++ s)) = true
    unfold Op.bytesLess
    simp [ih]
theorem less_irrefl : ∀ l : List UInt8, Op.bytesLess l l = false
  | [] => rfl
  | c :: l => by
    unfold Op.bytesLess
    have h : ¬ c < c := by rw [UInt8.lt_iff_toNat_lt]; omega
    simp [h, less_irrefl l]
theorem less_asymm : ∀ l m : List UInt8, Op.bytesLess l m = true → Op.bytesLess m l = false
  | _, [], h => by simp [Op.bytesLess] at h
  | [], _ :: _, _ => by simp [Op.bytesLess]
  | c :: l, d :: m, h => by
    unfold Op.bytesLess at h ⊢
    simp only [Bool.or_eq_true, decide_eq_true_eq, Bool.and_eq_true, beq_iff_eq] at h
    rcases h with h | ⟨rfl, h⟩
    · have h1 : ¬ d < c := by rw [UInt8.lt_iff_toNat_lt] at *; omega
      have h2 : ¬ d = c := by rintro rfl; rw [UInt8.lt_iff_toNat_lt] at h; omega
      simp [h1, h2]
    · have h1 : ¬ c < c := by rw [UInt8.lt_iff_toNat_lt]; omega
      simp [h1, less_asymm l m h]
/-- The later one's body stands behind. -/
theorem body_lt (y m d n y' m' d' n' : Int) (hy0 : 0 ≤ y) (hy1 : y' ≤ 9999) (hy2 : 0 ≤ y') (hm0 : 0 ≤ m) (hm1 : m' ≤ 99) (hd0 : 0 ≤ d) (hd1 : d' ≤ 99) (hn : 0 ≤ n) (hn' : 0 ≤ n')
    (h : y < y' ∨ y = y' ∧ (m < m' ∨ m = m' ∧ (d < d' ∨ d = d' ∧ n % 86400 < n' % 86400))) : Op.bytesLess (strOfNums (hd y m d ++ tl n)).toList (strOfNums (hd y' m' d' ++ tl n')).toList = true := by
  rw [ByteArray.toList_eq, ByteArray.toList_eq, strOfNums_data, strOfNums_data]
  show Op.bytesLess (u (hd y m d ++ tl n)) (u (hd y' m' d' ++ tl n')) = true
  rw [hd_B y m d hy0, hd_B y' m' d' hy2, tl_n n hn, tl_n n' hn']
  simp only [u_app, List.append_assoc]
  by_cases e1 : y / 100 = y' / 100
  · rw [e1]
    refine pre_lt _ _ _ ?_
    by_cases e2 : y % 100 = y' % 100
    · rw [e2]
      refine pre_lt _ _ _ ?_
      have ey : y = y' := by omega
      by_cases e3 : m = m'
      · rw [e3]
        refine pre_lt _ _ _ ?_
        by_cases e4 : d = d'
        · rw [e4]
          refine pre_lt _ _ _ ?_
          have hlt : n % 86400 < n' % 86400 := by omega
          by_cases e5 : n % 86400 / 3600 = n' % 86400 / 3600
          · rw [e5]
            refine pre_lt _ _ _ ?_
            by_cases e6 : n % 86400 / 60 % 60 = n' % 86400 / 60 % 60
            · rw [e6]
              refine pre_lt _ _ _ ?_
              exact blk_lt _ _ (by omega) (by omega) (by omega) _ _
            · exact blk_lt _ _ (by omega) (by omega) (by omega) _ _
          · exact blk_lt _ _ (by omega) (by omega) (by omega) _ _
        · exact blk_lt _ _ hd0 hd1 (by omega) _ _
      · exact blk_lt _ _ hm0 hm1 (by omega) _ _
    · exact blk_lt _ _ (by omega) (by omega) (by omega) _ _
  · exact blk_lt _ _ (by omega) (by omega) (by omega) _ _
theorem put_lt (a b : Int) (h0 : -631152000 ≤ a) (h1 : b ≤ 253402300799) (h : a < b) (x y : List Int) (hx : XY.texts_PutTime.f a = some (24, x, 0)) (hy : XY.texts_PutTime.f b = some (24, y, 0)) : Op.bytesLess (strOfNums x).toList (strOfNums y).toList = true := by
  obtain ⟨y1, m1, d1, hc, hy0, hy1, hm0, hm1, hd0, hd1, hb, hp⟩ := put a h0 (by omega)
  obtain ⟨y2, m2, d2, hc', hy0', hy1', hm0', hm1', hd0', hd1', hb', hp'⟩ := put b (by omega) h1
  rw [hx] at hp
  rw [hy] at hp'
  have e1 := Option.some.inj hp
  have e2 := Option.some.inj hp'
  simp only [Prod.mk.injEq] at e1 e2
  have g1 : ¬ y1 < 2050 := fun h => by rw [if_pos h] at e1; omega
  have g2 : ¬ y2 < 2050 := fun h => by rw [if_pos h] at e2; omega
  rw [if_neg g1, if_neg g1] at e1
  rw [if_neg g2, if_neg g2] at e2
  rw [e1.2.1, e2.2.1]
  refine body_lt _ _ _ _ _ _ _ _ (by omega) (by omega) (by omega) (by omega) (by omega) (by omega) (by omega) (by omega) (by omega) ?_
  by_cases hz : (a + 631152000) / 86400 + 712163 < (b + 631152000) / 86400 + 712163
  · have hl := civ_lt _ _ (by omega) hz
    rw [hc, hc'] at hl
    simp only at hl
    omega
  · have ez : (a + 631152000) / 86400 + 712163 = (b + 631152000) / 86400 + 712163 := by omega
    rw [ez, hc'] at hc
    simp only [Prod.mk.injEq] at hc
    omega
end Tf
end Go.Proofs.YtgpghjmoapffcaaDoor
