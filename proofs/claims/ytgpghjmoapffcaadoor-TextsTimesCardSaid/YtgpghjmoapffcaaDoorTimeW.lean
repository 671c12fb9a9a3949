/- texts.day, bytes.Equal and texts.Time, walked (Time over a contract of PutTime). No condition. Printed by timew.py. -/
import Derived.Test.YtgpghjmoapffcaaDoorPl
import Derived.Test.YtgpghjmoapffcaaDoorProg
import Derived.Test.YtgpghjmoapffcaaDoorRight
import Derived.Test.YtgpghjmoapffcaaDoorCivW
import Derived.Test.YtgpghjmoapffcaaDoorVs
import Derived.WalkKit
import Derived.BigCall
import Derived.BigQuiet
import Derived.Deep.LoopGhost
import Derived.Deep.DeepMust
set_option linter.unusedVariables false
set_option linter.unusedSimpArgs false
namespace Go.Proofs.YtgpghjmoapffcaaDoor
open Go.RowKit Go.Proofs.YtgpghjmoapffcaaDoorW.PrintWords
namespace Al2
theorem app_size (x y : ByteArray) : (x ++ y).size = x.size + y.size := by
  have h := congrArg List.length (show (x ++ y).data.toList = x.data.toList ++ y.data.toList by simp)
  simp only [List.length_append, Array.length_toList, ByteArray.size_data] at h
  omega
end Al2
namespace Tm
/-! ### texts.day -/
def dz (y m d : Int) : Int := 365 * y + Int.tdiv y 4 - Int.tdiv y 100 + Int.tdiv y 400 + (153 * (m - 3) + 2) / 5 + d - 1 - 719468
def dayt (y m d : Int) : Int := if m < 3 then dz (y - 1) (m + 12) d else dz y m d
theorem dayt_range (y m d : Int) (hy0 : 0 ≤ y) (hy1 : y ≤ 9999) (hm0 : 1 ≤ m) (hm1 : m ≤ 12) (hd0 : 0 ≤ d) (hd1 : d ≤ 99) : -800000 ≤ dayt y m d ∧ dayt y m d ≤ 4000000 := by
  unfold dayt dz
  by_cases h : m < 3
  · rw [if_pos h]
    by_cases h0 : y = 0
    · subst h0
      have e1 : Int.tdiv (0 - 1) 4 = 0 := by decide
      have e2 : Int.tdiv (0 - 1) 100 = 0 := by decide
      have e3 : Int.tdiv (0 - 1) 400 = 0 := by decide
      rw [e1, e2, e3]
      omega
    · rw [Civ.td _ _ (by omega), Civ.td _ _ (by omega), Civ.td _ _ (by omega)]
      omega
  · rw [if_neg h, Civ.td _ _ hy0, Civ.td _ _ hy0, Civ.td _ _ hy0]
    omega
set_option maxHeartbeats 2000000 in
set_option maxRecDepth 100000 in
theorem day (y m d : Int) (w : World) (hy0 : 0 ≤ y) (hy1 : y ≤ 9999) (hm0 : 1 ≤ m) (hm1 : m ≤ 12) (hd0 : 0 ≤ d) (hd1 : d ≤ 99) :
    Calls Tryd.prog 40 #[.int .i64 y, .int .i64 m, .int .i64 d] w fun e w' => e = .returned (.int .i64 (dayt y m d)) ∧ Drawn0 w w' := by
  by_cases h : m < 3
  · by_cases h0 : y = 0
    · subst h0
      have hv : dayt 0 m d = -365 + (153 * (m + 12 - 3) + 2) / 5 + d - 1 - 719468 := by
        unfold dayt dz
        rw [if_pos h]
        have e1 : Int.tdiv (0 - 1) 4 = 0 := by decide
        have e2 : Int.tdiv (0 - 1) 100 = 0 := by decide
        have e3 : Int.tdiv (0 - 1) 400 = 0 := by decide
        rw [e1, e2, e3]
        omega
      have HV := Aside0.mk hv
      clear hv
      go_enter Tryd.func40, Tryd.ntmps40
      go_wp2
      go_ret
      exact ⟨by rw [HV.out]; first | rfl | (congr 2; omega), by repeat (first | exact Drawn0.refl _ | apply Drawn0.step)⟩
    · obtain ⟨z, hz⟩ : ∃ z, z = y - 1 := ⟨_, rfl⟩
      have hz0 : 0 ≤ z := by omega
      have hz1 : z ≤ 9998 := by omega
      have hv : dayt y m d = 365 * z + z / 4 - z / 100 + z / 400 + (153 * (m + 12 - 3) + 2) / 5 + d - 1 - 719468 := by
        unfold dayt dz
        rw [if_pos h, ← hz, Civ.td _ _ hz0, Civ.td _ _ hz0, Civ.td _ _ hz0]
      have HV := Aside0.mk hv
      have e : y - 1 = z := hz.symm
      clear hv hz
      go_enter Tryd.func40, Tryd.ntmps40
      go_wp2
      go_ret
      exact ⟨by rw [HV.out]; first | rfl | (congr 2; omega), by repeat (first | exact Drawn0.refl _ | apply Drawn0.step)⟩
  · have hv : dayt y m d = 365 * y + y / 4 - y / 100 + y / 400 + (153 * (m - 3) + 2) / 5 + d - 1 - 719468 := by
      unfold dayt dz
      rw [if_neg h, Civ.td _ _ hy0, Civ.td _ _ hy0, Civ.td _ _ hy0]
    have HV := Aside0.mk hv
    clear hv
    go_enter Tryd.func40, Tryd.ntmps40
    go_wp2
    go_ret
    exact ⟨by rw [HV.out]; first | rfl | (congr 2; omega), by repeat (first | exact Drawn0.refl _ | apply Drawn0.step)⟩
/-! ### bytes.Equal -/
set_option maxHeartbeats 2000000 in
set_option maxRecDepth 100000 in
theorem equal (x y : Value) (xs ys : List Int) (W : World) (hx : ∀ n, (convert 22 9 x).run Tryd.prog (W.drewN n) = .ok (.string (strOfNums xs)) (W.drewN n)) (hy : ∀ n, (convert 22 9 y).run Tryd.prog (W.drewN n) = .ok (.string (strOfNums ys)) (W.drewN n)) :
    Calls Tryd.prog 41 #[x, y] W fun e w' => e = .returned (.bool ((strOfNums xs).toList == (strOfNums ys).toList)) ∧ Below W.heap.size W w' := by
  have hx0 := hx 0
  have hy0 := hy 0
  rw [World.drewN_zero] at hx0 hy0
  generalize strOfNums xs = a at *
  generalize strOfNums ys = b at *
  go_enter Tryd.func41, Tryd.ntmps41
  go_wp2
  go_ret
  exact ⟨rfl, by repeat (first | exact Below.refl _ _ | apply below_drew1 | apply pw_below_drewN)⟩
/-! ### texts.Time -/
/-- The byte at a place. -/
def by_ (s : ByteArray) (i : Nat) : Int := ((s.data.toList.getD i 0).toNat : Int)
def isD (s : ByteArray) (i : Nat) : Prop := 48 ≤ by_ s i ∧ by_ s i ≤ 57
theorem dig (s : ByteArray) (pos : Nat) (h : pos < s.size) :
    (48 ≤ ((Utf8.decode s pos).1 : Int) ∧ ((Utf8.decode s pos).1 : Int) ≤ 57 → (Utf8.decode s pos).2 = 1 ∧ ((Utf8.decode s pos).1 : Int) = by_ s pos) ∧
    (¬ (48 ≤ ((Utf8.decode s pos).1 : Int) ∧ ((Utf8.decode s pos).1 : Int) ≤ 57) → ¬ isD s pos) := by
  have hl : pos < s.data.toList.length := by simpa using h
  have hd : s.data.toList.drop pos = s.data.toList[pos] :: s.data.toList.drop (pos + 1) := List.drop_eq_getElem_cons hl
  have hb : by_ s pos = (s.data.toList[pos].toNat : Int) := by
    unfold by_
    rw [List.getD_eq_getElem?_getD, List.getElem?_eq_getElem hl, Option.getD_some]
  unfold isD
  rw [hb, ← Lib.decodeL_drop, hd]
  generalize s.data.toList[pos] = b at *
  by_cases hlt : b.toNat < 128
  · rw [Lib.decodeL_ascii b _ hlt]
    exact ⟨fun _ => ⟨rfl, rfl⟩, fun h => h⟩
  · have h1 := Rt.decodeL_high b (s.data.toList.drop (pos + 1)) (by omega)
    exact ⟨fun h2 => by omega, fun _ h3 => by omega⟩
def val (s : ByteArray) (j : Nat) : Int := 10 * (by_ s (2 * j) - 48) + (by_ s (2 * j + 1) - 48)
def cell (s : ByteArray) (i j : Nat) : Int := if 2 * j + 1 < i then val s j else if 2 * j < i then by_ s (2 * j) - 48 else 0
theorem cell_same (s : ByteArray) (i j : Nat) (h : j ≠ i / 2) : cell s (i + 1) j = cell s i j := by
  unfold cell
  by_cases h1 : 2 * j + 1 < i
  · rw [if_pos h1, if_pos (by omega)]
  · by_cases h2 : 2 * j < i
    · omega
    · rw [if_neg h1, if_neg h2, if_neg (by omega), if_neg (by omega)]
theorem cell_next (s : ByteArray) (i : Nat) : cell s (i + 1) (i / 2) = cell s i (i / 2) * 10 + (by_ s i - 48) := by
  unfold cell
  by_cases h : i % 2 = 0
  · have e : 2 * (i / 2) = i := by omega
    rw [e, if_neg (by omega), if_pos (by omega), if_neg (by omega), if_neg (by omega)]
    omega
  · have e : 2 * (i / 2) + 1 = i := by omega
    rw [if_pos (by omega), if_neg (by omega), if_pos (by omega)]
    unfold val
    rw [e]
    omega
theorem cell_range (s : ByteArray) (i : Nat) (hd : ∀ j, j < i → isD s j) : 0 ≤ cell s i (i / 2) ∧ cell s i (i / 2) ≤ 9 := by
  unfold cell
  rw [if_neg (by omega)]
  split
  · have := hd (2 * (i / 2)) (by omega)
    unfold isD at this
    omega
  · omega
theorem cell_end (s : ByteArray) (j : Nat) (h : j < 7) : cell s 14 j = val s j := if_pos (by omega)
theorem val_range (s : ByteArray) (j : Nat) (h : j < 7) (hd : ∀ j, j < 14 → isD s j) : 0 ≤ val s j ∧ val s j ≤ 99 := by
  have h1 := hd (2 * j) (by omega)
  have h2 := hd (2 * j + 1) (by omega)
  unfold isD at h1 h2
  unfold val
  omega
def okD (s : ByteArray) : Bool := (List.range 14).all fun i => decide (48 ≤ by_ s i ∧ by_ s i ≤ 57)
theorem okD_true (s : ByteArray) (h : ∀ j, j < 14 → isD s j) : okD s = true := by
  unfold okD
  rw [List.all_eq_true]
  intro j hj
  have h2 := h j (List.mem_range.1 hj)
  unfold isD at h2
  exact decide_eq_true h2
theorem okD_false (s : ByteArray) (j : Nat) (hj : j < 14) (h : ¬ isD s j) : okD s = false := by
  unfold okD
  rw [List.all_eq_false]
  exact ⟨j, List.mem_range.2 hj, fun h2 => by unfold isD at h; exact h (of_decide_eq_true h2)⟩
theorem okD_all (s : ByteArray) (h : okD s = true) : ∀ j, j < 14 → isD s j := by
  unfold okD at h
  rw [List.all_eq_true] at h
  intro j hj
  have h2 := h j (List.mem_range.2 hj)
  unfold isD
  exact of_decide_eq_true h2
def sec (s : ByteArray) : Int := dayt (100 * val s 0 + val s 1) (val s 2) (val s 3) * 86400 + (3600 * val s 4 + 60 * val s 5 + val s 6)
/-- What is told of 14 digits. -/
def tell (pf : Int → Option (Int × List Int × Int)) (t : Int) (l : List Int) (s : ByteArray) : Option (Int × Int) :=
  if okD s = true then
    if val s 2 < 1 ∨ 12 < val s 2 ∨ 23 < val s 4 ∨ 59 < val s 5 ∨ 59 < val s 6 then some (0, 32)
    else (pf (sec s)).bind fun q => if q.2.2 = 0 ∧ q.1 = t ∧ (strOfNums q.2.1).toList = (strOfNums l).toList then some (sec s, 0) else some (0, 32)
  else some (0, 32)
def time (pf : Int → Option (Int × List Int × Int)) (t : Int) (l : List Int) : Option (Int × Int) :=
  if t = 23 ∧ l.length = 13 then
    if rd l 0 < 53 then tell pf t l (((⟨#[50, 48]⟩ : ByteArray) ++ strOfNums l).extract 0 14) else tell pf t l (((⟨#[49, 57]⟩ : ByteArray) ++ strOfNums l).extract 0 14)
  else if t = 24 ∧ l.length = 15 then tell pf t l ((strOfNums l).extract 0 14)
  else some (0, 32)
theorem cell_iterAt (W : World) (k : Nat) (s : ByteArray) (p : Nat) (a : Addr) (h : a.block ≠ k) : (W.iterAt k s p).cell? a = W.cell? a := by
  unfold World.cell?
  rw [Lib.iterAt_other W k a.block s p h]
def Cells (W : World) (g : Nat) (f : Nat → Int) : Prop := ∀ j, j < 7 → W.cell? ⟨g, j, none⟩ = some (.int .i64 (f j)) ∧ W.frozen? ⟨g, j, none⟩ = false
theorem cells_iterAt {W : World} {g : Nat} {f : Nat → Int} (h : Cells W g f) (k : Nat) (s : ByteArray) (p : Nat) (hk : g ≠ k) : Cells (W.iterAt k s p) g f := by
  intro j hj
  refine ⟨by rw [cell_iterAt _ _ _ _ _ hk]; exact (h j hj).1, ?_⟩
  have := (h j hj).2
  unfold World.frozen? at this ⊢
  rw [Lib.iterAt_other W k g s p hk]
  exact this
theorem cells_set {W : World} {g : Nat} {f f' : Nat → Int} (h : Cells W g f) (k : Nat) (v : Int) (hk : k < 7) (hf : f' k = v) (hs : ∀ j, j ≠ k → f' j = f j) : Cells (W.setCell ⟨g, k, none⟩ (.int .i64 v)) g f' := by
  intro j hj
  refine ⟨?_, by rw [World.frozen?_setCell]; exact (h j hj).2⟩
  by_cases e : j = k
  · subst e
    rw [World.cell?_setCell_same (w := W) (a := ⟨g, j, none⟩) (v := .int .i64 v) (h j hj).1, hf]
  · rw [World.cell?_setCell_other (w := W) (a := ⟨g, k, none⟩) (b := ⟨g, j, none⟩) (v := .int .i64 v) (by intro h2; injection h2 with h3 h4; exact e h4.symm), (h j hj).1, hs j e]
theorem heap_setCell_other (W : World) (g k : Nat) (v : Value) (i : Nat) (h : i ≠ g) : (W.setCell ⟨g, k, none⟩ v).heap[i]? = W.heap[i]? := by
  simp [World.setCell, Array.getElem?_modify, Ne.symm h]
theorem sec_range (s : ByteArray) (hd : ∀ j, j < 14 → isD s j) (h1 : 1 ≤ val s 2) (h2 : val s 2 ≤ 12) : -800000 ≤ dayt (100 * val s 0 + val s 1) (val s 2) (val s 3) ∧ dayt (100 * val s 0 + val s 1) (val s 2) (val s 3) ≤ 4000000 := by
  have v0 := val_range s 0 (by omega) hd
  have v1 := val_range s 1 (by omega) hd
  have v3 := val_range s 3 (by omega) hd
  exact dayt_range _ _ _ (by omega) (by omega) h1 h2 v3.1 v3.2
theorem cells0 (w : World) (T : ByteArray) (t : TypeId) : Cells ((w.alloc (.cells #[.int .i64 0, .int .i64 0, .int .i64 0, .int .i64 0, .int .i64 0, .int .i64 0, .int .i64 0] t)).iter T 0) w.heap.size (cell T 0) := by
  intro j hj
  have e : cell T 0 j = 0 := by unfold cell; simp
  have h : ((w.alloc (.cells #[.int .i64 0, .int .i64 0, .int .i64 0, .int .i64 0, .int .i64 0, .int .i64 0, .int .i64 0] t)).iter T 0).heap[w.heap.size]? = some (.cells #[.int .i64 0, .int .i64 0, .int .i64 0, .int .i64 0, .int .i64 0, .int .i64 0, .int .i64 0] t) := by
    have e2 : ∀ W : World, W.iter T 0 = W.alloc (.stringIter T 0) := fun _ => rfl
    rw [e2, heap_alloc_old _ _ (by rw [World.size_alloc]; omega), heap_alloc_new]
  have h7 : j = 0 ∨ j = 1 ∨ j = 2 ∨ j = 3 ∨ j = 4 ∨ j = 5 ∨ j = 6 := by omega
  rw [e]
  unfold World.cell? World.frozen?
  rw [h]
  rcases h7 with rfl | rfl | rfl | rfl | rfl | rfl | rfl <;> exact ⟨rfl, rfl⟩
theorem tell_bad (pf : Int → Option (Int × List Int × Int)) (t : Int) (l : List Int) (s : ByteArray) (r : Int × Int) (j : Nat) (hj : j < 14) (h : ¬ isD s j) (hr : tell pf t l s = some r) : r = (0, 32) := by
  unfold tell at hr
  rw [okD_false s j hj h, if_neg (by decide)] at hr
  exact (Option.some.inj hr).symm
theorem tell_ok (pf : Int → Option (Int × List Int × Int)) (t : Int) (l : List Int) (s : ByteArray) (r : Int × Int) (h : ∀ j, j < 14 → isD s j) (hr : tell pf t l s = some r) : (val s 2 < 1 ∨ 12 < val s 2 ∨ 23 < val s 4 ∨ 59 < val s 5 ∨ 59 < val s 6) ∧ r = (0, 32) ∨
    ¬ (val s 2 < 1 ∨ 12 < val s 2 ∨ 23 < val s 4 ∨ 59 < val s 5 ∨ 59 < val s 6) ∧ ∃ q1 q2 q3, pf (sec s) = some (q1, q2, q3) ∧ r = if q3 = 0 ∧ q1 = t ∧ (strOfNums q2).toList = (strOfNums l).toList then (sec s, 0) else (0, 32) := by
  unfold tell at hr
  rw [okD_true s h, if_pos rfl] at hr
  by_cases c : val s 2 < 1 ∨ 12 < val s 2 ∨ 23 < val s 4 ∨ 59 < val s 5 ∨ 59 < val s 6
  · rw [if_pos c] at hr
    exact .inl ⟨c, (Option.some.inj hr).symm⟩
  · rw [if_neg c] at hr
    obtain ⟨⟨q1, q2, q3⟩, hq, h2⟩ := Option.bind_eq_some_iff.1 hr
    refine .inr ⟨c, q1, q2, q3, hq, ?_⟩
    simp only at h2
    by_cases d : q3 = 0 ∧ q1 = t ∧ (strOfNums q2).toList = (strOfNums l).toList
    · rw [if_pos d] at h2 ⊢
      exact (Option.some.inj h2).symm
    · rw [if_neg d] at h2 ⊢
      exact (Option.some.inj h2).symm
set_option maxHeartbeats 16000000 in
set_option maxRecDepth 1000000 in
theorem walk24 (pf : Int → Option (Int × List Int × Int)) (hpf : ∀ (a r1 : Int) (r2 : List Int) (r3 : Int) (W : World), pf a = some (r1, r2, r3) → Calls Tryd.prog 17 #[.int .i64 a] W fun e w' => ∃ v1_ : Value, e = .returned (.tuple #[.int .u8 r1, v1_, .int .i64 r3]) ∧ Kd.V (Kd.int .u8) 5 w' W.heap.size (fun k_ => W.heap.size ≤ k_) v1_ r2 ∧ Below W.heap.size W w')
    (A : Option Addr) (c : Nat) (l : List Int) (hc : 15 ≤ c) (hl : l.length = 15) (r : Int × Int) (w : World) (hC : Kd.C (Kd.int .u8) w A l.length l) (h : tell pf 24 l ((strOfNums l).extract 0 14) = some r) :
    Calls Tryd.prog 19 #[.int .u8 24, .slice A 15 c] w fun e w' => e = .returned (.tuple #[.int .i64 r.1, .int .i64 r.2]) ∧ Below w.heap.size w w' := by
  have HCV := Aside0.mk (fun W (hW : Kd.C (Kd.int .u8) W A l.length l) => Kd.C_string (P := Tryd.prog) (c := c) Tryd.underlying22 Tryd.underlying5 Tryd.underlying9 hW)
  have hcv := HCV.out w hC
  have hsz : (strOfNums l).size = 15 := by rw [strOfNums_size, hl]
  have HW := Aside0.mk hC
  rw [hl] at hcv
  obtain ⟨D, hD⟩ : ∃ D, strOfNums l = D := ⟨_, rfl⟩
  have hDs : D.size = 15 := by
    rw [← hD]
    exact hsz
  rw [hD] at h
  obtain ⟨T, hT⟩ : ∃ T, D.extract 0 14 = T := ⟨_, rfl⟩
  have hTs : T.size = 14 := by
    rw [← hT]
    simp [hDs]
  rw [hT] at h
  have HRES := Aside0.mk h
  have HPF := Aside0.mk hpf
  have HL := Aside0.mk hl
  have HTS := Aside0.mk hTs
  have HDIG := Aside0.mk (fun pos (hp : pos < 14) => dig T pos (by omega))
  clear hC h hpf HCV hl
  generalize strOfNums l = S at *
  go_enter Tryd.func19, Tryd.ntmps19
  go_wp2
  go_loopw [8, 9] (fun v8 v9 wr => ∃ pos : Nat, pos ≤ 14 ∧ wr.heap[w.heap.size + 1]? = some (.stringIter T pos) ∧ Aside0 (Cells wr w.heap.size (cell T pos)) ∧ Aside0 (Below w.heap.size w wr) ∧ Aside0 (∀ j, j < pos → isD T j)) (fun _ _ wr => 14 - wr.iterPos (w.heap.size + 1))
  case atStart =>
    refine ⟨0, by omega, ?_, ⟨cells0 w T _⟩, ⟨?_⟩, ⟨fun j hj => absurd hj (Nat.not_lt_zero _)⟩⟩
    · have := World.iter_heap (w.alloc (.cells #[.int .i64 0, .int .i64 0, .int .i64 0, .int .i64 0, .int .i64 0, .int .i64 0, .int .i64 0] 61)) T 0
      rwa [World.size_alloc] at this
    · exact below_alloc (below_alloc (Below.refl w.heap.size w) _) (.stringIter T 0)
  case round =>
    obtain ⟨pos, hp14, hit, hcells, hbw, hdg⟩ := hrel
    by_cases hp : pos < 14
    · have hpT : pos < T.size := by rw [HTS.out]; exact hp
      have hnx : ∀ ty, (Instr.next (.pointer (some ⟨w.heap.size + 1, 0, none⟩)) true ty).run Tryd.prog wr = _ := fun ty => Lib.run_next_any_at wr (w.heap.size + 1) T pos ty hit hpT
      obtain ⟨hd1, hd2⟩ := HDIG.out pos hp
      have hit2 := Lib.iterAt_heap wr (w.heap.size + 1) T pos (pos + (Utf8.decode T pos).2) hit
      have hbw2 := Aside0.mk (Lib.below_iterAt hbw.out (k := w.heap.size + 1) (by omega) T (pos + (Utf8.decode T pos).2))
      have hcl2 := Aside0.mk (cells_iterAt hcells.out (w.heap.size + 1) T (pos + (Utf8.decode T pos).2) (by omega))
      generalize Utf8.decode T pos = d at hnx hd1 hd2 hit2 hbw2 hcl2
      obtain ⟨rn, wd⟩ := d
      simp only at hnx hd1 hd2 hit2 hbw2 hcl2
      by_cases hq : 48 ≤ (rn : Int) ∧ (rn : Int) ≤ 57
      · obtain ⟨rfl, hrn⟩ := hd1 hq
        obtain ⟨hq1, hq2⟩ := hq
        have hv := cell_range T pos hdg.out
        have hc7 := hcl2.out (pos / 2) (by omega)
        have hnext := cell_next T pos
        rw [← hrn] at hnext
        have hcs := Aside0.mk (cells_set hcl2.out (f' := cell T (pos + 1)) (pos / 2) (cell T pos (pos / 2) * 10 + ((rn : Int) - 48)) (by omega) hnext (fun j hj => cell_same T pos j hj))
        have hdg2 : Aside0 (∀ j, j < pos + 1 → isD T j) := ⟨fun j hj => by
          by_cases e : j = pos
          · subst e
            unfold isD
            rw [← hrn]
            exact ⟨hq1, hq2⟩
          · exact hdg.out j (by omega)⟩
        have hh : (pos : Int) / 2 = ((pos / 2 : Nat) : Int) := by omega
        have hh7 : ((pos / 2 : Nat) : Int) < 7 := by omega
        have hh7n : pos / 2 < 7 := by omega
        have hit3 := Aside0.mk (fun v => (heap_setCell_other (wr.iterAt (w.heap.size + 1) T (pos + 1)) w.heap.size (pos / 2) v (w.heap.size + 1) (by omega)).trans hit2)
        clear hnext hrn hd1 hd2
        obtain ⟨hv0, hv9⟩ := hv
        generalize cell T pos (pos / 2) = v at hc7 hcs hv0 hv9
        generalize pos / 2 = hN at hc7 hcs hh hh7 hh7n hit3
        obtain ⟨hc7a, hc7b⟩ := hc7
        have hip : (wr.iterPos (w.heap.size + 1)) = pos := by simp only [World.iterPos, hit]
        have HIP := Aside0.mk hip
        clear hip
        go_wp2
        go_roundw
        case rel => exact ⟨pos + 1, by omega, hit3.out _, hcs, ⟨hbw2.out.setCell (show w.heap.size ≤ w.heap.size from Nat.le_refl _) _⟩, hdg2⟩
        case measure =>
          have h1 := hit3.out (.int .i64 (v * 10 + ((rn : Int) - 48)))
          simp only [World.iterPos, h1, hit]
          omega
      · have hr0 := tell_bad _ _ _ _ _ pos hp (hd2 hq) HRES.out
        subst hr0
        have HB2 := hbw2
        clear hd1 hd2 hcl2 hcells hdg hbw HRES HPF
        by_cases h48 : 48 ≤ (rn : Int)
        · have h57 : 57 < (rn : Int) := by omega
          go_wp2
          go_ret2
          exact ⟨rfl, HB2.out⟩
        · go_wp2
          go_ret2
          exact ⟨rfl, HB2.out⟩
    · obtain rfl : pos = 14 := by omega
      have hnx : ∀ ty, (Instr.next (.pointer (some ⟨w.heap.size + 1, 0, none⟩)) true ty).run Tryd.prog wr = _ := fun ty => Lib.run_next_end_at wr (w.heap.size + 1) T 14 ty hit (by rw [HTS.out]; omega)
      have hok := hdg.out
      have hcase := tell_ok _ _ _ _ _ hok HRES.out
      have k0 := (hcells.out 0 (by omega)).1
      have k1 := (hcells.out 1 (by omega)).1
      have k2 := (hcells.out 2 (by omega)).1
      have k3 := (hcells.out 3 (by omega)).1
      have k4 := (hcells.out 4 (by omega)).1
      have k5 := (hcells.out 5 (by omega)).1
      have k6 := (hcells.out 6 (by omega)).1
      rw [cell_end T _ (by omega)] at k0 k1 k2 k3 k4 k5 k6
      obtain ⟨g0, g0'⟩ := val_range T 0 (by omega) hok
      obtain ⟨g1, g1'⟩ := val_range T 1 (by omega) hok
      obtain ⟨g2, g2'⟩ := val_range T 2 (by omega) hok
      obtain ⟨g3, g3'⟩ := val_range T 3 (by omega) hok
      obtain ⟨g4, g4'⟩ := val_range T 4 (by omega) hok
      obtain ⟨g5, g5'⟩ := val_range T 5 (by omega) hok
      obtain ⟨g6, g6'⟩ := val_range T 6 (by omega) hok
      unfold sec at hcase
      clear HRES hok hdg HDIG hcells
      generalize val T 0 = f0 at k0 g0 g0' hcase
      generalize val T 1 = f1 at k1 g1 g1' hcase
      generalize val T 2 = f2 at k2 g2 g2' hcase
      generalize val T 3 = f3 at k3 g3 g3' hcase
      generalize val T 4 = f4 at k4 g4 g4' hcase
      generalize val T 5 = f5 at k5 g5 g5' hcase
      generalize val T 6 = f6 at k6 g6 g6' hcase
      have HB2 := hbw
      rcases hcase with ⟨hbad, rfl⟩ | ⟨hgood, q1, q2, q3, hq, hr⟩
      · clear HPF hbw
        have BAD := Aside0.mk hbad
        clear hbad
        by_cases b1 : f2 < 1
        · go_wp2
          go_quiet (fail)
          go_wp2
          all_goals (go_ret2; exact ⟨rfl, pw_below_drewN HB2.out _⟩)
        by_cases b2 : 12 < f2
        · go_wp2
          go_quiet (fail)
          go_wp2
          all_goals (go_ret2; exact ⟨rfl, pw_below_drewN HB2.out _⟩)
        by_cases b3 : 23 < f4
        · go_wp2
          go_quiet (fail)
          go_wp2
          all_goals (go_ret2; exact ⟨rfl, pw_below_drewN HB2.out _⟩)
        by_cases b4 : 59 < f5
        · go_wp2
          go_quiet (fail)
          go_wp2
          all_goals (go_ret2; exact ⟨rfl, pw_below_drewN HB2.out _⟩)
        have b5 : 59 < f6 := by
          have := BAD.out
          omega
        go_wp2
        go_quiet (fail)
        go_wp2
        all_goals (go_ret2; exact ⟨rfl, pw_below_drewN HB2.out _⟩)
      · have b1 : ¬ f2 < 1 := by omega
        have b2 : ¬ 12 < f2 := by omega
        have b3 : ¬ 23 < f4 := by omega
        have b4 : ¬ 59 < f5 := by omega
        have b5 : ¬ 59 < f6 := by omega
        have HR := Aside0.mk hr
        have hdr := dayt_range (100 * f0 + f1) f2 f3 (by omega) (by omega) (by omega) (by omega) g3 g3'
        have HD := Aside0.mk (fun W => (show Calls Tryd.prog 40 #[.int .i64 (100 * f0 + f1), .int .i64 f2, .int .i64 f3] W fun e w' => e = .returned (.int .i64 (dayt (100 * f0 + f1) f2 f3)) ∧ ∃ q, w' = W.drewN q from (day (100 * f0 + f1) f2 f3 W (by omega) (by omega) (by omega) (by omega) g3 g3').mono (fun e w' h => ⟨h.1, by obtain ⟨q, hq⟩ := h.2; exact ⟨q, hq⟩⟩)))
        generalize dayt (100 * f0 + f1) f2 f3 = dn at hdr HD HR hq
        obtain ⟨hdr0, hdr1⟩ := hdr
        have HQ := Aside0.mk (fun W => HPF.out _ q1 q2 q3 W hq)
        clear hgood hr hq HPF hbw
        go_wp2
        go_quiet (fail)
        have HB3 := Aside0.mk (pw_below_drewN HB2.out nq)
        have m4 : (wr.drewN nq).cell? ⟨w.heap.size, 4, none⟩ = some (.int .i64 f4) := by simpa using k4
        have m5 : (wr.drewN nq).cell? ⟨w.heap.size, 5, none⟩ = some (.int .i64 f5) := by simpa using k5
        have m6 : (wr.drewN nq).cell? ⟨w.heap.size, 6, none⟩ = some (.int .i64 f6) := by simpa using k6
        generalize wr.drewN nq = wq at HB3 m4 m5 m6 ⊢
        clear k0 k1 k2 k3 k4 k5 k6 HB2
        have e1 : decide (f2 < 1) = false := decide_eq_false (by omega)
        have e2 : decide (12 < f2) = false := decide_eq_false (by omega)
        have e3 : decide (23 < f4) = false := decide_eq_false (by omega)
        have e4 : decide (59 < f5) = false := decide_eq_false (by omega)
        have e5 : decide (59 < f6) = false := decide_eq_false (by omega)
        go_wp2
        have QD := Aside0.mk (fun n => Calls.quiet_of (HD.out (wq.drewN n)))
        go_quiet ((go_at_call 40; with_reducible exact QD.out _))
        have HB4 := Aside0.mk (pw_below_drewN HB3.out nq)
        generalize wq.drewN nq = wp at HB4 ⊢
        clear m4 m5 m6 HB3 HD QD
        go_wp2_with (go_at_call 17; go_must (refine (HQ.out _).mono ?_))
        rintro e w5 ⟨v1, rfl, hV, hb5⟩
        have HB5 := Aside0.mk (below_step HB4.out hb5)
        have HV := Aside0.mk (Kd.V_lower (Kd.V_mono (ok' := fun k_ => True) hV (fun k_ hk_ => trivial)) (below_size HB4.out))
        clear hV hb5 HB4
        obtain ⟨A1, cc1, rfl⟩ := Kd.V_slice HV.out
        generalize dn * 86400 + (3600 * f4 + 60 * f5 + f6) = sc at HR HQ ⊢
        have HC5 := Aside0.mk (Kd.C_below HW.out HB5.out)
        clear HW HQ
        by_cases c1 : q3 = 0
        · subst c1
          by_cases c2 : q1 = 24
          · subst c2
            have hy : ∀ n, (convert 22 9 (.slice A 15 c)).run Tryd.prog (w5.drewN n) = .ok (.string (strOfNums l)) (w5.drewN n) := fun n => by
              have h := Kd.C_string (P := Tryd.prog) (c := c) Tryd.underlying22 Tryd.underlying5 Tryd.underlying9 (Kd.C_below HC5.out (pw_below_drewN (Below.refl _ w5) n))
              rwa [HL.out] at h
            have EQ := Aside0.mk (equal (.slice A1 q2.length cc1) (.slice A 15 c) q2 l w5 (fun n => V_string Tryd.underlying22 Tryd.underlying5 Tryd.underlying9 (Kd.V_drewN HV.out n)) hy)
            clear hy HV HC5
            by_cases c3 : (strOfNums q2).toList = (strOfNums l).toList
            · have hr2 : r = (sc, 0) := by rw [HR.out, if_pos ⟨rfl, rfl, c3⟩]
              subst hr2
              rw [beq_iff_eq.2 c3] at EQ
              clear c3 HR
              go_wp2_with (go_at_call 41; go_must (refine EQ.out.mono ?_))
              rintro e w6 ⟨rfl, hb6⟩
              have HB6 := Aside0.mk (below_step HB5.out hb6)
              clear hb6
              go_wp2
              go_ret2
              exact ⟨rfl, HB6.out⟩
            · have hr2 : r = (0, 32) := by rw [HR.out, if_neg (fun h => c3 h.2.2)]
              subst hr2
              rw [beq_eq_false_iff_ne.2 c3] at EQ
              clear c3 HR
              go_wp2_with (go_at_call 41; go_must (refine EQ.out.mono ?_))
              rintro e w6 ⟨rfl, hb6⟩
              have HB6 := Aside0.mk (below_step HB5.out hb6)
              clear hb6
              go_wp2
              go_ret2
              exact ⟨rfl, HB6.out⟩
          · have hr2 : r = (0, 32) := by rw [HR.out, if_neg (fun h => c2 h.2.1)]
            subst hr2
            have c2b : (q1 != 24) = true := by simp [c2]
            clear HR HV HC5
            go_wp2
            go_ret2
            exact ⟨rfl, HB5.out⟩
        · have hr2 : r = (0, 32) := by rw [HR.out, if_neg (fun h => c1 h.1)]
          subst hr2
          have c1b : (q3 != 0) = true := by simp [c1]
          clear HR HV HC5
          go_wp2
          go_ret2
          exact ⟨rfl, HB5.out⟩
end Tm
end Go.Proofs.YtgpghjmoapffcaaDoor
