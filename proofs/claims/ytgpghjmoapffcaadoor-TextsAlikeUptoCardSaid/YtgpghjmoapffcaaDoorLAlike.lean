/- The law TextsAlike, walked: it is true of every text of at most 2^20 bytes. -/
import Derived.Test.YtgpghjmoapffcaaDoorXY1
import Derived.Test.YtgpghjmoapffcaaDoorAlike
import Derived.Test.YtgpghjmoapffcaaDoorOpn
import Derived.Lib.ConvBytes
import Derived.Lib.UnsafeStr
import Derived.Deep.DeepMust
set_option linter.unusedVariables false
set_option linter.unusedSimpArgs false
namespace Go.Proofs.YtgpghjmoapffcaaDoor
open Go.RowKit Go.Proofs.YtgpghjmoapffcaaDoorW.PrintWords
namespace Al
def pp (a : ByteArray) : ByteArray := ⟨(Tx.prep a.data.toList).toArray⟩
theorem prepc (a : ByteArray) (h : a.size ≤ 8796093022208) (W : World) : Calls Tryd.prog 15 #[.string a] W fun e w' => e = .returned (.string (pp a)) ∧ Below W.heap.size W w' :=
  XY.texts_Prep.calls a (pp a) W (if_pos h)
theorem headc (W : World) : Calls Tryd.prog 12 #[] W fun e w' => e = .returned (.bool true) ∧ Below W.heap.size W w' := XY.warderlaw03_head.calls true W rfl
def gi (x : Int) : Int := if 97 ≤ x ∧ x ≤ 122 then x - 32 else x
/-- The bytes of which the first k are written great. -/
def row (l : List Int) (k : Nat) : List Int := (l.take k).map gi ++ l.drop k
theorem row_len (l : List Int) (k : Nat) : (row l k).length = l.length := by simp [row]; omega
theorem row_zero (l : List Int) : row l 0 = l := rfl
theorem row_end (l : List Int) : row l l.length = l.map gi := by simp [row]
theorem row_at (l : List Int) (k : Nat) (h : k < l.length) : (row l k).getD k 0 = l.getD k 0 := by
  have hl : ((l.take k).map gi).length = k := by simp; omega
  unfold row
  rw [List.getD_eq_getElem?_getD, List.getElem?_append_right (by omega), hl, Nat.sub_self, List.getElem?_drop, Nat.add_zero, List.getD_eq_getElem?_getD]
theorem row_succ (l : List Int) (k : Nat) (h : k < l.length) : row l (k + 1) = (row l k).set k (gi (l.getD k 0)) := by
  have hl : ((l.take k).map gi).length = k := by simp; omega
  unfold row
  rw [List.take_succ_eq_append_getElem h, getD_eq _ _ _ h, List.map_append, List.set_append_right _ _ (by omega), hl, List.drop_eq_getElem_cons h]
  simp only [Nat.sub_self, List.set_cons_zero, List.map_cons, List.map_nil, List.append_assoc, List.cons_append, List.nil_append]
theorem row_same (l : List Int) (k : Nat) (h : k < l.length) (hg : gi (l.getD k 0) = l.getD k 0) : row l (k + 1) = row l k := by
  rw [row_succ l k h, hg, ← row_at l k h, getD_eq _ _ _ (by rw [row_len]; exact h), List.set_getElem_self]
/-- The blanks. -/
def bl (j : Nat) : ByteArray := ([⟨#[32]⟩, ⟨#[9]⟩, ⟨#[194, 160]⟩, ⟨#[227, 128, 128]⟩, ⟨#[226, 128, 131]⟩] : List ByteArray).getD j ⟨#[32]⟩
theorem bl_blank (j : Nat) : Tx.Blank (bl j).data.toList := by
  match j with
  | 0 => exact Tx.blank0
  | 1 => exact Tx.blank1
  | 2 => exact Tx.blank2
  | 3 => exact Tx.blank3
  | 4 => exact Tx.blank4
  | _ + 5 => exact Tx.blank0
theorem bl_size (j : Nat) : 1 ≤ (bl j).size ∧ (bl j).size ≤ 3 := by
  match j with
  | 0 => exact ⟨by decide, by decide⟩
  | 1 => exact ⟨by decide, by decide⟩
  | 2 => exact ⟨by decide, by decide⟩
  | 3 => exact ⟨by decide, by decide⟩
  | 4 => exact ⟨by decide, by decide⟩
  | _ + 5 => exact (show 1 ≤ (⟨#[32]⟩ : ByteArray).size ∧ (⟨#[32]⟩ : ByteArray).size ≤ 3 from ⟨by decide, by decide⟩)
/-- A text with blanks put in at a place. -/
def cut (s b : ByteArray) (q : Nat) : ByteArray := s.extract 0 q ++ b ++ b ++ s.extract q s.size
def sp (s b : ByteArray) (q : Int) (k : Nat) : ByteArray := if q < (k : Int) ∧ rd (bytesOf s) q = 32 then cut s b q.toNat else ⟨#[]⟩
theorem fresh_row (W : World) (e : TypeId) (s : ByteArray) (j : Nat) (hj : j < s.size) : (Lib.bytesWorld W e s).cell? ⟨W.heap.size, j, none⟩ = some (.int .u8 ((row (bytesOf s) 0).getD j 0)) ∧ (Lib.bytesWorld W e s).frozen? ⟨W.heap.size, j, none⟩ = false := by
  constructor
  · rw [Lib.bytesWorld_cell W e s j hj, row_zero]
    have hl : j < s.data.toList.length := by simpa using hj
    simp [bytesOf, List.getD_eq_getElem?_getD, List.getElem?_map, List.getElem?_eq_getElem hl]
  · unfold World.frozen?
    rw [Lib.bytesWorld_at_new]
    simp only [Lib.bytesCells, Array.size_append, Array.size_map, Array.size_replicate, Bool.and_eq_false_iff, decide_eq_false_iff_not]
    left
    have : s.data.size = s.size := rfl
    omega
theorem bytesWorld_below' (w : World) (e : TypeId) (s : ByteArray) : Below w.heap.size w (Lib.bytesWorld w e s) := by
  unfold Lib.bytesWorld
  exact Lib.below_freeze (below_alloc (below_drew1 (Below.refl _ _)) _) (Nat.le_refl _) _
theorem stored (wr : World) (G : Nat) (l : List Int) (n k : Nat) (hk : k < n) (hl : l.length = n) (v : Int) (h : ∀ j, j < n → wr.cell? ⟨G, j, none⟩ = some (.int .u8 (l.getD j 0)) ∧ wr.frozen? ⟨G, j, none⟩ = false) :
    ∀ j, j < n → (wr.setCell ⟨G, k, none⟩ (.int .u8 v)).cell? ⟨G, j, none⟩ = some (.int .u8 ((l.set k v).getD j 0)) ∧ (wr.setCell ⟨G, k, none⟩ (.int .u8 v)).frozen? ⟨G, j, none⟩ = false := by
  intro j hj
  refine ⟨?_, by rw [World.frozen?_setCell]; exact (h j hj).2⟩
  by_cases e : j = k
  · subst e
    rw [World.cell?_setCell_same (w := wr) (a := ⟨G, j, none⟩) (v := .int .u8 v) (h j hj).1]
    simp [List.getD_eq_getElem?_getD, hl, hj]
  · rw [World.cell?_setCell_other (w := wr) (a := ⟨G, k, none⟩) (b := ⟨G, j, none⟩) (v := .int .u8 v) (by intro h2; injection h2 with h3 h4; exact e h4.symm), (h j hj).1]
    simp [List.getD_eq_getElem?_getD, List.getElem?_set, Ne.symm e]
theorem sp_same (s b : ByteArray) (q : Int) (k : Nat) (h : ¬ (q = (k : Int) ∧ rd (bytesOf s) q = 32)) : sp s b q (k + 1) = sp s b q k := by
  unfold sp
  by_cases h1 : q < (k : Int) ∧ rd (bytesOf s) q = 32
  · rw [if_pos h1, if_pos ⟨by omega, h1.2⟩]
  · rw [if_neg h1, if_neg (fun h2 => ?_)]
    by_cases h3 : q = (k : Int)
    · exact h ⟨h3, h2.2⟩
    · exact h1 ⟨by omega, h2.2⟩
theorem sp_hit (s b : ByteArray) (k : Nat) (h : rd (bytesOf s) (k : Int) = 32) : sp s b (k : Int) (k + 1) = cut s b k := by
  unfold sp
  rw [if_pos ⟨by omega, h⟩, Int.toNat_natCast]
theorem pp_eq {x y : ByteArray} (h : Tx.prep x.data.toList = Tx.prep y.data.toList) : pp x = pp y := by
  unfold pp
  rw [h]
theorem app_data (x y : ByteArray) : (x ++ y).data.toList = x.data.toList ++ y.data.toList := by simp
theorem app_size (x y : ByteArray) : (x ++ y).size = x.size + y.size := by
  have h := congrArg List.length (app_data x y)
  simp only [List.length_append, Array.length_toList, ByteArray.size_data] at h
  omega
theorem again (s p : ByteArray) (hs : s.size ≤ 1048576) (hp : p = pp s) (W : World) : Calls Tryd.prog 15 #[.string p] W fun e w' => e = .returned (.string p) ∧ Below W.heap.size W w' := by
  have e : pp p = p := by
    rw [hp]
    exact pp_eq (Tx.prep_prep _)
  have hz : p.size ≤ 8796093022208 := by
    have h1 := Tx.prep_length s.data.toList
    have h2 : p.size = (Tx.prep s.data.toList).length := by rw [hp]; simp [pp, ByteArray.size]
    have h3 : s.data.toList.length = s.size := by simp
    omega
  have := prepc p hz W
  rwa [e] at this
theorem about (s b p : ByteArray) (hb : Tx.Blank b.data.toList) (hbs : b.size ≤ 3) (hs : s.size ≤ 1048576) (hp : p = pp s) (W : World) : Calls Tryd.prog 15 #[.string (b ++ s ++ b ++ ⟨#[32]⟩)] W fun e w' => e = .returned (.string p) ∧ Below W.heap.size W w' := by
  have e : pp (b ++ s ++ b ++ ⟨#[32]⟩) = p := by
    rw [hp]
    refine pp_eq ?_
    rw [app_data, app_data, app_data]
    exact Tx.prep_about hb _
  have s1 : (⟨#[32]⟩ : ByteArray).size = 1 := rfl
  have := prepc (b ++ s ++ b ++ ⟨#[32]⟩) (by rw [app_size, app_size, app_size, s1]; omega) W
  rwa [e] at this
theorem gi_gr (s : ByteArray) : strOfNums ((bytesOf s).map gi) = ⟨(s.data.toList.map Tx.gr).toArray⟩ := by
  unfold strOfNums bytesOf
  rw [List.map_map, List.map_map]
  congr 2
  refine List.map_congr_left fun b _ => ?_
  have hlt := b.toNat_lt
  apply UInt8.toNat_inj.1
  rw [Tx.gr_toNat]
  simp only [Function.comp, gi, UInt8.toNat_ofNat']
  split <;> split <;> omega
theorem greats (s p : ByteArray) (hs : s.size ≤ 1048576) (hp : p = pp s) (W : World) : Calls Tryd.prog 15 #[.string (strOfNums ((bytesOf s).map gi))] W fun e w' => e = .returned (.string p) ∧ Below W.heap.size W w' := by
  have e : pp (strOfNums ((bytesOf s).map gi)) = p := by
    rw [hp, gi_gr]
    exact pp_eq (Tx.prep_gr _)
  have := prepc (strOfNums ((bytesOf s).map gi)) (by rw [strOfNums_size, List.length_map, bytesOf_length]; omega) W
  rwa [e] at this
theorem sp_size (s b : ByteArray) (q : Int) (hb : 1 ≤ b.size) : sp s b q s.size = ⟨#[]⟩ ∨ 1 ≤ (sp s b q s.size).size := by
  unfold sp
  split
  · right
    unfold cut
    rw [app_size, app_size, app_size]
    omega
  · left; rfl
theorem ext0 (s : ByteArray) (q : Nat) : (s.extract 0 q).data.toList = s.data.toList.take q := by
  simp [ByteArray.data_extract]
theorem extq (s : ByteArray) (q : Nat) : (s.extract q s.size).data.toList = s.data.toList.drop q := by
  rw [ByteArray.data_extract, Array.toList_extract]
  simp
  exact List.take_of_length_le (by simp)
theorem splits (s b p : ByteArray) (q : Int) (hb : Tx.Blank b.data.toList) (hbs : b.size ≤ 3) (hs : s.size ≤ 1048576) (hq : 0 ≤ q) (hp : p = pp s) (h1 : 1 ≤ (sp s b q s.size).size) (W : World) : Calls Tryd.prog 15 #[.string (sp s b q s.size)] W fun e w' => e = .returned (.string p) ∧ Below W.heap.size W w' := by
  have hcs : q < (s.size : Int) ∧ rd (bytesOf s) q = 32 := by
    by_cases h : q < (s.size : Int) ∧ rd (bytesOf s) q = 32
    · exact h
    · unfold sp at h1
      rw [if_neg h] at h1
      exact absurd h1 (by decide)
  have he : sp s b q s.size = cut s b q.toNat := if_pos hcs
  have hl : q.toNat < s.data.toList.length := by
    have : s.data.toList.length = s.size := by simp
    omega
  have hd : s.data.toList.drop q.toNat = 32 :: s.data.toList.drop (q.toNat + 1) := by
    rw [List.drop_eq_getElem_cons hl]
    congr 1
    have h2 := hcs.2
    unfold rd bytesOf at h2
    rw [List.getD_eq_getElem?_getD, List.getElem?_map, List.getElem?_eq_getElem hl] at h2
    apply UInt8.toNat_inj.1
    have : (32 : UInt8).toNat = 32 := rfl
    simp only [Option.map_some, Option.getD_some] at h2
    omega
  have e : pp (cut s b q.toNat) = p := by
    rw [hp]
    refine pp_eq ?_
    unfold cut
    rw [app_data, app_data, app_data, ext0, extq, hd, Tx.prep_split hb, ← hd, List.take_append_drop]
  have hz : (cut s b q.toNat).size ≤ 8796093022208 := by
    have l1 : (s.extract 0 q.toNat).size ≤ s.size := by
      have h := congrArg List.length (ext0 s q.toNat)
      simp only [Array.length_toList, ByteArray.size_data, List.length_take] at h
      omega
    have l2 : (s.extract q.toNat s.size).size ≤ s.size := by
      have h := congrArg List.length (extq s q.toNat)
      simp only [Array.length_toList, ByteArray.size_data, List.length_drop] at h
      omega
    unfold cut
    rw [app_size, app_size, app_size]
    omega
  have := prepc (cut s b q.toNat) hz W
  rw [e] at this
  rwa [he]
set_option maxHeartbeats 8000000 in
set_option maxRecDepth 1000000 in
theorem walk (s : ByteArray) (a b : Int) (hs : s.size ≤ 1048576) (ha : 0 ≤ a ∧ a < 65536) (hb : 0 ≤ b ∧ b < 256) (w : World) :
    Calls Tryd.prog 5 #[.string s, .int .u16 a, .int .u8 b] w fun e w' => e = .returned (.bool true) ∧ Below w.heap.size w w' := by
  obtain ⟨ha0, ha1⟩ := ha
  obtain ⟨hb0, hb1⟩ := hb
  have HP := Aside0.mk (fun (x : ByteArray) (h : x.size ≤ 8796093022208) W => prepc x h W)
  obtain ⟨p, hp⟩ : ∃ p, p = pp s := ⟨_, rfl⟩
  have cs := HP.out s (by omega)
  rw [← hp] at cs
  have CS := Aside0.mk cs
  have PEQ := Aside0.mk hp
  clear cs hp
  obtain ⟨j, hj⟩ : ∃ j : Nat, j = (Int.tmod b 5).toNat := ⟨_, rfl⟩
  have hjm : Int.tmod b 5 = (j : Int) := by rw [hj, Int.tmod_eq_emod_of_nonneg hb0]; omega
  have hj5 : j < 5 := by rw [hj, Int.tmod_eq_emod_of_nonneg hb0]; omega
  have hjm2 : b % 5 = (j : Int) := by rw [← hjm, Int.tmod_eq_emod_of_nonneg hb0]
  have hjz : (j : Int) < 5 := by omega
  clear hj
  have hlit : ∀ (W : World), (W.alloc (.cells #[.string ⟨#[32]⟩, .string ⟨#[9]⟩, .string ⟨#[194, 160]⟩, .string ⟨#[227, 128, 128]⟩, .string ⟨#[226, 128, 131]⟩] 9)).cell? ⟨W.heap.size, j, none⟩ = some (.string (bl j)) := by
    intro W
    unfold World.cell?
    rw [heap_alloc_new]
    have h5 : j = 0 ∨ j = 1 ∨ j = 2 ∨ j = 3 ∨ j = 4 := by omega
    rcases h5 with rfl | rfl | rfl | rfl | rfl <;> rfl
  obtain ⟨B, hB⟩ : ∃ B, B = bl j := ⟨_, rfl⟩
  have hbs := bl_size j
  have hbb := Aside0.mk (bl_blank j)
  rw [← hB] at hlit hbs hbb
  clear hB
  go_enter Tryd.func5, Tryd.ntmps5
  go_wp2_with (go_at_call 12; go_must (refine (headc _).mono ?_))
  rintro e w1 ⟨rfl, hb1⟩
  go_wp2_with (go_at_call 15; go_must (refine (CS.out _).mono ?_))
  rintro e w2 ⟨rfl, hb2⟩
  have HB := Aside0.mk (below_step hb1 hb2)
  clear hb1 hb2
  have kc := fun W => Lib.run_convert_string_bytes (P := Tryd.prog) W 9 22 5 s Tryd.underlying9 Tryd.underlying22 Tryd.underlying5
  have hsz := HB.out.size
  have hsl : (bytesOf s).length = s.size := bytesOf_length s
  obtain ⟨q, hq⟩ : ∃ q, a % (s.size : Int) = q := ⟨_, rfl⟩
  have hq0 : 0 ≤ q := by
    rw [← hq]
    by_cases h : s.size = 0
    · rw [h]; simpa using ha0
    · exact Int.emod_nonneg _ (by omega)
  have hq1 : 0 < s.size → q < (s.size : Int) := fun h => by rw [← hq]; exact Int.emod_lt_of_pos _ (by omega)
  go_wp2
  go_loopw [12, 13] (fun v12 v13 wr => ∃ k : Nat, k ≤ s.size ∧ v13 = .int .i64 k ∧ v12 = .string (sp s B q k) ∧ Aside0 (∀ j, j < s.size → wr.cell? ⟨w2.heap.size + 1, j, none⟩ = some (.int .u8 ((row (bytesOf s) k).getD j 0)) ∧ wr.frozen? ⟨w2.heap.size + 1, j, none⟩ = false) ∧ Aside0 (Below w.heap.size w wr)) (fun _ v13 _ => s.size - (intOf v13).toNat)
  case atStart =>
    refine ⟨0, Nat.zero_le _, rfl, ?_, ⟨fun j hj => ?_⟩, ⟨?_⟩⟩
    · unfold sp
      rw [if_neg (by omega)]
    · have := fresh_row (w2.alloc (.cells #[.string ⟨#[32]⟩, .string ⟨#[9]⟩, .string ⟨#[194, 160]⟩, .string ⟨#[227, 128, 128]⟩, .string ⟨#[226, 128, 131]⟩] 9)) 5 s j hj
      rw [World.size_alloc] at this
      exact this
    · exact below_step (below_alloc HB.out _) (bytesWorld_below' _ _ s)
  case round =>
    obtain ⟨k, hk, rfl, rfl, hrow, hbel⟩ := hrel
    by_cases hlt : k < s.size
    · have hltz : (k : Int) < (s.size : Int) := by omega
      have hxk := hrow.out k hlt
      rw [row_at _ _ (by omega)] at hxk
      obtain ⟨xb, hxb⟩ : ∃ xb, s[k]'hlt = xb := ⟨_, rfl⟩
      have hx : (bytesOf s).getD k 0 = (xb.toNat : Int) := by
        have hl : k < s.data.toList.length := by simpa using hlt
        rw [← hxb]
        simp [bytesOf, List.getD_eq_getElem?_getD, List.getElem?_map, List.getElem?_eq_getElem hl]
        rfl
      have HRS := Aside0.mk (row_succ (bytesOf s) k (by omega))
      have HRE := Aside0.mk (row_same (bytesOf s) k (by omega))
      rw [hx] at hxk HRS HRE
      have HX := Aside0.mk hx
      clear hx
      obtain ⟨x, hxx⟩ : ∃ x : Int, (xb.toNat : Int) = x := ⟨_, rfl⟩
      have hxr : 0 ≤ x ∧ x < 256 := by have := xb.toNat_lt; omega
      rw [hxx] at hxk HRS HRE HX
      obtain ⟨hc, hf⟩ := hxk
      have hk0 : (0 : Int) ≤ (k : Int) := by omega
      by_cases h97 : 97 ≤ x
      · by_cases h122 : x ≤ 122
        · have h32 : ((x : Int) == 32) = false := by simp; omega
          have hgi : gi x = x - 32 := if_pos ⟨h97, h122⟩
          have hw : (x - 32) % 256 = x - 32 := by omega
          have hst := Aside0.mk (stored wr (w2.heap.size + 1) _ s.size k hlt (by rw [row_len]; omega) (x - 32) hrow.out)
          rw [hgi] at HRS
          have hsp := Aside0.mk (sp_same s B q k (fun h => by rw [h.1, rd, Int.toNat_natCast, HX.out] at h; omega))
          clear hgi
          go_wp2
          go_roundw
          case rel => exact ⟨k + 1, by omega, by go_num, by rw [hsp.out], ⟨by rw [HRS.out]; exact hst.out⟩, ⟨hbel.out.setCell (show w.heap.size ≤ w2.heap.size + 1 by omega) _⟩⟩
          case measure => simp [intOf]; omega
        · have h32 : ((x : Int) == 32) = false := by simp; omega
          have hgi : gi x = x := if_neg (by omega)
          have hsp := Aside0.mk (sp_same s B q k (fun h => by rw [h.1, rd, Int.toNat_natCast, HX.out] at h; omega))
          have HRE2 := Aside0.mk (HRE.out hgi)
          clear hgi
          go_wp2
          go_roundw
          case rel => exact ⟨k + 1, by omega, by go_num, by rw [hsp.out], ⟨by rw [HRE2.out]; exact hrow.out⟩, hbel⟩
          case measure => simp [intOf]; omega
      · have hgi : gi x = x := if_neg (by omega)
        have HRE2 := Aside0.mk (HRE.out hgi)
        clear hgi
        by_cases hx32 : x = 32
        · by_cases hkq : q = (k : Int)
          · subst hx32
            have hsp := Aside0.mk (sp_hit s B k (by rw [rd, Int.toNat_natCast]; exact HX.out))
            subst hkq
            have hkz : (k : Int) ≤ (s.size : Int) := by omega
            go_wp2
            go_quiet (fail)
            go_wp2
            go_roundw
            case rel => exact ⟨k + 1, by omega, by go_num, by rw [hsp.out]; rfl, ⟨by rw [HRE2.out]; exact fun j hj => by simpa using hrow.out j hj⟩, ⟨pw_below_drewN hbel.out _⟩⟩
            case measure => simp [intOf]; omega
          · have hkb : ((k : Int) == q) = false := by simp; omega
            have hsp := Aside0.mk (sp_same s B q k (fun h => hkq h.1))
            subst hx32
            go_wp2
            go_roundw
            case rel => exact ⟨k + 1, by omega, by go_num, by rw [hsp.out], ⟨by rw [HRE2.out]; exact hrow.out⟩, hbel⟩
            case measure => simp [intOf]; omega
        · have h32 : ((x : Int) == 32) = false := by simp; omega
          have hsp := Aside0.mk (sp_same s B q k (fun h => by rw [h.1, rd, Int.toNat_natCast, HX.out] at h; omega))
          go_wp2
          go_roundw
          case rel => exact ⟨k + 1, by omega, by go_num, by rw [hsp.out], ⟨by rw [HRE2.out]; exact hrow.out⟩, hbel⟩
          case measure => simp [intOf]; omega
    · obtain rfl : k = s.size := by omega
      have hltz : ¬ ((s.size : Int) < (s.size : Int)) := by omega
      have hrow2 := hrow.out
      rw [← hsl, row_end, hsl] at hrow2
      have hC : Kd.C (Kd.int .u8) wr (some ⟨w2.heap.size + 1, 0, none⟩) s.size ((bytesOf s).map gi) := by
        have hlm : ((bytesOf s).map gi).length = s.size := by rw [List.length_map, hsl]
        rw [← hlm]
        refine Kd.C_of_reads (enc := fun n => Value.int .u8 n) (d := (0 : Int)) (h1 := fun _ => rfl) ⟨rfl, by omega, fun _ => ⟨_, rfl, fun j hj => ?_⟩⟩
        rw [hlm] at hj
        have e : (⟨w2.heap.size + 1, 0, none⟩ : Addr).add j = ⟨w2.heap.size + 1, j, none⟩ := by by_cases h : j = 0 <;> simp [Addr.add, h]
        rw [e]
        exact (hrow2 j hj).1
      have HC := Aside0.mk hC
      have C2 := Aside0.mk (about s B p hbb.out hbs.2 hs PEQ.out)
      have C3 := Aside0.mk (greats s p hs PEQ.out)
      have C4 := Aside0.mk (splits s B p q hbb.out hbs.2 hs hq0 PEQ.out)
      have C1 := Aside0.mk (again s p hs PEQ.out)
      have HBW := Aside0.mk hbel.out
      have HSPZ := Aside0.mk (sp_size s B q hbs.1)
      clear hC hrow hrow2 hbel hlit kc hbb HP hltz hsz
      generalize sp s B q s.size = S at *
      go_wp2_with (go_at_call 15; go_must (refine (C1.out _).mono ?_))
      rintro e w3 ⟨rfl, hb3⟩
      have HC3 := Aside0.mk (Kd.C_below HC.out hb3)
      have HB3 := Aside0.mk (below_step HBW.out hb3)
      clear hb3 HC HBW
      go_wp2_with (go_at_call 15; go_must (refine (C2.out _).mono ?_))
      rintro e w4 ⟨rfl, hb4⟩
      have hcv : ∀ c, _ := fun c => Kd.C_string (P := Tryd.prog) (c := c) Tryd.underlying22 Tryd.underlying5 Tryd.underlying9 (Kd.C_below HC3.out hb4)
      have HB4 := Aside0.mk (below_step HB3.out hb4)
      clear hb4 HC3 HB3
      go_wp2_with (go_at_call 15; go_must (refine (C3.out _).mono ?_))
      rintro e w5 ⟨rfl, hb5⟩
      have HB5 := Aside0.mk (below_step HB4.out hb5)
      clear hb5 HB4 hcv
      rcases HSPZ.out with rfl | hne
      · go_wp2
        go_ret
        exact ⟨rfl, HB5.out⟩
      · have hS : S.toList.isEmpty = false := by
          rw [ByteArray.toList_eq]
          cases h : S.data.toList with
          | nil =>
            have h2 : S.data.toList.length = S.size := by simp
            rw [h] at h2
            simp at h2
            omega
          | cons x l => rfl
        have C5 := Aside0.mk (C4.out hne)
        go_wp2_with (go_at_call 15; go_must (refine (C5.out _).mono ?_))
        rintro e w6 ⟨rfl, hb6⟩
        have HB6 := Aside0.mk (below_step HB5.out hb6)
        clear hb6
        go_wp2
        go_ret
        exact ⟨rfl, HB6.out⟩
end Al
theorem textsAlike.law (s : ByteArray) (a b : Int) (hs : s.size ≤ 1048576) (ha : 0 ≤ a ∧ a < 65536) (hb : 0 ≤ b ∧ b < 256) (w : World) :
    Calls Tryd.prog 5 #[.string s, .int .u16 a, .int .u8 b] w fun e w' => e = .returned (.bool true) ∧ Below w.heap.size w w' := Al.walk s a b hs ha hb w
end Go.Proofs.YtgpghjmoapffcaaDoor
