/- texts.Right of the tags 19 and 12 and of any other tag, and the reference's, walked: both tell the same. No condition. Printed by right.py. -/
import Derived.Test.YtgpghjmoapffcaaDoorRight
import Derived.Test.YtgpghjmoapffcaaDoorValid
import Derived.Test.YtgpghjmoapffcaaDoorXRR2
set_option linter.unusedVariables false
set_option linter.unusedSimpArgs false
namespace Go.Proofs.YtgpghjmoapffcaaDoor
open Go.RowKit Go.Proofs.YtgpghjmoapffcaaDoorW.PrintWords
namespace Rt
def signs : ByteArray := ⟨#[48, 49, 50, 51, 52, 53, 54, 55, 56, 57, 32, 39, 40, 41, 43, 44, 45, 46, 47, 58, 61, 63]⟩
theorem signs_tab : ∀ c : Fin 128, (0 ≤ Lib.indexByte signs.data.toList ((c.val : Int).toNat.toUInt8)) = decide (32 = (c.val : Int) ∨ 39 ≤ (c.val : Int) ∧ (c.val : Int) ≤ 41 ∨ 43 ≤ (c.val : Int) ∧ (c.val : Int) ≤ 58 ∨ (c.val : Int) = 61 ∨ (c.val : Int) = 63) := by
  have h : ∀ c : Fin 128, decide (0 ≤ Lib.indexByte signs.data.toList ((c.val : Int).toNat.toUInt8)) = decide (32 = (c.val : Int) ∨ 39 ≤ (c.val : Int) ∧ (c.val : Int) ≤ 41 ∨ 43 ≤ (c.val : Int) ∧ (c.val : Int) ≤ 58 ∨ (c.val : Int) = 61 ∨ (c.val : Int) = 63) := by decide +kernel
  intro c
  rw [← h c]
  simp
theorem sign (c : Int) (h0 : 0 ≤ c) (h1 : c < 128) (h2 : ¬ (65 ≤ c ∧ c ≤ 90)) (h3 : ¬ (97 ≤ c ∧ c ≤ 122)) : decide (0 ≤ Lib.indexByte signs.data.toList c.toNat.toUInt8) = pr c := by
  have h := signs_tab ⟨c.toNat, by omega⟩
  have e : ((c.toNat : Nat) : Int) = c := by omega
  simp only [e] at h
  unfold pr
  rw [decide_eq_false h2, decide_eq_false h3, Bool.false_or, Bool.false_or]
  simp only [h, decide_eq_true_eq]
theorem pr_great (c : Int) (h : 65 ≤ c ∧ c ≤ 90) : pr c = true := by simp [pr, h]
theorem pr_small (c : Int) (h : 97 ≤ c ∧ c ≤ 122) : pr c = true := by simp [pr, h]
theorem ixb (c : Int) (W : World) : Calls Tryd.prog 24 #[.string signs, .int .u8 c] W fun e w' => e = .returned (.int .i64 (Lib.indexByte signs.data.toList c.toNat.toUInt8)) ∧ w' = W := Tryd.strings_IndexByte signs c W
set_option maxHeartbeats 2000000 in
set_option maxRecDepth 100000 in
theorem pr_any (c : Int) (w : World) (h0 : 0 ≤ c) : Calls Tryd.prog 23 #[.int .i32 c] w fun e w' => e = .returned (.bool (pr c)) ∧ w = w' := by
  have IX := Aside0.mk (fun W => ixb c W)
  by_cases h65 : 65 ≤ c
  · by_cases h90 : c ≤ 90
    · have HQ := Aside0.mk (pr_great c ⟨h65, h90⟩)
      go_enter Tryd.func23, Tryd.ntmps23
      go_wp2
      go_ret
      exact ⟨by rw [HQ.out]; rfl, rfl⟩
    · by_cases h97 : 97 ≤ c
      · by_cases h122 : c ≤ 122
        · have HQ := Aside0.mk (pr_small c ⟨h97, h122⟩)
          go_enter Tryd.func23, Tryd.ntmps23
          go_wp2
          go_ret
          exact ⟨by rw [HQ.out]; rfl, rfl⟩
        · by_cases h128 : c < 128
          · have HP := Aside0.mk (sign c h0 h128 (fun h => h90 h.2) (fun h => h122 h.2))
            have h256 : c % 256 = c := by omega
            generalize Lib.indexByte signs.data.toList c.toNat.toUInt8 = z at IX HP
            by_cases hz : 0 ≤ z
            · have HQ := Aside0.mk (HP.out.symm.trans (decide_eq_true hz))
              have hzd : decide (0 ≤ z) = true := decide_eq_true hz
              go_enter Tryd.func23, Tryd.ntmps23
              go_wp2_with (go_at_call 24; go_must (refine (IX.out _).mono ?_; rintro e w' ⟨rfl, rfl⟩))
              go_ret
              exact ⟨by rw [HQ.out]; rfl, rfl⟩
            · have HQ := Aside0.mk (HP.out.symm.trans (decide_eq_false hz))
              have hzd : decide (0 ≤ z) = false := decide_eq_false hz
              go_enter Tryd.func23, Tryd.ntmps23
              go_wp2_with (go_at_call 24; go_must (refine (IX.out _).mono ?_; rintro e w' ⟨rfl, rfl⟩))
              go_ret
              exact ⟨by rw [HQ.out]; rfl, rfl⟩
          · have HQ := Aside0.mk (pr_high c (by omega))
            go_enter Tryd.func23, Tryd.ntmps23
            go_wp2
            go_ret
            exact ⟨by rw [HQ.out]; rfl, rfl⟩
      · have h128 : c < 128 := by omega
        have HP := Aside0.mk (sign c h0 h128 (fun h => h90 h.2) (fun h => h97 h.1))
        have h256 : c % 256 = c := by omega
        generalize Lib.indexByte signs.data.toList c.toNat.toUInt8 = z at IX HP
        by_cases hz : 0 ≤ z
        · have HQ := Aside0.mk (HP.out.symm.trans (decide_eq_true hz))
          have hzd : decide (0 ≤ z) = true := decide_eq_true hz
          go_enter Tryd.func23, Tryd.ntmps23
          go_wp2_with (go_at_call 24; go_must (refine (IX.out _).mono ?_; rintro e w' ⟨rfl, rfl⟩))
          go_ret
          exact ⟨by rw [HQ.out]; rfl, rfl⟩
        · have HQ := Aside0.mk (HP.out.symm.trans (decide_eq_false hz))
          have hzd : decide (0 ≤ z) = false := decide_eq_false hz
          go_enter Tryd.func23, Tryd.ntmps23
          go_wp2_with (go_at_call 24; go_must (refine (IX.out _).mono ?_; rintro e w' ⟨rfl, rfl⟩))
          go_ret
          exact ⟨by rw [HQ.out]; rfl, rfl⟩
  · have h97 : ¬ (97 ≤ c) := by omega
    have h128 : c < 128 := by omega
    have HP := Aside0.mk (sign c h0 h128 (fun h => h65 h.1) (fun h => h97 h.1))
    have h256 : c % 256 = c := by omega
    generalize Lib.indexByte signs.data.toList c.toNat.toUInt8 = z at IX HP
    by_cases hz : 0 ≤ z
    · have HQ := Aside0.mk (HP.out.symm.trans (decide_eq_true hz))
      have hzd : decide (0 ≤ z) = true := decide_eq_true hz
      go_enter Tryd.func23, Tryd.ntmps23
      go_wp2_with (go_at_call 24; go_must (refine (IX.out _).mono ?_; rintro e w' ⟨rfl, rfl⟩))
      go_ret
      exact ⟨by rw [HQ.out]; rfl, rfl⟩
    · have HQ := Aside0.mk (HP.out.symm.trans (decide_eq_false hz))
      have hzd : decide (0 ≤ z) = false := decide_eq_false hz
      go_enter Tryd.func23, Tryd.ntmps23
      go_wp2_with (go_at_call 24; go_must (refine (IX.out _).mono ?_; rintro e w' ⟨rfl, rfl⟩))
      go_ret
      exact ⟨by rw [HQ.out]; rfl, rfl⟩
set_option maxHeartbeats 4000000 in
set_option maxRecDepth 1000000 in
theorem walk19 (A0 : Option Addr) (c0 : Nat) (l0 : List Int) (w : World) (hr0 : Kd.C (Kd.int .u8) w A0 l0.length l0) :
    Calls Tryd.prog 13 #[.int .u8 19, .slice A0 l0.length c0] w fun e w' => e = .returned (.bool (allp pr (strOfNums l0) 0)) ∧ Below w.heap.size w w' := by
  have HCV := Aside0.mk (fun W (hW : Kd.C (Kd.int .u8) W A0 l0.length l0) => Kd.C_string (P := Tryd.prog) (c := c0) Tryd.underlying22 Tryd.underlying5 Tryd.underlying9 hW)
  have hcv := HCV.out w hr0
  have HST := Aside0.mk (fun pos (h : pos < (strOfNums l0).size) => step pr pr_high (strOfNums l0) pos h)
  have HEND := Aside0.mk (fun pos (h : (strOfNums l0).size ≤ pos) => allp_end pr (strOfNums l0) pos h)
  generalize strOfNums l0 = s at *
  clear HCV hr0
  go_enter Tryd.func13, Tryd.ntmps13
  go_wp2
  go_loopw [7] (fun v7 wr => ∃ (pos : Nat), wr.heap[w.heap.size]? = some (.stringIter s pos) ∧ Below w.heap.size w wr ∧ Aside0 (allp pr s pos = allp pr s 0)) (fun _ wr => s.size - wr.iterPos (w.heap.size))
  case atStart => exact ⟨0, World.iter_heap w s 0, below_iter0 w s, ⟨rfl⟩⟩
  case round =>
    obtain ⟨pos, hit, hbw, hacc⟩ := hrel
    have HA := Aside0.mk hacc.out
    clear hacc
    by_cases hp : pos < s.size
    · have hnx : ∀ ty, (Instr.next (.pointer (some ⟨w.heap.size, 0, none⟩)) true ty).run Tryd.prog wr = _ := fun ty => Lib.run_next_any_at wr (w.heap.size) s pos ty hit hp
      have hwd := width s pos
      have hst := HST.out pos hp
      have hit2 := Lib.iterAt_heap wr (w.heap.size) s pos (pos + (Utf8.decode s pos).2) hit
      have hbw2 := Lib.below_iterAt hbw (k := w.heap.size) (by omega) s (pos + (Utf8.decode s pos).2)
      have HM := Aside0.mk (fun W => pr_any ((Utf8.decode s pos).1 : Int) W (by omega))
      generalize Utf8.decode s pos = d at hnx hwd hst hit2 hbw2 HM
      obtain ⟨r, wd⟩ := d
      simp only at hnx hwd hst hit2 hbw2 HM
      obtain ⟨hs1, hs2⟩ := hst
      cases hq : pr (r : Int) with
      | true =>
        obtain ⟨h1, rfl⟩ := hs1 hq
        rw [hq] at HM
        have HN := Aside0.mk (h1.symm.trans HA.out)
        clear hs1 hs2 hq h1 HA
        go_wp2_with (go_at_call 23; refine (HM.out _).mono ?_; rintro e w' ⟨rfl, rfl⟩)
        go_roundw
        case rel => exact ⟨pos + 1, hit2, hbw2, ⟨HN.out⟩⟩
        case measure =>
          simp only [World.iterPos, hit2, hit]
          omega
      | false =>
        have h1 := hs2 hq
        rw [hq] at HM
        have HN := Aside0.mk (h1.symm.trans HA.out)
        clear hs1 hs2 hq h1 HA
        go_wp2_with (go_at_call 23; refine (HM.out _).mono ?_; rintro e w' ⟨rfl, rfl⟩)
        go_ret
        exact ⟨congrArg (fun b => Ending.returned (.bool b)) HN.out, hbw2⟩
    · have hnx : ∀ ty, (Instr.next (.pointer (some ⟨w.heap.size, 0, none⟩)) true ty).run Tryd.prog wr = _ := fun ty => Lib.run_next_end_at wr (w.heap.size) s pos ty hit hp
      have HN := Aside0.mk ((HEND.out pos (by omega)).symm.trans HA.out)
      go_wp2
      go_ret
      exact ⟨congrArg (fun b => Ending.returned (.bool b)) HN.out, hbw⟩
set_option maxHeartbeats 2000000 in
set_option maxRecDepth 100000 in
theorem walk12 (A0 : Option Addr) (c0 : Nat) (l0 : List Int) (w : World) (hr0 : Kd.C (Kd.int .u8) w A0 l0.length l0) (hc : l0.length ≤ c0) (hb : ∀ x ∈ l0, 0 ≤ x ∧ x < 256) (hT : Lib.Utf8Tabs 0 1 w) :
    Calls Tryd.prog 13 #[.int .u8 12, .slice A0 l0.length c0] w fun e w' => e = .returned (.bool (Lib.validD (strOfNums l0).data.toList)) ∧ Below w.heap.size w w' := by
  have HV := Aside0.mk (Va.valid A0 c0 l0 w hr0 hc hb hT)
  clear hr0 hT hb
  generalize Lib.validD (strOfNums l0).data.toList = v at *
  go_enter Tryd.func13, Tryd.ntmps13
  go_wp2_with (go_at_call 22; go_must (refine HV.out.mono ?_))
  rintro e w1 ⟨rfl, hb1⟩
  have HB := Aside0.mk hb1
  clear hb1
  go_wp2
  go_ret
  exact ⟨rfl, HB.out⟩
set_option maxHeartbeats 2000000 in
set_option maxRecDepth 100000 in
theorem walkNone (t : Int) (v : Value) (w : World) (h1 : t ≠ 12) (h2 : t ≠ 19) (h3 : t ≠ 22) (h4 : t ≠ 27) :
    Calls Tryd.prog 13 #[.int .u8 t, v] w fun e w' => e = .returned (.bool false) ∧ Below w.heap.size w w' := by
  have e1 : (t == 12) = false := by simp [h1]
  have e2 : (t == 19) = false := by simp [h2]
  have e3 : (t == 22) = false := by simp [h3]
  have e4 : (t == 27) = false := by simp [h4]
  clear h1 h2 h3 h4
  go_enter Tryd.func13, Tryd.ntmps13
  go_wp2
  go_ret
  exact ⟨rfl, Below.refl _ _⟩
set_option maxHeartbeats 2000000 in
set_option maxRecDepth 100000 in
theorem ref12 (A0 : Option Addr) (c0 : Nat) (l0 : List Int) (w : World) (hr0 : Kd.C (Kd.int .u8) w A0 l0.length l0) (hc : l0.length ≤ c0) (hb : ∀ x ∈ l0, 0 ≤ x ∧ x < 256) (hT : Lib.Utf8Tabs 0 1 w) :
    Calls Tryd.prog 14 #[.int .u8 12, .slice A0 l0.length c0] w fun e w' => e = .returned (.bool (Lib.validD (strOfNums l0).data.toList)) ∧ Below w.heap.size w w' := by
  have HV := Aside0.mk (Va.valid A0 c0 l0 w hr0 hc hb hT)
  clear hr0 hT hb
  generalize Lib.validD (strOfNums l0).data.toList = v at *
  go_enter Tryd.func14, Tryd.ntmps14
  go_wp2_with (go_at_call 22; go_must (refine HV.out.mono ?_))
  rintro e w1 ⟨rfl, hb1⟩
  have HB := Aside0.mk hb1
  clear hb1
  go_wp2
  go_ret
  exact ⟨rfl, HB.out⟩
/-- May a text of a tag have these bytes? -/
def fn (t : Int) (l : List Int) : Bool := if t = 12 then Lib.validD (strOfNums l).data.toList else if t = 19 then l.all pr else if t = 22 then l.all ia else if t = 27 then l.all ge else false
theorem allp_all (p : Int → Bool) (l : List Int) (hb : ∀ x ∈ l, 0 ≤ x ∧ x < 256) : allp p (strOfNums l) 0 = l.all p := by
  unfold allp
  rw [strOfNums_data, List.drop_zero, List.all_map]
  rw [Bool.eq_iff_iff, List.all_eq_true, List.all_eq_true]
  constructor
  · intro h x hx
    have h1 := h x hx
    have := hb x hx
    simp only [Function.comp, UInt8.toNat_ofNat'] at h1
    have e : ((x.toNat % 2 ^ 8 : Nat) : Int) = x := by omega
    rw [e] at h1
    exact h1
  · intro h x hx
    have h1 := h x hx
    have := hb x hx
    simp only [Function.comp, UInt8.toNat_ofNat']
    have e : ((x.toNat % 2 ^ 8 : Nat) : Int) = x := by omega
    rw [e]
    exact h1
theorem right (t : Int) (A0 : Option Addr) (c0 : Nat) (l0 : List Int) (w : World) (hr0 : Kd.C (Kd.int .u8) w A0 l0.length l0) (hc : l0.length ≤ c0) (hb : ∀ x ∈ l0, 0 ≤ x ∧ x < 256) (hT : Lib.Utf8Tabs 0 1 w) :
    Calls Tryd.prog 13 #[.int .u8 t, .slice A0 l0.length c0] w fun e w' => e = .returned (.bool (fn t l0)) ∧ Below w.heap.size w w' := by
  unfold fn
  by_cases h1 : t = 12
  · subst h1; exact walk12 A0 c0 l0 w hr0 hc hb hT
  rw [if_neg h1]
  by_cases h2 : t = 19
  · subst h2; rw [if_pos rfl, ← allp_all pr l0 hb]; exact walk19 A0 c0 l0 w hr0
  rw [if_neg h2]
  by_cases h3 : t = 22
  · subst h3; rw [if_pos rfl, ← allp_all ia l0 hb]; exact walk22 A0 c0 l0 w hr0
  rw [if_neg h3]
  by_cases h4 : t = 27
  · subst h4; rw [if_pos rfl, ← allp_all ge l0 hb]; exact walk27 A0 c0 l0 w hr0
  rw [if_neg h4]
  exact walkNone t _ w h1 h2 h3 h4
/-! ### the reference's -/
open XRR
theorem print_tab : ∀ c : Fin 256, warderref03_printable.f 14 (c.val : Int) = some (pr (c.val : Int)) := by decide +kernel
theorem print_ok (c : Int) (h0 : 0 ≤ c) (h1 : c < 256) : ∀ n, warderref03_printable.f (14 + n) c = some (pr c)
  | 0 => by
    have h := print_tab ⟨c.toNat, by omega⟩
    have e : ((c.toNat : Nat) : Int) = c := by omega
    simpa only [e] using h
  | n + 1 => warderref03_printable.mono c (14 + n) _ (print_ok c h0 h1 n)
theorem loop (l : List Int) (hb : ∀ x ∈ l, 0 ≤ x ∧ x < 256) (hl : l.length ≤ 9223372036854775807) (t : Int) (p : Int → Bool) (hp : (t = 19 ∧ p = pr) ∨ (t = 22 ∧ p = ia) ∨ (t = 27 ∧ p = ge)) :
    ∀ (n i : Nat), i + n = l.length → warderref03_Right.l0 (15 + n) t l (i : Int) = some ((l.drop i).all p)
  | 0, i, hi => by
    rw [show 15 + 0 = 14 + 1 from rfl, warderref03_Right.l0, if_neg (by omega), List.drop_eq_nil_of_le (by omega)]
    rfl
  | n + 1, i, hi => by
    have hlt : i < l.length := by omega
    have hx := hb l[i] (List.getElem_mem hlt)
    have hrd : rd l (i : Int) = l[i] := by unfold rd; rw [Int.toNat_natCast, getD_eq _ _ _ hlt]
    have ih := loop l hb hl t p hp n (i + 1) (by omega)
    have hd : l.drop i = l[i] :: l.drop (i + 1) := List.drop_eq_getElem_cons hlt
    have hw : wrap64 ((i : Int) + 1) = ((i + 1 : Nat) : Int) := by rw [Civ.wr _ (by omega) (by omega)]; omega
    have hpr := print_ok l[i] hx.1 hx.2 (n + 1)
    rw [show 15 + (n + 1) = (14 + (n + 1)) + 1 by omega, warderref03_Right.l0, if_pos (by omega), if_pos (by omega), hrd, hw, hd, List.all_cons]
    rw [show 15 + n = 14 + (n + 1) by omega] at ih
    rw [ih, hpr]
    generalize l[i] = x at *
    rcases hp with ⟨rfl, rfl⟩ | ⟨rfl, rfl⟩ | ⟨rfl, rfl⟩
    · rw [if_neg (by decide), if_neg (by decide), if_pos rfl, Option.bind_some]
      cases pr x <;> simp
    · rw [if_pos rfl, if_neg (show ¬ ((22 : Int) = 27) by decide), if_neg (show ¬ ((22 : Int) = 19) by decide)]
      by_cases h : x ≥ 128
      · rw [if_pos h, ia_high x h, Bool.false_and]
      · rw [if_neg h, show ia x = true by simp [ia]; omega, Bool.true_and]
    · rw [if_neg (by decide), if_pos rfl, if_neg (show ¬ ((27 : Int) = 19) by decide)]
      by_cases h : x < 32
      · rw [if_pos h, show ge x = false by simp [ge]; omega, Bool.false_and]
      · rw [if_neg h]
        by_cases h2 : x > 126
        · rw [if_pos h2, show ge x = false by simp [ge]; omega, Bool.false_and]
        · rw [if_neg h2, show ge x = true by simp [ge]; omega, Bool.true_and]
theorem ref_f (l : List Int) (hb : ∀ x ∈ l, 0 ≤ x ∧ x < 256) (hl : l.length ≤ 9223372036854775807) (t : Int) (ht : t ≠ 12) : warderref03_Right.f (15 + l.length + 1) t l = some (fn t l) := by
  unfold warderref03_Right.f fn
  rw [if_neg ht, if_neg ht]
  by_cases h2 : t = 19
  · subst h2
    have h := loop l hb hl 19 pr (.inl ⟨rfl, rfl⟩) l.length 0 (by omega)
    rw [if_pos rfl, if_pos rfl, warderref03_Right.j0, if_neg (by decide)]
    exact h
  rw [if_neg h2, if_neg h2]
  by_cases h3 : t = 22
  · subst h3
    have h := loop l hb hl 22 ia (.inr (.inl ⟨rfl, rfl⟩)) l.length 0 (by omega)
    rw [if_pos rfl, if_pos rfl, warderref03_Right.j0, if_neg (by decide)]
    exact h
  rw [if_neg h3, if_neg h3, warderref03_Right.j0]
  by_cases h4 : t = 27
  · subst h4
    have h := loop l hb hl 27 ge (.inr (.inr ⟨rfl, rfl⟩)) l.length 0 (by omega)
    rw [if_pos rfl, if_neg (by decide)]
    exact h
  rw [if_neg h4, if_pos (by simp [h4])]
theorem ref (t : Int) (A0 : Option Addr) (c0 : Nat) (l0 : List Int) (w : World) (hr0 : Kd.C (Kd.int .u8) w A0 l0.length l0) (hc : l0.length ≤ c0) (hb : ∀ x ∈ l0, 0 ≤ x ∧ x < 256) (hT : Lib.Utf8Tabs 0 1 w) :
    Calls Tryd.prog 14 #[.int .u8 t, .slice A0 l0.length c0] w fun e w' => e = .returned (.bool (fn t l0)) ∧ Below w.heap.size w w' := by
  by_cases h1 : t = 12
  · subst h1
    unfold fn
    rw [if_pos rfl]
    exact ref12 A0 c0 l0 w hr0 hc hb hT
  · exact warderref03_Right.calls _ t A0 c0 l0 (fn t l0) w hr0 hc (ref_f l0 hb hr0.2.1 t h1)
end Rt
end Go.Proofs.YtgpghjmoapffcaaDoor
