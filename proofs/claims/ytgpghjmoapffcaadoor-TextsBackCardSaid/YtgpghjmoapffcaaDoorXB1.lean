-- printed by wip/xprint.py (a scratch copy of the kit's print, with contracts by hand)
import Derived.Test.YtgpghjmoapffcaaDoorXB0
namespace Go.Proofs.YtgpghjmoapffcaaDoor.XB
open Go.RowKit Go.Proofs.YtgpghjmoapffcaaDoorW.PrintWords Go.Proofs.YtgpghjmoapffcaaDoorW.PrintLast Go.Proofs.YtgpghjmoapffcaaDoorW.PrintMore
attribute [local go_sem] max2_int min2_int max_two min_two max_three min_three max_four min_four   -- for this text's walks alone
set_option linter.unusedVariables false
set_option linter.unusedSimpArgs false

/-! ### texts_Right: function 13 (by hand) -/
def texts_Right.f (a0 : Int) (l1 : List Int) : Option (Bool) := if a0 = 22 then some (Rt.allp Rt.ia (strOfNums l1) 0) else if a0 = 27 then some (Rt.allp Rt.ge (strOfNums l1) 0) else none
theorem texts_Right.calls (a0 : Int) (A1 : Option Addr) (c1 : Nat) (l1 : List Int) (r : Bool) (w : World) (hr1 : Kd.C (Kd.int .u8) w A1 l1.length l1) (hc1 : l1.length ≤ c1) (h : texts_Right.f a0 l1 = some r) :
    Calls Tryd.prog 13 #[.int .u8 a0, .slice A1 l1.length c1] w fun e w' => e = .returned (.bool r) ∧ Below w.heap.size w w' := by
  unfold texts_Right.f at h
  split at h
  · rename_i h22
    subst h22
    cases h
    exact Rt.walk22 A1 c1 l1 w hr1
  · split at h
    · rename_i h27
      subst h27
      cases h
      exact Rt.walk27 A1 c1 l1 w hr1
    · cases h

/-! ### texts_Prep: function 15 (by hand) -/
def texts_Prep.f (a0 : ByteArray) : Option ByteArray := if a0.size ≤ 8796093022208 then some ⟨(Tx.prep a0.data.toList).toArray⟩ else none
theorem texts_Prep.calls (a0 : ByteArray) (r : ByteArray) (w : World) (h : texts_Prep.f a0 = some r) :
    Calls Tryd.prog 15 #[.string a0] w fun e w' => e = .returned (.string r) ∧ Below w.heap.size w w' := by
  unfold texts_Prep.f at h
  split at h
  · rename_i hs
    cases h
    exact prep_any a0 w hs
  · cases h

/-! ### texts_civil: function 36 (by hand) -/
def texts_civil.f (a0 : Int) : Option (Int × Int × Int) := if 0 ≤ a0 + 719468 ∧ a0 + 719468 ≤ 4000000 then some (Civ.civ (a0 + 719468)) else none
theorem texts_civil.calls (a0 : Int) (r1 : Int) (r2 : Int) (r3 : Int) (w : World) (h : texts_civil.f a0 = some (r1, r2, r3)) :
    Calls Tryd.prog 36 #[.int .i64 a0] w fun e w' => e = .returned (.tuple #[.int .i64 r1, .int .i64 r2, .int .i64 r3]) ∧ Drawn0 w w' := by
  unfold texts_civil.f at h
  split at h
  · rename_i hs
    have h2 := Option.some.inj h
    have hw := Civ.walk a0 w hs.1 hs.2
    rw [h2] at hw
    exact hw
  · cases h

/-! ### texts_PutTime: function 17 (by hand) -/
def texts_PutTime.f (a0 : Int) : Option (Int × List Int × Int) :=
  if a0 < (-631152000) ∨ 253402300799 < a0 then some (0, [], 32)
  else (texts_civil.f (wrap64 ((wrap64 (Int.tdiv (wrap64 (a0 + 631152000)) 86400)) - 7305))).bind fun q =>
    some (if q.1 < 2050 then 23 else 24, if q.1 < 2050 then (PutT.out q.1 q.2.1 q.2.2 (wrap64 (a0 + 631152000))).drop 2 else PutT.out q.1 q.2.1 q.2.2 (wrap64 (a0 + 631152000)), 0)
set_option maxHeartbeats 2000000 in
set_option maxRecDepth 1000000 in
theorem texts_PutTime.calls (a0 : Int) (r1 : Int) (r2 : List Int) (r3 : Int) (w : World) (h : texts_PutTime.f a0 = some (r1, r2, r3)) :
    Calls Tryd.prog 17 #[.int .i64 a0] w fun e w' => ∃ v1_ : Value, e = .returned (.tuple #[.int .u8 r1, v1_, .int .i64 r3]) ∧ Kd.V (Kd.int .u8) 5 w' w.heap.size (fun k_ => w.heap.size ≤ k_) v1_ r2 ∧ Below w.heap.size w w' := by
  unfold texts_PutTime.f at h
  by_cases c : a0 < (-631152000) ∨ 253402300799 < a0
  · rw [if_pos c] at h
    cases h
    by_cases c1 : a0 < (-631152000)
    · have d1 : decide (a0 < (-631152000)) = true := decide_eq_true c1
      clear c1 c
      go_enter Tryd.func17, Tryd.ntmps17
      go_wp2
      go_ret3
      exact ⟨.slice none 0 0, rfl, Kd.V_nil _ _ _ _ _, by repeat (first | exact Below.refl _ _ | apply below_drew1 | apply pw_below_drewN)⟩
    · have d1 : decide (a0 < (-631152000)) = false := decide_eq_false c1
      have d2 : decide (253402300799 < a0) = true := decide_eq_true (by omega)
      clear c1 c
      go_enter Tryd.func17, Tryd.ntmps17
      go_wp2
      go_ret3
      exact ⟨.slice none 0 0, rfl, Kd.V_nil _ _ _ _ _, by repeat (first | exact Below.refl _ _ | apply below_drew1 | apply pw_below_drewN)⟩
  · rw [if_neg c] at h
    obtain ⟨⟨y, m, d⟩, hc, h⟩ := Option.bind_eq_some_iff.mp h
    simp only [Option.some.injEq, Prod.mk.injEq] at h
    obtain ⟨rfl, rfl, rfl⟩ := h
    exact PutT.walk a0 y m d w (fun h => c (.inl h)) (fun h => c (.inr h)) (fun x W hx => texts_civil.calls x y m d W (hx ▸ hc))

/-! ### warderlaw03_head: function 12 (by hand) -/
def warderlaw03_head.f  : Option (Bool) := some true
theorem warderlaw03_head.put0 : texts_PutTime.f 0 = some (23, [55, 48, 48, 49, 48, 49, 48, 48, 48, 48, 48, 48, 90], 0) := by kernel_rfl
theorem warderlaw03_head.prep0 : texts_Prep.f (⟨#[32, 65, 32, 32, 98, 32]⟩ : ByteArray) = some ⟨#[97, 32, 98]⟩ := by kernel_rfl
theorem warderlaw03_head.right0 : texts_Right.f 22 [97] = some true := by kernel_rfl
theorem warderlaw03_head.str0 : strOfNums [55, 48, 48, 49, 48, 49, 48, 48, 48, 48, 48, 48, 90] = ⟨#[55, 48, 48, 49, 48, 49, 48, 48, 48, 48, 48, 48, 90]⟩ := by kernel_rfl
theorem warderlaw03_head.lit (W : World) : Kd.C (Kd.int .u8) (W.alloc (.cells #[.int .u8 97] 5 (1, 2))) (some ⟨W.heap.size, 0, none⟩) 1 [97] :=
  Kd.C_of_reads (enc := fun n => Value.int .u8 n) (d := (0 : Int)) (h1 := fun _ => rfl) ⟨rfl, by decide, fun _ => ⟨_, rfl, fun j hj => by
    obtain rfl : j = 0 := by omega
    show (W.alloc (.cells #[.int .u8 97] 5 (1, 2))).cell? ⟨W.heap.size, 0, none⟩ = _
    have h := heap_alloc_new W (.cells #[.int .u8 97] 5 (1, 2))
    unfold World.cell?
    rw [h]
    rfl⟩⟩
set_option maxHeartbeats 4000000 in
set_option maxRecDepth 100000 in
theorem warderlaw03_head.calls  (r : Bool) (w : World) (h : warderlaw03_head.f  = some r) :
    Calls Tryd.prog 12 #[] w fun e w' => e = .returned (.bool r) ∧ Below w.heap.size w w' := by
  cases h
  go_enter Tryd.func12, Tryd.ntmps12
  go_wp2_with (go_at_call 17; refine (texts_PutTime.calls _ _ _ _ _ warderlaw03_head.put0).mono ?_)
  rintro e w1 ⟨v1, rfl, hV, hb1⟩
  obtain ⟨A, c, rfl⟩ := Kd.V_slice hV
  have hcv : (convert 22 9 (.slice A 13 c)).run Tryd.prog w1 = .ok (.string (strOfNums [55, 48, 48, 49, 48, 49, 48, 48, 48, 48, 48, 48, 90])) w1 := Kd.C_string (P := Tryd.prog) (c := c) Tryd.underlying22 Tryd.underlying5 Tryd.underlying9 (Kd.V_reads' hV).2.2
  rw [warderlaw03_head.str0] at hcv
  have kc := fun (w : World) (C : Array Value) (n c : Nat) => Lib.run_convert_bytes_const (P := Tryd.prog) w 22 5 C n c Tryd.underlying22 Tryd.underlying5
  have HB1 := Aside0.mk hb1
  clear hV hb1
  go_wp2_with (go_at_call 15; refine (texts_Prep.calls _ _ _ warderlaw03_head.prep0).mono ?_)
  rintro e w2 ⟨rfl, hb2⟩
  have HB2 := Aside0.mk hb2
  clear hb2
  go_wp2_with (go_at_call 13; refine (texts_Right.calls 22 _ _ [97] _ _ (warderlaw03_head.lit _) (by decide) warderlaw03_head.right0).mono ?_)
  rintro e w3 ⟨rfl, hb3⟩
  go_wp2
  go_ret
  refine ⟨rfl, ?_⟩
  exact below_step (below_alloc (below_step HB1.out HB2.out) _) hb3

/-! ### texts_Time: function 19 (by hand) -/
def texts_Time.f (a0 : Int) (l1 : List Int) : Option (Int × Int) := Tm.time texts_PutTime.f a0 l1
theorem texts_Time.calls (a0 : Int) (A1 : Option Addr) (c1 : Nat) (l1 : List Int) (r1 : Int) (r2 : Int) (w : World) (hr1 : Kd.C (Kd.int .u8) w A1 l1.length l1) (hc1 : l1.length ≤ c1) (h : texts_Time.f a0 l1 = some (r1, r2)) :
    Calls Tryd.prog 19 #[.int .u8 a0, .slice A1 l1.length c1] w fun e w' => e = .returned (.tuple #[.int .i64 r1, .int .i64 r2]) ∧ Below w.heap.size w w' := by
  unfold texts_Time.f Tm.time at h
  have hpf : ∀ (a r1 : Int) (r2 : List Int) (r3 : Int) (W : World), texts_PutTime.f a = some (r1, r2, r3) → Calls Tryd.prog 17 #[.int .i64 a] W fun e w' => ∃ v1_ : Value, e = .returned (.tuple #[.int .u8 r1, v1_, .int .i64 r3]) ∧ Kd.V (Kd.int .u8) 5 w' W.heap.size (fun k_ => W.heap.size ≤ k_) v1_ r2 ∧ Below W.heap.size W w' := fun a r1 r2 r3 W h => texts_PutTime.calls a r1 r2 r3 W h
  by_cases h1 : a0 = 23 ∧ l1.length = 13
  · rw [if_pos h1] at h
    obtain ⟨rfl, hl⟩ := h1
    rw [hl] at hc1
    by_cases h2 : rd l1 0 < 53
    · rw [if_pos h2] at h
      have hw := Tm.walk23a texts_PutTime.f hpf A1 c1 l1 hc1 hl h2 (r1, r2) w hr1 h
      rw [hl]
      exact hw
    · rw [if_neg h2] at h
      have hw := Tm.walk23b texts_PutTime.f hpf A1 c1 l1 hc1 hl h2 (r1, r2) w hr1 h
      rw [hl]
      exact hw
  · rw [if_neg h1] at h
    by_cases h2 : a0 = 24 ∧ l1.length = 15
    · rw [if_pos h2] at h
      obtain ⟨rfl, hl⟩ := h2
      rw [hl] at hc1
      have hw := Tm.walk24 texts_PutTime.f hpf A1 c1 l1 hc1 hl (r1, r2) w hr1 h
      rw [hl]
      exact hw
    · rw [if_neg h2] at h
      cases h
      exact Tm.walkBad a0 A1 c1 l1 w hr1 h1 h2

/-! ### warderlaw03_TextsBack: function 11 -/
mutual
def warderlaw03_TextsBack.j0 : Nat → Int → Int → Int → List Int → Bool → Int → List Int → Int → Int → List Int → Int → Bool → Option (Bool)
  | 0, _, _, _, _, _, _, _, _, _, _, _, _ => none
  | k + 1, x0, x1, x2, x3, x9, x10, x11, x12, x13, x14, x15, x41 => if x41 = true then (some false) else (if x12 = 0 then ((texts_Time.f x10 x11).bind fun bt112 => (if bt112.2 = 0 then (if bt112.1 = x0 then (warderlaw03_TextsBack.j1 k x0 x1 x2 x3 x9 x10 x11 x12 x13 x14 x15) else (some false)) else (some false))) else (warderlaw03_TextsBack.j1 k x0 x1 x2 x3 x9 x10 x11 x12 x13 x14 x15))
def warderlaw03_TextsBack.j1 : Nat → Int → Int → Int → List Int → Bool → Int → List Int → Int → Int → List Int → Int → Option (Bool)
  | 0, _, _, _, _, _, _, _, _, _, _, _ => none
  | k + 1, x0, x1, x2, x3, x9, x10, x11, x12, x13, x14, x15 => if x12 = 0 then (if x15 = 0 then (if x10 = x13 then (if x10 = 24 then (warderlaw03_TextsBack.j2 k x2 x3 x9 ((decide (x0 < x1)) != (Op.bytesLess ((strOfNums x11).toList) ((strOfNums x14).toList)))) else (warderlaw03_TextsBack.j2 k x2 x3 x9 false)) else (warderlaw03_TextsBack.j2 k x2 x3 x9 false)) else (warderlaw03_TextsBack.j2 k x2 x3 x9 false)) else (warderlaw03_TextsBack.j2 k x2 x3 x9 false)
def warderlaw03_TextsBack.j2 : Nat → Int → List Int → Bool → Bool → Option (Bool)
  | 0, _, _, _, _ => none
  | k + 1, x2, x3, x9, x82 => if x82 = true then (some false) else ((texts_Time.f x2 x3).bind fun bt114 => (if bt114.2 = 0 then ((texts_PutTime.f bt114.1).bind fun bt116 => (if x9 = true then (if bt116.2.2 = 0 then (if bt116.1 = x2 then (some ((strOfNums bt116.2.1).toList == (strOfNums x3).toList)) else (some false)) else (some false)) else (some false))) else (if x9 = true then (some (bt114.1 == 0)) else (some false))))
end
def warderlaw03_TextsBack.f (k : Nat) (a0 : Int) (a1 : Int) (a2 : Int) (l3 : List Int) : Option (Bool) := (warderlaw03_head.f).bind fun t101 => ((texts_PutTime.f a0).bind fun bt102 => ((texts_PutTime.f a1).bind fun bt107 => (if a0 ≥ (-631152000) then (warderlaw03_TextsBack.j0 k a0 a1 a2 l3 t101 bt102.1 bt102.2.1 bt102.2.2 bt107.1 bt107.2.1 bt107.2.2 ((bt102.2.2 == 0) != (decide (a0 ≤ 253402300799)))) else (warderlaw03_TextsBack.j0 k a0 a1 a2 l3 t101 bt102.1 bt102.2.1 bt102.2.2 bt107.1 bt107.2.1 bt107.2.2 ((bt102.2.2 == 0) != false)))))
theorem warderlaw03_TextsBack.mono_l : ∀ k, (∀ y0 y1 y2 y3 y4 y5 y6 y7 y8 y9 y10 y11, LeO (warderlaw03_TextsBack.j0 k y0 y1 y2 y3 y4 y5 y6 y7 y8 y9 y10 y11) (warderlaw03_TextsBack.j0 (k + 1) y0 y1 y2 y3 y4 y5 y6 y7 y8 y9 y10 y11)) ∧ (∀ y0 y1 y2 y3 y4 y5 y6 y7 y8 y9 y10, LeO (warderlaw03_TextsBack.j1 k y0 y1 y2 y3 y4 y5 y6 y7 y8 y9 y10) (warderlaw03_TextsBack.j1 (k + 1) y0 y1 y2 y3 y4 y5 y6 y7 y8 y9 y10)) ∧ (∀ y0 y1 y2 y3, LeO (warderlaw03_TextsBack.j2 k y0 y1 y2 y3) (warderlaw03_TextsBack.j2 (k + 1) y0 y1 y2 y3))
  | 0 => ⟨fun _ _ _ _ _ _ _ _ _ _ _ _ r h => by simp [warderlaw03_TextsBack.j0] at h, fun _ _ _ _ _ _ _ _ _ _ _ r h => by simp [warderlaw03_TextsBack.j1] at h, fun _ _ _ _ r h => by simp [warderlaw03_TextsBack.j2] at h⟩
  | k + 1 => by
    obtain ⟨ih0, ih1, ih2⟩ := warderlaw03_TextsBack.mono_l k
    refine ⟨?_, ?_, ?_⟩
    · intro y0 y1 y2 y3 y4 y5 y6 y7 y8 y9 y10 y11
      unfold warderlaw03_TextsBack.j0
      repeat' first
      | (with_reducible exact ih0 _ _ _ _ _ _ _ _ _ _ _ _)
      | (with_reducible exact ih1 _ _ _ _ _ _ _ _ _ _ _)
      | (with_reducible exact ih2 _ _ _ _)
      | (with_reducible exact LeO.refl _)
      | (with_reducible exact LeO.none _)
      | (with_reducible refine LeO.ite ?_ ?_)
      | (with_reducible refine LeO.bind ?_ (fun _ => ?_))
      | exact ih0 _ _ _ _ _ _ _ _ _ _ _ _
      | exact ih1 _ _ _ _ _ _ _ _ _ _ _
      | exact ih2 _ _ _ _
      | exact LeO.none _
      | refine LeO.ite ?_ ?_
      | refine LeO.bind ?_ (fun _ => ?_)
    · intro y0 y1 y2 y3 y4 y5 y6 y7 y8 y9 y10
      unfold warderlaw03_TextsBack.j1
      repeat' first
      | (with_reducible exact ih0 _ _ _ _ _ _ _ _ _ _ _ _)
      | (with_reducible exact ih1 _ _ _ _ _ _ _ _ _ _ _)
      | (with_reducible exact ih2 _ _ _ _)
      | (with_reducible exact LeO.refl _)
      | (with_reducible exact LeO.none _)
      | (with_reducible refine LeO.ite ?_ ?_)
      | (with_reducible refine LeO.bind ?_ (fun _ => ?_))
      | exact ih0 _ _ _ _ _ _ _ _ _ _ _ _
      | exact ih1 _ _ _ _ _ _ _ _ _ _ _
      | exact ih2 _ _ _ _
      | exact LeO.none _
      | refine LeO.ite ?_ ?_
      | refine LeO.bind ?_ (fun _ => ?_)
    · intro y0 y1 y2 y3
      unfold warderlaw03_TextsBack.j2
      repeat' first
      | (with_reducible exact ih0 _ _ _ _ _ _ _ _ _ _ _ _)
      | (with_reducible exact ih1 _ _ _ _ _ _ _ _ _ _ _)
      | (with_reducible exact ih2 _ _ _ _)
      | (with_reducible exact LeO.refl _)
      | (with_reducible exact LeO.none _)
      | (with_reducible refine LeO.ite ?_ ?_)
      | (with_reducible refine LeO.bind ?_ (fun _ => ?_))
      | exact ih0 _ _ _ _ _ _ _ _ _ _ _ _
      | exact ih1 _ _ _ _ _ _ _ _ _ _ _
      | exact ih2 _ _ _ _
      | exact LeO.none _
      | refine LeO.ite ?_ ?_
      | refine LeO.bind ?_ (fun _ => ?_)
theorem warderlaw03_TextsBack.mono : ∀ a0 a1 a2 a3 k, LeO (warderlaw03_TextsBack.f k a0 a1 a2 a3) (warderlaw03_TextsBack.f (k + 1) a0 a1 a2 a3) := by
  intro a0 a1 a2 a3 k
  obtain ⟨ih0, ih1, ih2⟩ := warderlaw03_TextsBack.mono_l k
  unfold warderlaw03_TextsBack.f
  repeat' first
      | (with_reducible exact ih0 _ _ _ _ _ _ _ _ _ _ _ _)
      | (with_reducible exact ih1 _ _ _ _ _ _ _ _ _ _ _)
      | (with_reducible exact ih2 _ _ _ _)
      | (with_reducible exact LeO.refl _)
      | (with_reducible exact LeO.none _)
      | (with_reducible refine LeO.ite ?_ ?_)
      | (with_reducible refine LeO.bind ?_ (fun _ => ?_))
      | exact ih0 _ _ _ _ _ _ _ _ _ _ _ _
      | exact ih1 _ _ _ _ _ _ _ _ _ _ _
      | exact ih2 _ _ _ _
      | exact LeO.none _
      | refine LeO.ite ?_ ?_
      | refine LeO.bind ?_ (fun _ => ?_)
set_option maxHeartbeats 8000000 in
set_option maxRecDepth 100000 in
theorem warderlaw03_TextsBack.calls (k : Nat) (a0 : Int) (a1 : Int) (a2 : Int) (A3 : Option Addr) (c3 : Nat) (l3 : List Int) (r : Bool) (w : World) (hr3 : Kd.C (Kd.int .u8) w A3 l3.length l3) (hc3 : l3.length ≤ c3) (h : warderlaw03_TextsBack.f k a0 a1 a2 l3 = some r) :
    Calls Tryd.prog 11 #[.int .i64 a0, .int .i64 a1, .int .u8 a2, .slice A3 l3.length c3] w fun e w' => e = .returned (.bool r) ∧ Below w.heap.size w w' := by
  have HR3 := Aside0.mk hr3
  have HC3 := Aside0.mk hc3
  clear hr3 hc3
  have HB := Aside0.mk (Below.refl w.heap.size w)
  have H : ((warderlaw03_head.f).bind fun t101 => ((texts_PutTime.f a0).bind fun bt102 => ((texts_PutTime.f a1).bind fun bt107 => (if a0 ≥ (-631152000) then (warderlaw03_TextsBack.j0 k a0 a1 a2 l3 t101 bt102.1 bt102.2.1 bt102.2.2 bt107.1 bt107.2.1 bt107.2.2 ((bt102.2.2 == 0) != (decide (a0 ≤ 253402300799)))) else (warderlaw03_TextsBack.j0 k a0 a1 a2 l3 t101 bt102.1 bt102.2.1 bt102.2.2 bt107.1 bt107.2.1 bt107.2.2 ((bt102.2.2 == 0) != false)))))) = some r := h
  clear h
  replace H := Option.bind_eq_some_iff.mp H
  obtain ⟨t101, A50, H⟩ := H
  replace H : ((texts_PutTime.f a0).bind fun bt102 => ((texts_PutTime.f a1).bind fun bt107 => (if a0 ≥ (-631152000) then (warderlaw03_TextsBack.j0 k a0 a1 a2 l3 t101 bt102.1 bt102.2.1 bt102.2.2 bt107.1 bt107.2.1 bt107.2.2 ((bt102.2.2 == 0) != (decide (a0 ≤ 253402300799)))) else (warderlaw03_TextsBack.j0 k a0 a1 a2 l3 t101 bt102.1 bt102.2.1 bt102.2.2 bt107.1 bt107.2.1 bt107.2.2 ((bt102.2.2 == 0) != false))))) = some r := H
  have A5 := Aside0.mk A50
  clear A50
  replace H := Option.bind_eq_some_iff.mp H
  obtain ⟨⟨t102, t103, t106⟩, A60, H⟩ := H
  replace H : ((texts_PutTime.f a1).bind fun bt107 => (if a0 ≥ (-631152000) then (warderlaw03_TextsBack.j0 k a0 a1 a2 l3 t101 t102 t103 t106 bt107.1 bt107.2.1 bt107.2.2 ((t106 == 0) != (decide (a0 ≤ 253402300799)))) else (warderlaw03_TextsBack.j0 k a0 a1 a2 l3 t101 t102 t103 t106 bt107.1 bt107.2.1 bt107.2.2 ((t106 == 0) != false)))) = some r := H
  have A6 := Aside0.mk A60
  clear A60
  replace H := Option.bind_eq_some_iff.mp H
  obtain ⟨⟨t107, t108, t111⟩, A70, H⟩ := H
  replace H : (if a0 ≥ (-631152000) then (warderlaw03_TextsBack.j0 k a0 a1 a2 l3 t101 t102 t103 t106 t107 t108 t111 ((t106 == 0) != (decide (a0 ≤ 253402300799)))) else (warderlaw03_TextsBack.j0 k a0 a1 a2 l3 t101 t102 t103 t106 t107 t108 t111 ((t106 == 0) != false))) = some r := H
  have A7 := Aside0.mk A70
  clear A70
  have HC8 := Aside0.mk H
  clear H
  go_enter Tryd.func11, Tryd.ntmps11
  go_upto_region 4 with (first | ((with_reducible refine gate_callee (f := 12) rfl ?_); refine goesL_ (some 20) rfl rfl Tryd.func12 (by kernel_rfl) rfl #[] rfl (by (try simp only [List.map_toArray, List.map_cons, List.map_nil]); first | done | rfl | (simp only [List.length_drop, List.length_take]; rfl)) ?_; (with_reducible refine (warderlaw03_head.calls  t101 _ A5.out).mono ?_); rintro e w9 ⟨rfl, hb⟩; refine ⟨_, rfl, ?_⟩; have n0_ := Aside0.mk (below_step (by repeat (first | (with_reducible first | exact HB.out | apply below_alloc | apply pw_below_drewN | apply below_drew1) | exact HB.out)) hb); clear HB; have HB := n0_; clear n0_; (try clear hb); (try clear hb2); (try clear hk); (try clear hi)) | ((with_reducible refine gate_callee (f := 17) rfl ?_); refine goesL_ (some 23) rfl rfl Tryd.func17 (by kernel_rfl) rfl #[.int .i64 a0] rfl (by (try simp only [List.map_toArray, List.map_cons, List.map_nil]); first | done | rfl | (simp only [List.length_drop, List.length_take]; rfl)) ?_; (with_reducible refine (texts_PutTime.calls a0 t102 t103 t106 _ A6.out).mono ?_); rintro e w10 ⟨v104, rfl, ho0, hb⟩; refine ⟨_, rfl, ?_⟩; have n0_ := Aside0.mk (Kd.V_lower (Kd.V_mono (ok' := fun k_ => True) ho0 (fun k_ hk_ => trivial)) (below_size (by repeat (first | (with_reducible first | exact HB.out | apply below_alloc | apply pw_below_drewN | apply below_drew1) | exact HB.out)))); have n1_ := Aside0.mk (below_step (by repeat (first | (with_reducible first | exact HB.out | apply below_alloc | apply pw_below_drewN | apply below_drew1) | exact HB.out)) hb); clear HB; have HO105 := n0_; have HB := n1_; clear n0_ n1_; (try clear hb); (try clear hb2); (try clear hk); (try clear hi); (try clear ho0)) | ((with_reducible refine gate_callee (f := 17) rfl ?_); refine goesL_ (some 29) rfl rfl Tryd.func17 (by kernel_rfl) rfl #[.int .i64 a1] rfl (by (try simp only [List.map_toArray, List.map_cons, List.map_nil]); first | done | rfl | (simp only [List.length_drop, List.length_take]; rfl)) ?_; (with_reducible refine (texts_PutTime.calls a1 t107 t108 t111 _ A7.out).mono ?_); rintro e w11 ⟨v109, rfl, ho0, hb⟩; refine ⟨_, rfl, ?_⟩; have n0_ := Aside0.mk (Kd.V_below (by (with_reducible repeat (first | apply Kd.V_alloc | apply Kd.V_drewN | apply Kd.V_drew)); exact HO105.out) hb); have n1_ := Aside0.mk (Kd.V_lower (Kd.V_mono (ok' := fun k_ => True) ho0 (fun k_ hk_ => trivial)) (below_size (by repeat (first | (with_reducible first | exact HB.out | apply below_alloc | apply pw_below_drewN | apply below_drew1) | exact HB.out)))); have n2_ := Aside0.mk (below_step (by repeat (first | (with_reducible first | exact HB.out | apply below_alloc | apply pw_below_drewN | apply below_drew1) | exact HB.out)) hb); clear HO105; clear HB; have HO105 := n0_; have HO110 := n1_; have HB := n2_; clear n0_ n1_ n2_; (try clear hb); (try clear hb2); (try clear hk); (try clear hi); (try clear ho0)))
  (try simp only [Act.put, List.setIfInBounds_toArray, List.set_cons_zero, List.set_cons_succ])
  go_cut [41] (fun v41 wc => ∃ (kq : Nat) (x41_7 : Bool), v41 = .bool x41_7 ∧ Aside0 (warderlaw03_TextsBack.j0 kq a0 a1 a2 l3 t101 t102 t103 t106 t107 t108 t111 x41_7 = some r) ∧ Aside0 (kq ≤ k) ∧ Aside0 (Kd.V (Kd.int .u8) 5 wc w.heap.size (fun _ => True) v104 t103) ∧ Aside0 (Kd.V (Kd.int .u8) 5 wc w.heap.size (fun _ => True) v109 t108) ∧ Aside0 (Below w.heap.size w wc))
  case first =>
    have H := HC8.out
    clear HC8
    by_cases c12 : a0 ≥ (-631152000)
    · rw [if_pos c12] at H
      have c12b0 : decide ((-631152000) ≤ a0) = true := decide_eq_true c12
      clear c12
      (first | rw [c12b0] | (simp only [i64_w, i32_w]; rw [c12b0]) | skip)
      have H' := Aside0.mk H
      clear H
      go_wp2
      go_meet
      case rel => exact ⟨_, (((t106 == 0) != (decide (a0 ≤ 253402300799)))), (by first | rfl | (simp; done) | (simp [*]; done)), H', ⟨by first | omega | exact Nat.le_refl _⟩, ⟨by (with_reducible repeat (first | apply Kd.V_alloc | apply Kd.V_drewN | apply Kd.V_drew)); exact HO105.out⟩, ⟨by (with_reducible repeat (first | apply Kd.V_alloc | apply Kd.V_drewN | apply Kd.V_drew)); exact HO110.out⟩, ⟨by repeat (first | (with_reducible first | exact HB.out | apply below_alloc | apply pw_below_drewN | apply below_drew1) | exact HB.out)⟩⟩
    · rw [if_neg c12] at H
      have c12b0 : decide ((-631152000) ≤ a0) = false := decide_eq_false c12
      clear c12
      (first | rw [c12b0] | (simp only [i64_w, i32_w]; rw [c12b0]) | skip)
      have H' := Aside0.mk H
      clear H
      go_wp2
      go_meet
      case rel => exact ⟨_, (((t106 == 0) != false)), (by first | rfl | (simp; done) | (simp [*]; done)), H', ⟨by first | omega | exact Nat.le_refl _⟩, ⟨by (with_reducible repeat (first | apply Kd.V_alloc | apply Kd.V_drewN | apply Kd.V_drew)); exact HO105.out⟩, ⟨by (with_reducible repeat (first | apply Kd.V_alloc | apply Kd.V_drewN | apply Kd.V_drew)); exact HO110.out⟩, ⟨by repeat (first | (with_reducible first | exact HB.out | apply below_alloc | apply pw_below_drewN | apply below_drew1) | exact HB.out)⟩⟩
  case rest =>
    clear HC8
    try clear c1
    try clear p2
    try clear c3
    try clear c11
    try clear c12
    try clear c12b0
    obtain ⟨kq, x41_7, rfl, HA, HJ7, HO_11, HO_14, HB⟩ := hcut
    cases kq with
    | zero => exact absurd HA.out (by simp [warderlaw03_TextsBack.j0])
    | succ kj7 =>
      have H := HA.out
      clear HA
      simp only [warderlaw03_TextsBack.j0] at H
      by_cases c13 : x41_7 = true
      · subst c13
        have H1 : (some false) = some r := by rw [if_pos rfl] at H; exact H
        clear H
        have H := H1
        clear H1
        obtain rfl := Option.some.inj H
        go_wp2
        go_ret
        exact ⟨by first | rfl | (simp [errW_none, errW_some] <;> rfl) | (simp [*, errW_none, errW_some] <;> rfl), by repeat (first | (with_reducible first | exact HB.out | apply below_alloc | apply pw_below_drewN | apply below_drew1) | exact HB.out)⟩
      · replace c13 := Bool.eq_false_iff.mpr c13
        subst c13
        have H1 : (if t106 = 0 then ((texts_Time.f t102 t103).bind fun bt112 => (if bt112.2 = 0 then (if bt112.1 = a0 then (warderlaw03_TextsBack.j1 kj7 a0 a1 a2 l3 t101 t102 t103 t106 t107 t108 t111) else (some false)) else (some false))) else (warderlaw03_TextsBack.j1 kj7 a0 a1 a2 l3 t101 t102 t103 t106 t107 t108 t111)) = some r := by rw [if_neg (show ¬ (false = true) by decide)] at H; exact H
        clear H
        have H := H1
        clear H1
        have HC14 := Aside0.mk H
        clear H
        go_upto_if 43 with (fail)
        go_cut [] (fun wc => ∃ (kq : Nat), Aside0 (warderlaw03_TextsBack.j1 kq a0 a1 a2 l3 t101 t102 t103 t106 t107 t108 t111 = some r) ∧ Aside0 (kq ≤ kj7) ∧ Aside0 (Kd.V (Kd.int .u8) 5 wc w.heap.size (fun _ => True) v104 t103) ∧ Aside0 (Kd.V (Kd.int .u8) 5 wc w.heap.size (fun _ => True) v109 t108) ∧ Aside0 (Below w.heap.size w wc))
        case first =>
          have H := HC14.out
          clear HC14
          by_cases c15 : t106 = 0
          · rw [if_pos c15] at H
            have c15b0 : (t106 == 0) = true := beq_iff_eq.mpr c15
            have c15b1 : (t106 != 0) = false := bne_eq_false_iff_eq.mpr c15
            clear c15
            (first | rw [c15b0] | (simp only [i64_w, i32_w]; rw [c15b0]) | skip)
            replace H := Option.bind_eq_some_iff.mp H
            obtain ⟨⟨t112, t113⟩, A160, H⟩ := H
            replace H : (if t113 = 0 then (if t112 = a0 then (warderlaw03_TextsBack.j1 kj7 a0 a1 a2 l3 t101 t102 t103 t106 t107 t108 t111) else (some false)) else (some false)) = some r := H
            have A16 := Aside0.mk A160
            clear A160
            by_cases c17 : t113 = 0
            · rw [if_pos c17] at H
              have c17b0 : (t113 == 0) = true := beq_iff_eq.mpr c17
              have c17b1 : (t113 != 0) = false := bne_eq_false_iff_eq.mpr c17
              clear c17
              by_cases c18 : t112 = a0
              · rw [if_pos c18] at H
                have c18b0 : (t112 == a0) = true := beq_iff_eq.mpr c18
                have c18b1 : (t112 != a0) = false := bne_eq_false_iff_eq.mpr c18
                clear c18
                have H' := Aside0.mk H
                clear H
                obtain ⟨Ao19, co19, eo19⟩ := Kd.V_slice HO_11.out
                subst eo19
                go_wp2_with (first | ((with_reducible refine gate_callee (f := 19) rfl ?_); refine goesL_ (some 47) rfl rfl Tryd.func19 (by kernel_rfl) rfl #[.int .u8 t102, .slice Ao19 t103.length co19] rfl (by (try simp only [List.map_toArray, List.map_cons, List.map_nil]); first | done | rfl | (simp only [List.length_drop, List.length_take]; rfl)) ?_; (with_reducible refine (texts_Time.calls t102 _ _ t103 t112 t113 _ ?side1 ?side2 A16.out).mono ?_); (case side1 => repeat (first | exact (Kd.V_reads' HO_11.out).2.2 | (with_reducible refine Kd.C_alloc ?_ _) | (with_reducible refine Kd.C_drewN ?_ _) | (with_reducible refine Kd.C_drew ?_))); (case side2 => exact (Kd.V_reads' HO_11.out).2.1); rintro e w20 ⟨rfl, hb⟩; refine ⟨_, rfl, ?_⟩; have n0_ := Aside0.mk (Kd.V_below (by (with_reducible repeat (first | apply Kd.V_alloc | apply Kd.V_drewN | apply Kd.V_drew)); exact HO_11.out) hb); have n1_ := Aside0.mk (Kd.V_below (by (with_reducible repeat (first | apply Kd.V_alloc | apply Kd.V_drewN | apply Kd.V_drew)); exact HO_14.out) hb); have n2_ := Aside0.mk (below_step (by repeat (first | (with_reducible first | exact HB.out | apply below_alloc | apply pw_below_drewN | apply below_drew1) | exact HB.out)) hb); clear HO_11; clear HO_14; clear HB; have HO_11 := n0_; have HO_14 := n1_; have HB := n2_; clear n0_ n1_ n2_; (try clear hb); (try clear hb2); (try clear hk); (try clear hi)))
                go_meet
                case rel => exact ⟨_, H', ⟨by have := HJ7.out; first | omega | exact Nat.le_refl _⟩, ⟨by (with_reducible repeat (first | apply Kd.V_alloc | apply Kd.V_drewN | apply Kd.V_drew)); exact HO_11.out⟩, ⟨by (with_reducible repeat (first | apply Kd.V_alloc | apply Kd.V_drewN | apply Kd.V_drew)); exact HO_14.out⟩, ⟨by repeat (first | (with_reducible first | exact HB.out | apply below_alloc | apply pw_below_drewN | apply below_drew1) | exact HB.out)⟩⟩
              · rw [if_neg c18] at H
                have c18b0 : (t112 == a0) = false := beq_eq_false_iff_ne.mpr c18
                have c18b1 : (t112 != a0) = true := bne_iff_ne.mpr c18
                obtain rfl := Option.some.inj H
                obtain ⟨Ao21, co21, eo21⟩ := Kd.V_slice HO_11.out
                subst eo21
                go_wp2_with (first | ((with_reducible refine gate_callee (f := 19) rfl ?_); refine goesL_ (some 47) rfl rfl Tryd.func19 (by kernel_rfl) rfl #[.int .u8 t102, .slice Ao21 t103.length co21] rfl (by (try simp only [List.map_toArray, List.map_cons, List.map_nil]); first | done | rfl | (simp only [List.length_drop, List.length_take]; rfl)) ?_; (with_reducible refine (texts_Time.calls t102 _ _ t103 t112 t113 _ ?side1 ?side2 A16.out).mono ?_); (case side1 => repeat (first | exact (Kd.V_reads' HO_11.out).2.2 | (with_reducible refine Kd.C_alloc ?_ _) | (with_reducible refine Kd.C_drewN ?_ _) | (with_reducible refine Kd.C_drew ?_))); (case side2 => exact (Kd.V_reads' HO_11.out).2.1); rintro e w22 ⟨rfl, hb⟩; refine ⟨_, rfl, ?_⟩; have n0_ := Aside0.mk (Kd.V_below (by (with_reducible repeat (first | apply Kd.V_alloc | apply Kd.V_drewN | apply Kd.V_drew)); exact HO_11.out) hb); have n1_ := Aside0.mk (Kd.V_below (by (with_reducible repeat (first | apply Kd.V_alloc | apply Kd.V_drewN | apply Kd.V_drew)); exact HO_14.out) hb); have n2_ := Aside0.mk (below_step (by repeat (first | (with_reducible first | exact HB.out | apply below_alloc | apply pw_below_drewN | apply below_drew1) | exact HB.out)) hb); clear HO_11; clear HO_14; clear HB; have HO_11 := n0_; have HO_14 := n1_; have HB := n2_; clear n0_ n1_ n2_; (try clear hb); (try clear hb2); (try clear hk); (try clear hi)))
                go_ret
                exact ⟨by first | rfl | (simp [errW_none, errW_some] <;> rfl) | (simp [*, errW_none, errW_some] <;> rfl), by repeat (first | (with_reducible first | exact HB.out | apply below_alloc | apply pw_below_drewN | apply below_drew1) | exact HB.out)⟩
            · rw [if_neg c17] at H
              have c17b0 : (t113 == 0) = false := beq_eq_false_iff_ne.mpr c17
              have c17b1 : (t113 != 0) = true := bne_iff_ne.mpr c17
              obtain rfl := Option.some.inj H
              obtain ⟨Ao23, co23, eo23⟩ := Kd.V_slice HO_11.out
              subst eo23
              go_wp2_with (first | ((with_reducible refine gate_callee (f := 19) rfl ?_); refine goesL_ (some 47) rfl rfl Tryd.func19 (by kernel_rfl) rfl #[.int .u8 t102, .slice Ao23 t103.length co23] rfl (by (try simp only [List.map_toArray, List.map_cons, List.map_nil]); first | done | rfl | (simp only [List.length_drop, List.length_take]; rfl)) ?_; (with_reducible refine (texts_Time.calls t102 _ _ t103 t112 t113 _ ?side1 ?side2 A16.out).mono ?_); (case side1 => repeat (first | exact (Kd.V_reads' HO_11.out).2.2 | (with_reducible refine Kd.C_alloc ?_ _) | (with_reducible refine Kd.C_drewN ?_ _) | (with_reducible refine Kd.C_drew ?_))); (case side2 => exact (Kd.V_reads' HO_11.out).2.1); rintro e w24 ⟨rfl, hb⟩; refine ⟨_, rfl, ?_⟩; have n0_ := Aside0.mk (Kd.V_below (by (with_reducible repeat (first | apply Kd.V_alloc | apply Kd.V_drewN | apply Kd.V_drew)); exact HO_11.out) hb); have n1_ := Aside0.mk (Kd.V_below (by (with_reducible repeat (first | apply Kd.V_alloc | apply Kd.V_drewN | apply Kd.V_drew)); exact HO_14.out) hb); have n2_ := Aside0.mk (below_step (by repeat (first | (with_reducible first | exact HB.out | apply below_alloc | apply pw_below_drewN | apply below_drew1) | exact HB.out)) hb); clear HO_11; clear HO_14; clear HB; have HO_11 := n0_; have HO_14 := n1_; have HB := n2_; clear n0_ n1_ n2_; (try clear hb); (try clear hb2); (try clear hk); (try clear hi)))
              go_ret
              exact ⟨by first | rfl | (simp [errW_none, errW_some] <;> rfl) | (simp [*, errW_none, errW_some] <;> rfl), by repeat (first | (with_reducible first | exact HB.out | apply below_alloc | apply pw_below_drewN | apply below_drew1) | exact HB.out)⟩
          · rw [if_neg c15] at H
            have c15b0 : (t106 == 0) = false := beq_eq_false_iff_ne.mpr c15
            have c15b1 : (t106 != 0) = true := bne_iff_ne.mpr c15
            (first | rw [c15b0] | (simp only [i64_w, i32_w]; rw [c15b0]) | skip)
            have H' := Aside0.mk H
            clear H
            go_wp2
            go_meet
            case rel => exact ⟨_, H', ⟨by have := HJ7.out; first | omega | exact Nat.le_refl _⟩, ⟨by (with_reducible repeat (first | apply Kd.V_alloc | apply Kd.V_drewN | apply Kd.V_drew)); exact HO_11.out⟩, ⟨by (with_reducible repeat (first | apply Kd.V_alloc | apply Kd.V_drewN | apply Kd.V_drew)); exact HO_14.out⟩, ⟨by repeat (first | (with_reducible first | exact HB.out | apply below_alloc | apply pw_below_drewN | apply below_drew1) | exact HB.out)⟩⟩
        case rest =>
          clear HC14
          try clear c1
          try clear p2
          try clear c3
          try clear c11
          try clear c12
          try clear c12b0
          try clear c13
          try clear c15
          try clear c15b0
          try clear c15b1
          try clear c17
          try clear c17b0
          try clear c17b1
          try clear c18
          try clear c18b0
          try clear c18b1
          try clear c19
          try clear p2
          obtain ⟨kq, HA, HJ13, HO_11, HO_14, HB⟩ := hcut
          cases kq with
          | zero => exact absurd HA.out (by simp [warderlaw03_TextsBack.j1])
          | succ kj13 =>
            have H := HA.out
            clear HA
            simp only [warderlaw03_TextsBack.j1] at H
            have HC25 := Aside0.mk H
            clear H
            go_upto_region 10 with (fail)
            go_cut [82] (fun v82 wc => ∃ (kq : Nat) (x82_24 : Bool), v82 = .bool x82_24 ∧ Aside0 (warderlaw03_TextsBack.j2 kq a2 l3 t101 x82_24 = some r) ∧ Aside0 (kq ≤ kj13) ∧ Aside0 (Below w.heap.size w wc))
            case first =>
              have H := HC25.out
              clear HC25
              by_cases c26 : t106 = 0
              · rw [if_pos c26] at H
                have c26b0 : (t106 == 0) = true := beq_iff_eq.mpr c26
                have c26b1 : (t106 != 0) = false := bne_eq_false_iff_eq.mpr c26
                clear c26
                (first | rw [c26b0] | (simp only [i64_w, i32_w]; rw [c26b0]) | skip)
                by_cases c27 : t111 = 0
                · rw [if_pos c27] at H
                  have c27b0 : (t111 == 0) = true := beq_iff_eq.mpr c27
                  have c27b1 : (t111 != 0) = false := bne_eq_false_iff_eq.mpr c27
                  clear c27
                  by_cases c28 : t102 = t107
                  · rw [if_pos c28] at H
                    have c28b0 : (t102 == t107) = true := beq_iff_eq.mpr c28
                    have c28b1 : (t102 != t107) = false := bne_eq_false_iff_eq.mpr c28
                    clear c28
                    by_cases c29 : t102 = 24
                    · rw [if_pos c29] at H
                      have c29b0 : (t102 == 24) = true := beq_iff_eq.mpr c29
                      have c29b1 : (t102 != 24) = false := bne_eq_false_iff_eq.mpr c29
                      clear c29
                      have H' := Aside0.mk H
                      clear H
                      have hcv30 := V_str (P := Tryd.prog) Tryd.underlying22 Tryd.underlying5 Tryd.underlying9 HO_11.out; have hcv30d := fun n_ => V_str (P := Tryd.prog) Tryd.underlying22 Tryd.underlying5 Tryd.underlying9 (Kd.V_drewN HO_11.out n_)
                      have hcv31 := V_str (P := Tryd.prog) Tryd.underlying22 Tryd.underlying5 Tryd.underlying9 HO_14.out; have hcv31d := fun n_ => V_str (P := Tryd.prog) Tryd.underlying22 Tryd.underlying5 Tryd.underlying9 (Kd.V_drewN HO_14.out n_)
                      go_wp2
                      go_meet
                      case rel => exact ⟨_, (((decide (a0 < a1)) != (Op.bytesLess ((strOfNums t103).toList) ((strOfNums t108).toList)))), (by first | rfl | (simp; done) | (simp [*]; done)), H', ⟨by have := HJ7.out; have := HJ13.out; first | omega | exact Nat.le_refl _⟩, ⟨by repeat (first | (with_reducible first | exact HB.out | apply below_alloc | apply pw_below_drewN | apply below_drew1) | exact HB.out)⟩⟩
                    · rw [if_neg c29] at H
                      have c29b0 : (t102 == 24) = false := beq_eq_false_iff_ne.mpr c29
                      have c29b1 : (t102 != 24) = true := bne_iff_ne.mpr c29
                      have H' := Aside0.mk H
                      clear H
                      go_wp2
                      go_meet
                      case rel => exact ⟨_, (false), (by first | rfl | (simp; done) | (simp [*]; done)), H', ⟨by have := HJ7.out; have := HJ13.out; first | omega | exact Nat.le_refl _⟩, ⟨by repeat (first | (with_reducible first | exact HB.out | apply below_alloc | apply pw_below_drewN | apply below_drew1) | exact HB.out)⟩⟩
                  · rw [if_neg c28] at H
                    have c28b0 : (t102 == t107) = false := beq_eq_false_iff_ne.mpr c28
                    have c28b1 : (t102 != t107) = true := bne_iff_ne.mpr c28
                    have H' := Aside0.mk H
                    clear H
                    go_wp2
                    go_meet
                    case rel => exact ⟨_, (false), (by first | rfl | (simp; done) | (simp [*]; done)), H', ⟨by have := HJ7.out; have := HJ13.out; first | omega | exact Nat.le_refl _⟩, ⟨by repeat (first | (with_reducible first | exact HB.out | apply below_alloc | apply pw_below_drewN | apply below_drew1) | exact HB.out)⟩⟩
                · rw [if_neg c27] at H
                  have c27b0 : (t111 == 0) = false := beq_eq_false_iff_ne.mpr c27
                  have c27b1 : (t111 != 0) = true := bne_iff_ne.mpr c27
                  have H' := Aside0.mk H
                  clear H
                  go_wp2
                  go_meet
                  case rel => exact ⟨_, (false), (by first | rfl | (simp; done) | (simp [*]; done)), H', ⟨by have := HJ7.out; have := HJ13.out; first | omega | exact Nat.le_refl _⟩, ⟨by repeat (first | (with_reducible first | exact HB.out | apply below_alloc | apply pw_below_drewN | apply below_drew1) | exact HB.out)⟩⟩
              · rw [if_neg c26] at H
                have c26b0 : (t106 == 0) = false := beq_eq_false_iff_ne.mpr c26
                have c26b1 : (t106 != 0) = true := bne_iff_ne.mpr c26
                (first | rw [c26b0] | (simp only [i64_w, i32_w]; rw [c26b0]) | skip)
                have H' := Aside0.mk H
                clear H
                go_wp2
                go_meet
                case rel => exact ⟨_, (false), (by first | rfl | (simp; done) | (simp [*]; done)), H', ⟨by have := HJ7.out; have := HJ13.out; first | omega | exact Nat.le_refl _⟩, ⟨by repeat (first | (with_reducible first | exact HB.out | apply below_alloc | apply pw_below_drewN | apply below_drew1) | exact HB.out)⟩⟩
            case rest =>
              clear HC25
              try clear c1
              try clear c2
              try clear p2
              try clear c3
              try clear hcv3
              try clear c11
              try clear c12
              try clear c12b0
              try clear c13
              try clear c15
              try clear c15b0
              try clear c15b1
              try clear c17
              try clear c17b0
              try clear c17b1
              try clear c18
              try clear c18b0
              try clear c18b1
              try clear c19
              try clear c26
              try clear c26b0
              try clear c26b1
              try clear c27
              try clear c27b0
              try clear c27b1
              try clear c28
              try clear c28b0
              try clear c28b1
              try clear c29
              try clear c29b0
              try clear c29b1
              try clear hcv30
              try clear hcv31
              try clear p2
              obtain ⟨kq, x82_24, rfl, HA, HJ24, HB⟩ := hcut
              cases kq with
              | zero => exact absurd HA.out (by simp [warderlaw03_TextsBack.j2])
              | succ kj24 =>
                have H := HA.out
                clear HA
                simp only [warderlaw03_TextsBack.j2] at H
                by_cases c32 : x82_24 = true
                · subst c32
                  have H1 : (some false) = some r := by rw [if_pos rfl] at H; exact H
                  clear H
                  have H := H1
                  clear H1
                  obtain rfl := Option.some.inj H
                  go_wp2
                  go_ret
                  exact ⟨by first | rfl | (simp [errW_none, errW_some] <;> rfl) | (simp [*, errW_none, errW_some] <;> rfl), by repeat (first | (with_reducible first | exact HB.out | apply below_alloc | apply pw_below_drewN | apply below_drew1) | exact HB.out)⟩
                · replace c32 := Bool.eq_false_iff.mpr c32
                  subst c32
                  have H1 : ((texts_Time.f a2 l3).bind fun bt114 => (if bt114.2 = 0 then ((texts_PutTime.f bt114.1).bind fun bt116 => (if t101 = true then (if bt116.2.2 = 0 then (if bt116.1 = a2 then (some ((strOfNums bt116.2.1).toList == (strOfNums l3).toList)) else (some false)) else (some false)) else (some false))) else (if t101 = true then (some (bt114.1 == 0)) else (some false)))) = some r := by rw [if_neg (show ¬ (false = true) by decide)] at H; exact H
                  clear H
                  have H := H1
                  clear H1
                  replace H := Option.bind_eq_some_iff.mp H
                  obtain ⟨⟨t114, t115⟩, A330, H⟩ := H
                  replace H : (if t115 = 0 then ((texts_PutTime.f t114).bind fun bt116 => (if t101 = true then (if bt116.2.2 = 0 then (if bt116.1 = a2 then (some ((strOfNums bt116.2.1).toList == (strOfNums l3).toList)) else (some false)) else (some false)) else (some false))) else (if t101 = true then (some (t114 == 0)) else (some false))) = some r := H
                  have A33 := Aside0.mk A330
                  clear A330
                  by_cases c34 : t115 = 0
                  · rw [if_pos c34] at H
                    have c34b0 : (t115 == 0) = true := beq_iff_eq.mpr c34
                    have c34b1 : (t115 != 0) = false := bne_eq_false_iff_eq.mpr c34
                    clear c34
                    replace H := Option.bind_eq_some_iff.mp H
                    obtain ⟨⟨t116, t117, t120⟩, A350, H⟩ := H
                    replace H : (if t101 = true then (if t120 = 0 then (if t116 = a2 then (some ((strOfNums t117).toList == (strOfNums l3).toList)) else (some false)) else (some false)) else (some false)) = some r := H
                    have A35 := Aside0.mk A350
                    clear A350
                    by_cases c36 : t101 = true
                    · subst c36
                      have H1 : (if t120 = 0 then (if t116 = a2 then (some ((strOfNums t117).toList == (strOfNums l3).toList)) else (some false)) else (some false)) = some r := by rw [if_pos rfl] at H; exact H
                      clear H
                      have H := H1
                      clear H1
                      by_cases c37 : t120 = 0
                      · rw [if_pos c37] at H
                        have c37b0 : (t120 == 0) = true := beq_iff_eq.mpr c37
                        have c37b1 : (t120 != 0) = false := bne_eq_false_iff_eq.mpr c37
                        clear c37
                        by_cases c38 : t116 = a2
                        · rw [if_pos c38] at H
                          have c38b0 : (t116 == a2) = true := beq_iff_eq.mpr c38
                          have c38b1 : (t116 != a2) = false := bne_eq_false_iff_eq.mpr c38
                          clear c38
                          obtain rfl := Option.some.inj H
                          go_wp2_with (first | ((with_reducible refine gate_callee (f := 19) rfl ?_); refine goesL_ (some 86) rfl rfl Tryd.func19 (by kernel_rfl) rfl #[.int .u8 a2, .slice A3 l3.length c3] rfl (by (try simp only [List.map_toArray, List.map_cons, List.map_nil]); first | done | rfl | (simp only [List.length_drop, List.length_take]; rfl)) ?_; (with_reducible refine (texts_Time.calls a2 _ _ l3 t114 t115 _ ?side1 ?side2 A33.out).mono ?_); (case side1 => repeat (first | exact (Kd.C_below HR3.out HB.out) | (with_reducible refine Kd.C_alloc ?_ _) | (with_reducible refine Kd.C_drewN ?_ _) | (with_reducible refine Kd.C_drew ?_))); (case side2 => exact HC3.out); rintro e w39 ⟨rfl, hb⟩; refine ⟨_, rfl, ?_⟩; have n0_ := Aside0.mk (below_step (by repeat (first | (with_reducible first | exact HB.out | apply below_alloc | apply pw_below_drewN | apply below_drew1) | exact HB.out)) hb); clear HB; have HB := n0_; clear n0_; (try clear hb); (try clear hb2); (try clear hk); (try clear hi)) | ((with_reducible refine gate_callee (f := 17) rfl ?_); refine goesL_ (some 98) rfl rfl Tryd.func17 (by kernel_rfl) rfl #[.int .i64 t114] rfl (by (try simp only [List.map_toArray, List.map_cons, List.map_nil]); first | done | rfl | (simp only [List.length_drop, List.length_take]; rfl)) ?_; (with_reducible refine (texts_PutTime.calls t114 t116 t117 t120 _ A35.out).mono ?_); rintro e w40 ⟨v118, rfl, ho0, hb⟩; refine ⟨_, rfl, ?_⟩; have n0_ := Aside0.mk (Kd.V_lower (Kd.V_mono (ok' := fun k_ => True) ho0 (fun k_ hk_ => trivial)) (below_size (by repeat (first | (with_reducible first | exact HB.out | apply below_alloc | apply pw_below_drewN | apply below_drew1) | exact HB.out)))); have n1_ := Aside0.mk (below_step (by repeat (first | (with_reducible first | exact HB.out | apply below_alloc | apply pw_below_drewN | apply below_drew1) | exact HB.out)) hb); clear HB; have HO119 := n0_; have HB := n1_; clear n0_ n1_; (try clear hb); (try clear hb2); (try clear hk); (try clear hi); (try clear ho0); have hcv41 := V_str (P := Tryd.prog) Tryd.underlying22 Tryd.underlying5 Tryd.underlying9 HO119.out; have hcv41d := fun n_ => V_str (P := Tryd.prog) Tryd.underlying22 Tryd.underlying5 Tryd.underlying9 (Kd.V_drewN HO119.out n_); have hcv42 := Kd.C_string (P := Tryd.prog) (A := A3) (c := c3) Tryd.underlying22 Tryd.underlying5 Tryd.underlying9 (Kd.C_below HR3.out HB.out)))
                          go_ret
                          exact ⟨by first | rfl | (simp [errW_none, errW_some] <;> rfl) | (simp [*, errW_none, errW_some] <;> rfl), by repeat (first | (with_reducible first | exact HB.out | apply below_alloc | apply pw_below_drewN | apply below_drew1) | exact HB.out)⟩
                        · rw [if_neg c38] at H
                          have c38b0 : (t116 == a2) = false := beq_eq_false_iff_ne.mpr c38
                          have c38b1 : (t116 != a2) = true := bne_iff_ne.mpr c38
                          obtain rfl := Option.some.inj H
                          go_wp2_with (first | ((with_reducible refine gate_callee (f := 19) rfl ?_); refine goesL_ (some 86) rfl rfl Tryd.func19 (by kernel_rfl) rfl #[.int .u8 a2, .slice A3 l3.length c3] rfl (by (try simp only [List.map_toArray, List.map_cons, List.map_nil]); first | done | rfl | (simp only [List.length_drop, List.length_take]; rfl)) ?_; (with_reducible refine (texts_Time.calls a2 _ _ l3 t114 t115 _ ?side1 ?side2 A33.out).mono ?_); (case side1 => repeat (first | exact (Kd.C_below HR3.out HB.out) | (with_reducible refine Kd.C_alloc ?_ _) | (with_reducible refine Kd.C_drewN ?_ _) | (with_reducible refine Kd.C_drew ?_))); (case side2 => exact HC3.out); rintro e w43 ⟨rfl, hb⟩; refine ⟨_, rfl, ?_⟩; have n0_ := Aside0.mk (below_step (by repeat (first | (with_reducible first | exact HB.out | apply below_alloc | apply pw_below_drewN | apply below_drew1) | exact HB.out)) hb); clear HB; have HB := n0_; clear n0_; (try clear hb); (try clear hb2); (try clear hk); (try clear hi)) | ((with_reducible refine gate_callee (f := 17) rfl ?_); refine goesL_ (some 98) rfl rfl Tryd.func17 (by kernel_rfl) rfl #[.int .i64 t114] rfl (by (try simp only [List.map_toArray, List.map_cons, List.map_nil]); first | done | rfl | (simp only [List.length_drop, List.length_take]; rfl)) ?_; (with_reducible refine (texts_PutTime.calls t114 t116 t117 t120 _ A35.out).mono ?_); rintro e w44 ⟨v118, rfl, ho0, hb⟩; refine ⟨_, rfl, ?_⟩; have n0_ := Aside0.mk (Kd.V_lower (Kd.V_mono (ok' := fun k_ => True) ho0 (fun k_ hk_ => trivial)) (below_size (by repeat (first | (with_reducible first | exact HB.out | apply below_alloc | apply pw_below_drewN | apply below_drew1) | exact HB.out)))); have n1_ := Aside0.mk (below_step (by repeat (first | (with_reducible first | exact HB.out | apply below_alloc | apply pw_below_drewN | apply below_drew1) | exact HB.out)) hb); clear HB; have HO119 := n0_; have HB := n1_; clear n0_ n1_; (try clear hb); (try clear hb2); (try clear hk); (try clear hi); (try clear ho0)))
                          go_ret
                          exact ⟨by first | rfl | (simp [errW_none, errW_some] <;> rfl) | (simp [*, errW_none, errW_some] <;> rfl), by repeat (first | (with_reducible first | exact HB.out | apply below_alloc | apply pw_below_drewN | apply below_drew1) | exact HB.out)⟩
                      · rw [if_neg c37] at H
                        have c37b0 : (t120 == 0) = false := beq_eq_false_iff_ne.mpr c37
                        have c37b1 : (t120 != 0) = true := bne_iff_ne.mpr c37
                        obtain rfl := Option.some.inj H
                        go_wp2_with (first | ((with_reducible refine gate_callee (f := 19) rfl ?_); refine goesL_ (some 86) rfl rfl Tryd.func19 (by kernel_rfl) rfl #[.int .u8 a2, .slice A3 l3.length c3] rfl (by (try simp only [List.map_toArray, List.map_cons, List.map_nil]); first | done | rfl | (simp only [List.length_drop, List.length_take]; rfl)) ?_; (with_reducible refine (texts_Time.calls a2 _ _ l3 t114 t115 _ ?side1 ?side2 A33.out).mono ?_); (case side1 => repeat (first | exact (Kd.C_below HR3.out HB.out) | (with_reducible refine Kd.C_alloc ?_ _) | (with_reducible refine Kd.C_drewN ?_ _) | (with_reducible refine Kd.C_drew ?_))); (case side2 => exact HC3.out); rintro e w45 ⟨rfl, hb⟩; refine ⟨_, rfl, ?_⟩; have n0_ := Aside0.mk (below_step (by repeat (first | (with_reducible first | exact HB.out | apply below_alloc | apply pw_below_drewN | apply below_drew1) | exact HB.out)) hb); clear HB; have HB := n0_; clear n0_; (try clear hb); (try clear hb2); (try clear hk); (try clear hi)) | ((with_reducible refine gate_callee (f := 17) rfl ?_); refine goesL_ (some 98) rfl rfl Tryd.func17 (by kernel_rfl) rfl #[.int .i64 t114] rfl (by (try simp only [List.map_toArray, List.map_cons, List.map_nil]); first | done | rfl | (simp only [List.length_drop, List.length_take]; rfl)) ?_; (with_reducible refine (texts_PutTime.calls t114 t116 t117 t120 _ A35.out).mono ?_); rintro e w46 ⟨v118, rfl, ho0, hb⟩; refine ⟨_, rfl, ?_⟩; have n0_ := Aside0.mk (Kd.V_lower (Kd.V_mono (ok' := fun k_ => True) ho0 (fun k_ hk_ => trivial)) (below_size (by repeat (first | (with_reducible first | exact HB.out | apply below_alloc | apply pw_below_drewN | apply below_drew1) | exact HB.out)))); have n1_ := Aside0.mk (below_step (by repeat (first | (with_reducible first | exact HB.out | apply below_alloc | apply pw_below_drewN | apply below_drew1) | exact HB.out)) hb); clear HB; have HO119 := n0_; have HB := n1_; clear n0_ n1_; (try clear hb); (try clear hb2); (try clear hk); (try clear hi); (try clear ho0)))
                        go_ret
                        exact ⟨by first | rfl | (simp [errW_none, errW_some] <;> rfl) | (simp [*, errW_none, errW_some] <;> rfl), by repeat (first | (with_reducible first | exact HB.out | apply below_alloc | apply pw_below_drewN | apply below_drew1) | exact HB.out)⟩
                    · replace c36 := Bool.eq_false_iff.mpr c36
                      subst c36
                      have H1 : (some false) = some r := by rw [if_neg (show ¬ (false = true) by decide)] at H; exact H
                      clear H
                      have H := H1
                      clear H1
                      obtain rfl := Option.some.inj H
                      go_wp2_with (first | ((with_reducible refine gate_callee (f := 19) rfl ?_); refine goesL_ (some 86) rfl rfl Tryd.func19 (by kernel_rfl) rfl #[.int .u8 a2, .slice A3 l3.length c3] rfl (by (try simp only [List.map_toArray, List.map_cons, List.map_nil]); first | done | rfl | (simp only [List.length_drop, List.length_take]; rfl)) ?_; (with_reducible refine (texts_Time.calls a2 _ _ l3 t114 t115 _ ?side1 ?side2 A33.out).mono ?_); (case side1 => repeat (first | exact (Kd.C_below HR3.out HB.out) | (with_reducible refine Kd.C_alloc ?_ _) | (with_reducible refine Kd.C_drewN ?_ _) | (with_reducible refine Kd.C_drew ?_))); (case side2 => exact HC3.out); rintro e w47 ⟨rfl, hb⟩; refine ⟨_, rfl, ?_⟩; have n0_ := Aside0.mk (below_step (by repeat (first | (with_reducible first | exact HB.out | apply below_alloc | apply pw_below_drewN | apply below_drew1) | exact HB.out)) hb); clear HB; have HB := n0_; clear n0_; (try clear hb); (try clear hb2); (try clear hk); (try clear hi)) | ((with_reducible refine gate_callee (f := 17) rfl ?_); refine goesL_ (some 98) rfl rfl Tryd.func17 (by kernel_rfl) rfl #[.int .i64 t114] rfl (by (try simp only [List.map_toArray, List.map_cons, List.map_nil]); first | done | rfl | (simp only [List.length_drop, List.length_take]; rfl)) ?_; (with_reducible refine (texts_PutTime.calls t114 t116 t117 t120 _ A35.out).mono ?_); rintro e w48 ⟨v118, rfl, ho0, hb⟩; refine ⟨_, rfl, ?_⟩; have n0_ := Aside0.mk (Kd.V_lower (Kd.V_mono (ok' := fun k_ => True) ho0 (fun k_ hk_ => trivial)) (below_size (by repeat (first | (with_reducible first | exact HB.out | apply below_alloc | apply pw_below_drewN | apply below_drew1) | exact HB.out)))); have n1_ := Aside0.mk (below_step (by repeat (first | (with_reducible first | exact HB.out | apply below_alloc | apply pw_below_drewN | apply below_drew1) | exact HB.out)) hb); clear HB; have HO119 := n0_; have HB := n1_; clear n0_ n1_; (try clear hb); (try clear hb2); (try clear hk); (try clear hi); (try clear ho0)))
                      go_ret
                      exact ⟨by first | rfl | (simp [errW_none, errW_some] <;> rfl) | (simp [*, errW_none, errW_some] <;> rfl), by repeat (first | (with_reducible first | exact HB.out | apply below_alloc | apply pw_below_drewN | apply below_drew1) | exact HB.out)⟩
                  · rw [if_neg c34] at H
                    have c34b0 : (t115 == 0) = false := beq_eq_false_iff_ne.mpr c34
                    have c34b1 : (t115 != 0) = true := bne_iff_ne.mpr c34
                    by_cases c49 : t101 = true
                    · subst c49
                      have H1 : (some (t114 == 0)) = some r := by rw [if_pos rfl] at H; exact H
                      clear H
                      have H := H1
                      clear H1
                      obtain rfl := Option.some.inj H
                      go_wp2_with (first | ((with_reducible refine gate_callee (f := 19) rfl ?_); refine goesL_ (some 86) rfl rfl Tryd.func19 (by kernel_rfl) rfl #[.int .u8 a2, .slice A3 l3.length c3] rfl (by (try simp only [List.map_toArray, List.map_cons, List.map_nil]); first | done | rfl | (simp only [List.length_drop, List.length_take]; rfl)) ?_; (with_reducible refine (texts_Time.calls a2 _ _ l3 t114 t115 _ ?side1 ?side2 A33.out).mono ?_); (case side1 => repeat (first | exact (Kd.C_below HR3.out HB.out) | (with_reducible refine Kd.C_alloc ?_ _) | (with_reducible refine Kd.C_drewN ?_ _) | (with_reducible refine Kd.C_drew ?_))); (case side2 => exact HC3.out); rintro e w50 ⟨rfl, hb⟩; refine ⟨_, rfl, ?_⟩; have n0_ := Aside0.mk (below_step (by repeat (first | (with_reducible first | exact HB.out | apply below_alloc | apply pw_below_drewN | apply below_drew1) | exact HB.out)) hb); clear HB; have HB := n0_; clear n0_; (try clear hb); (try clear hb2); (try clear hk); (try clear hi)))
                      go_ret
                      exact ⟨by first | rfl | (simp [errW_none, errW_some] <;> rfl) | (simp [*, errW_none, errW_some] <;> rfl), by repeat (first | (with_reducible first | exact HB.out | apply below_alloc | apply pw_below_drewN | apply below_drew1) | exact HB.out)⟩
                    · replace c49 := Bool.eq_false_iff.mpr c49
                      subst c49
                      have H1 : (some false) = some r := by rw [if_neg (show ¬ (false = true) by decide)] at H; exact H
                      clear H
                      have H := H1
                      clear H1
                      obtain rfl := Option.some.inj H
                      go_wp2_with (first | ((with_reducible refine gate_callee (f := 19) rfl ?_); refine goesL_ (some 86) rfl rfl Tryd.func19 (by kernel_rfl) rfl #[.int .u8 a2, .slice A3 l3.length c3] rfl (by (try simp only [List.map_toArray, List.map_cons, List.map_nil]); first | done | rfl | (simp only [List.length_drop, List.length_take]; rfl)) ?_; (with_reducible refine (texts_Time.calls a2 _ _ l3 t114 t115 _ ?side1 ?side2 A33.out).mono ?_); (case side1 => repeat (first | exact (Kd.C_below HR3.out HB.out) | (with_reducible refine Kd.C_alloc ?_ _) | (with_reducible refine Kd.C_drewN ?_ _) | (with_reducible refine Kd.C_drew ?_))); (case side2 => exact HC3.out); rintro e w51 ⟨rfl, hb⟩; refine ⟨_, rfl, ?_⟩; have n0_ := Aside0.mk (below_step (by repeat (first | (with_reducible first | exact HB.out | apply below_alloc | apply pw_below_drewN | apply below_drew1) | exact HB.out)) hb); clear HB; have HB := n0_; clear n0_; (try clear hb); (try clear hb2); (try clear hk); (try clear hi)))
                      go_ret
                      exact ⟨by first | rfl | (simp [errW_none, errW_some] <;> rfl) | (simp [*, errW_none, errW_some] <;> rfl), by repeat (first | (with_reducible first | exact HB.out | apply below_alloc | apply pw_below_drewN | apply below_drew1) | exact HB.out)⟩

end Go.Proofs.YtgpghjmoapffcaaDoor.XB
