-- printed by wip/xprint.py (a scratch copy of the kit's print, with contracts by hand)
import Derived.Test.YtgpghjmoapffcaaDoorXY0
namespace Go.Proofs.YtgpghjmoapffcaaDoor.XY
open Go.RowKit Go.Proofs.YtgpghjmoapffcaaDoorW.PrintWords Go.Proofs.YtgpghjmoapffcaaDoorW.PrintLast Go.Proofs.YtgpghjmoapffcaaDoorW.PrintMore
attribute [local go_sem] max2_int min2_int max_two min_two max_three min_three max_four min_four   -- for this text's walks alone
set_option linter.unusedVariables false
set_option linter.unusedSimpArgs false

/-! ### texts_Right: function 13 (by hand) -/
def texts_Right.f (a0 : Int) (l1 : List Int) : Option (Bool) := if a0 = 22 then some (Rt.allp Rt.ia (strOfNums l1) 0) else if a0 = 27 then some (Rt.allp Rt.ge (strOfNums l1) 0) else none
theorem texts_Right.calls (a0 : Int) (A1 : Option Addr) (c1 : Nat) (l1 : List Int) (r : Bool) (w : World) (hr1 : Kd.C (Kd.int .u8) w A1 l1.length l1) (hc1 : l1.length ≤ c1) (h : texts_Right.f a0 l1 = some r) :
    Calls Tryd.prog 13 #[.int .u8 a0, .slice A1 l1.length c1] w fun e w' => e = .returned (.bool r) ∧ Below w.heap.size w w' := by
  unfold texts_Right.f at h
  split at h
  · rename_i h22
    subst h22
    cases h
    exact Rt.walk22 A1 c1 l1 w hr1
  · split at h
    · rename_i h27
      subst h27
      cases h
      exact Rt.walk27 A1 c1 l1 w hr1
    · cases h

/-! ### texts_Prep: function 15 (by hand) -/
def texts_Prep.f (a0 : ByteArray) : Option ByteArray := if a0.size ≤ 8796093022208 then some ⟨(Tx.prep a0.data.toList).toArray⟩ else none
theorem texts_Prep.calls (a0 : ByteArray) (r : ByteArray) (w : World) (h : texts_Prep.f a0 = some r) :
    Calls Tryd.prog 15 #[.string a0] w fun e w' => e = .returned (.string r) ∧ Below w.heap.size w w' := by
  unfold texts_Prep.f at h
  split at h
  · rename_i hs
    cases h
    exact prep_any a0 w hs
  · cases h

/-! ### texts_civil: function 36 (by hand) -/
def texts_civil.f (a0 : Int) : Option (Int × Int × Int) := if 0 ≤ a0 + 719468 ∧ a0 + 719468 ≤ 4000000 then some (Civ.civ (a0 + 719468)) else none
theorem texts_civil.calls (a0 : Int) (r1 : Int) (r2 : Int) (r3 : Int) (w : World) (h : texts_civil.f a0 = some (r1, r2, r3)) :
    Calls Tryd.prog 36 #[.int .i64 a0] w fun e w' => e = .returned (.tuple #[.int .i64 r1, .int .i64 r2, .int .i64 r3]) ∧ Drawn0 w w' := by
  unfold texts_civil.f at h
  split at h
  · rename_i hs
    have h2 := Option.some.inj h
    have hw := Civ.walk a0 w hs.1 hs.2
    rw [h2] at hw
    exact hw
  · cases h

/-! ### texts_PutTime: function 17 (by hand) -/
def texts_PutTime.f (a0 : Int) : Option (Int × List Int × Int) :=
  if a0 < (-631152000) ∨ 253402300799 < a0 then some (0, [], 32)
  else (texts_civil.f (wrap64 ((wrap64 (Int.tdiv (wrap64 (a0 + 631152000)) 86400)) - 7305))).bind fun q =>
    some (if q.1 < 2050 then 23 else 24, if q.1 < 2050 then (PutT.out q.1 q.2.1 q.2.2 (wrap64 (a0 + 631152000))).drop 2 else PutT.out q.1 q.2.1 q.2.2 (wrap64 (a0 + 631152000)), 0)
set_option maxHeartbeats 2000000 in
set_option maxRecDepth 1000000 in
theorem texts_PutTime.calls (a0 : Int) (r1 : Int) (r2 : List Int) (r3 : Int) (w : World) (h : texts_PutTime.f a0 = some (r1, r2, r3)) :
    Calls Tryd.prog 17 #[.int .i64 a0] w fun e w' => ∃ v1_ : Value, e = .returned (.tuple #[.int .u8 r1, v1_, .int .i64 r3]) ∧ Kd.V (Kd.int .u8) 5 w' w.heap.size (fun k_ => w.heap.size ≤ k_) v1_ r2 ∧ Below w.heap.size w w' := by
  unfold texts_PutTime.f at h
  by_cases c : a0 < (-631152000) ∨ 253402300799 < a0
  · rw [if_pos c] at h
    cases h
    by_cases c1 : a0 < (-631152000)
    · have d1 : decide (a0 < (-631152000)) = true := decide_eq_true c1
      clear c1 c
      go_enter Tryd.func17, Tryd.ntmps17
      go_wp2
      go_ret3
      exact ⟨.slice none 0 0, rfl, Kd.V_nil _ _ _ _ _, by repeat (first | exact Below.refl _ _ | apply below_drew1 | apply pw_below_drewN)⟩
    · have d1 : decide (a0 < (-631152000)) = false := decide_eq_false c1
      have d2 : decide (253402300799 < a0) = true := decide_eq_true (by omega)
      clear c1 c
      go_enter Tryd.func17, Tryd.ntmps17
      go_wp2
      go_ret3
      exact ⟨.slice none 0 0, rfl, Kd.V_nil _ _ _ _ _, by repeat (first | exact Below.refl _ _ | apply below_drew1 | apply pw_below_drewN)⟩
  · rw [if_neg c] at h
    obtain ⟨⟨y, m, d⟩, hc, h⟩ := Option.bind_eq_some_iff.mp h
    simp only [Option.some.injEq, Prod.mk.injEq] at h
    obtain ⟨rfl, rfl, rfl⟩ := h
    exact PutT.walk a0 y m d w (fun h => c (.inl h)) (fun h => c (.inr h)) (fun x W hx => texts_civil.calls x y m d W (hx ▸ hc))

/-! ### warderlaw03_head: function 12 (by hand) -/
def warderlaw03_head.f  : Option (Bool) := some true
theorem warderlaw03_head.put0 : texts_PutTime.f 0 = some (23, [55, 48, 48, 49, 48, 49, 48, 48, 48, 48, 48, 48, 90], 0) := by kernel_rfl
theorem warderlaw03_head.prep0 : texts_Prep.f (⟨#[32, 65, 32, 32, 98, 32]⟩ : ByteArray) = some ⟨#[97, 32, 98]⟩ := by kernel_rfl
theorem warderlaw03_head.right0 : texts_Right.f 22 [97] = some true := by kernel_rfl
theorem warderlaw03_head.str0 : strOfNums [55, 48, 48, 49, 48, 49, 48, 48, 48, 48, 48, 48, 90] = ⟨#[55, 48, 48, 49, 48, 49, 48, 48, 48, 48, 48, 48, 90]⟩ := by kernel_rfl
theorem warderlaw03_head.lit (W : World) : Kd.C (Kd.int .u8) (W.alloc (.cells #[.int .u8 97] 5 (1, 2))) (some ⟨W.heap.size, 0, none⟩) 1 [97] :=
  Kd.C_of_reads (enc := fun n => Value.int .u8 n) (d := (0 : Int)) (h1 := fun _ => rfl) ⟨rfl, by decide, fun _ => ⟨_, rfl, fun j hj => by
    obtain rfl : j = 0 := by omega
    show (W.alloc (.cells #[.int .u8 97] 5 (1, 2))).cell? ⟨W.heap.size, 0, none⟩ = _
    have h := heap_alloc_new W (.cells #[.int .u8 97] 5 (1, 2))
    unfold World.cell?
    rw [h]
    rfl⟩⟩
set_option maxHeartbeats 4000000 in
set_option maxRecDepth 100000 in
theorem warderlaw03_head.calls  (r : Bool) (w : World) (h : warderlaw03_head.f  = some r) :
    Calls Tryd.prog 12 #[] w fun e w' => e = .returned (.bool r) ∧ Below w.heap.size w w' := by
  cases h
  go_enter Tryd.func12, Tryd.ntmps12
  go_wp2_with (go_at_call 17; refine (texts_PutTime.calls _ _ _ _ _ warderlaw03_head.put0).mono ?_)
  rintro e w1 ⟨v1, rfl, hV, hb1⟩
  obtain ⟨A, c, rfl⟩ := Kd.V_slice hV
  have hcv : (convert 22 9 (.slice A 13 c)).run Tryd.prog w1 = .ok (.string (strOfNums [55, 48, 48, 49, 48, 49, 48, 48, 48, 48, 48, 48, 90])) w1 := Kd.C_string (P := Tryd.prog) (c := c) Tryd.underlying22 Tryd.underlying5 Tryd.underlying9 (Kd.V_reads' hV).2.2
  rw [warderlaw03_head.str0] at hcv
  have kc := fun (w : World) (C : Array Value) (n c : Nat) => Lib.run_convert_bytes_const (P := Tryd.prog) w 22 5 C n c Tryd.underlying22 Tryd.underlying5
  have HB1 := Aside0.mk hb1
  clear hV hb1
  go_wp2_with (go_at_call 15; refine (texts_Prep.calls _ _ _ warderlaw03_head.prep0).mono ?_)
  rintro e w2 ⟨rfl, hb2⟩
  have HB2 := Aside0.mk hb2
  clear hb2
  go_wp2_with (go_at_call 13; refine (texts_Right.calls 22 _ _ [97] _ _ (warderlaw03_head.lit _) (by decide) warderlaw03_head.right0).mono ?_)
  rintro e w3 ⟨rfl, hb3⟩
  go_wp2
  go_ret
  refine ⟨rfl, ?_⟩
  exact below_step (below_alloc (below_step HB1.out HB2.out) _) hb3

/-! ### warderlaw03_TextsYears: function 9 -/
def warderlaw03_TextsYears.l0 : Nat → Bool → Int → List Int → Bool → Int → Option (Bool)
  | 0, _, _, _, _, _ => none
  | k + 1, x3, x4, x5, x7, x8 => if (wrap64 (x8 + 1)) < (x5.length : Int) then (if 0 ≤ x8 then (if x8 < (x5.length : Int) then (if (rd x5 x8) < 48 then (some false) else (if (rd x5 x8) > 57 then (some false) else (warderlaw03_TextsYears.l0 k x3 x4 x5 x7 (wrap64 (x8 + 1))))) else (none)) else (none)) else (if x3 = true then (if 0 ≤ (wrap64 ((x5.length : Int) - 1)) then (if (wrap64 ((x5.length : Int) - 1)) < (x5.length : Int) then (if (rd x5 (wrap64 ((x5.length : Int) - 1))) = 90 then (if x7 = true then (if x4 = 23 then (if (x5.length : Int) = 13 then (some true) else (some false)) else (some false)) else (if x4 = 24 then (some ((x5.length : Int) == 15)) else (some false))) else (some false)) else (none)) else (none)) else (some false))
def warderlaw03_TextsYears.f (k : Nat) (a0 : Int) : Option (Bool) := (warderlaw03_head.f).bind fun t101 => ((texts_PutTime.f a0).bind fun bt102 => (if bt102.2.2 = 0 then (warderlaw03_TextsYears.l0 k t101 bt102.1 bt102.2.1 (decide (a0 < 2524608000)) 0) else (if t101 = true then (if bt102.1 = 0 then (if (bt102.2.1.length : Int) = 0 then (if a0 < (-631152000) then (some true) else (some (decide (a0 > 253402300799)))) else (some false)) else (some false)) else (some false))))
theorem warderlaw03_TextsYears.mono_l : ∀ k, (∀ y0 y1 y2 y3 y4, LeO (warderlaw03_TextsYears.l0 k y0 y1 y2 y3 y4) (warderlaw03_TextsYears.l0 (k + 1) y0 y1 y2 y3 y4))
  | 0 => fun _ _ _ _ _ r h => by simp [warderlaw03_TextsYears.l0] at h
  | k + 1 => by
    have ih0 := warderlaw03_TextsYears.mono_l k
    · intro y0 y1 y2 y3 y4
      unfold warderlaw03_TextsYears.l0
      repeat' first
      | (with_reducible exact ih0 _ _ _ _ _)
      | (with_reducible exact LeO.refl _)
      | (with_reducible exact LeO.none _)
      | (with_reducible refine LeO.ite ?_ ?_)
      | (with_reducible refine LeO.bind ?_ (fun _ => ?_))
      | exact ih0 _ _ _ _ _
      | exact LeO.none _
      | refine LeO.ite ?_ ?_
      | refine LeO.bind ?_ (fun _ => ?_)
theorem warderlaw03_TextsYears.mono : ∀ a0 k, LeO (warderlaw03_TextsYears.f k a0) (warderlaw03_TextsYears.f (k + 1) a0) := by
  intro a0 k
  have ih0 := warderlaw03_TextsYears.mono_l k
  unfold warderlaw03_TextsYears.f
  repeat' first
      | (with_reducible exact ih0 _ _ _ _ _)
      | (with_reducible exact LeO.refl _)
      | (with_reducible exact LeO.none _)
      | (with_reducible refine LeO.ite ?_ ?_)
      | (with_reducible refine LeO.bind ?_ (fun _ => ?_))
      | exact ih0 _ _ _ _ _
      | exact LeO.none _
      | refine LeO.ite ?_ ?_
      | refine LeO.bind ?_ (fun _ => ?_)
set_option maxHeartbeats 8000000 in
set_option maxRecDepth 100000 in
theorem warderlaw03_TextsYears.calls (k : Nat) (a0 : Int) (r : Bool) (w : World) (h : warderlaw03_TextsYears.f k a0 = some r) :
    Calls Tryd.prog 9 #[.int .i64 a0] w fun e w' => e = .returned (.bool r) ∧ Below w.heap.size w w' := by
  have HB := Aside0.mk (Below.refl w.heap.size w)
  have H : ((warderlaw03_head.f).bind fun t101 => ((texts_PutTime.f a0).bind fun bt102 => (if bt102.2.2 = 0 then (warderlaw03_TextsYears.l0 k t101 bt102.1 bt102.2.1 (decide (a0 < 2524608000)) 0) else (if t101 = true then (if bt102.1 = 0 then (if (bt102.2.1.length : Int) = 0 then (if a0 < (-631152000) then (some true) else (some (decide (a0 > 253402300799)))) else (some false)) else (some false)) else (some false))))) = some r := h
  clear h
  replace H := Option.bind_eq_some_iff.mp H
  obtain ⟨t101, A20, H⟩ := H
  replace H : ((texts_PutTime.f a0).bind fun bt102 => (if bt102.2.2 = 0 then (warderlaw03_TextsYears.l0 k t101 bt102.1 bt102.2.1 (decide (a0 < 2524608000)) 0) else (if t101 = true then (if bt102.1 = 0 then (if (bt102.2.1.length : Int) = 0 then (if a0 < (-631152000) then (some true) else (some (decide (a0 > 253402300799)))) else (some false)) else (some false)) else (some false)))) = some r := H
  have A2 := Aside0.mk A20
  clear A20
  replace H := Option.bind_eq_some_iff.mp H
  obtain ⟨⟨t102, t103, t106⟩, A30, H⟩ := H
  replace H : (if t106 = 0 then (warderlaw03_TextsYears.l0 k t101 t102 t103 (decide (a0 < 2524608000)) 0) else (if t101 = true then (if t102 = 0 then (if (t103.length : Int) = 0 then (if a0 < (-631152000) then (some true) else (some (decide (a0 > 253402300799)))) else (some false)) else (some false)) else (some false))) = some r := H
  have A3 := Aside0.mk A30
  clear A30
  by_cases c4 : t106 = 0
  · rw [if_pos c4] at H
    have c4b0 : (t106 == 0) = true := beq_iff_eq.mpr c4
    have c4b1 : (t106 != 0) = false := bne_eq_false_iff_eq.mpr c4
    clear c4
    have H' := Aside0.mk H
    clear H
    go_enter Tryd.func9, Tryd.ntmps9
    go_wp2_with (first | ((with_reducible refine gate_callee (f := 12) rfl ?_); refine goesL_ (some 9) rfl rfl Tryd.func12 (by kernel_rfl) rfl #[] rfl (by (try simp only [List.map_toArray, List.map_cons, List.map_nil]); first | done | rfl | (simp only [List.length_drop, List.length_take]; rfl)) ?_; (with_reducible refine (warderlaw03_head.calls  t101 _ A2.out).mono ?_); rintro e w5 ⟨rfl, hb⟩; refine ⟨_, rfl, ?_⟩; have n0_ := Aside0.mk (below_step (by repeat (first | (with_reducible first | exact HB.out | apply below_alloc | apply pw_below_drewN | apply below_drew1) | exact HB.out)) hb); clear HB; have HB := n0_; clear n0_; (try clear hb); (try clear hb2); (try clear hk); (try clear hi)) | ((with_reducible refine gate_callee (f := 17) rfl ?_); refine goesL_ (some 12) rfl rfl Tryd.func17 (by kernel_rfl) rfl #[.int .i64 a0] rfl (by (try simp only [List.map_toArray, List.map_cons, List.map_nil]); first | done | rfl | (simp only [List.length_drop, List.length_take]; rfl)) ?_; (with_reducible refine (texts_PutTime.calls a0 t102 t103 t106 _ A3.out).mono ?_); rintro e w6 ⟨v104, rfl, ho0, hb⟩; refine ⟨_, rfl, ?_⟩; have n0_ := Aside0.mk (Kd.V_lower (Kd.V_mono (ok' := fun k_ => True) ho0 (fun k_ hk_ => trivial)) (below_size (by repeat (first | (with_reducible first | exact HB.out | apply below_alloc | apply pw_below_drewN | apply below_drew1) | exact HB.out)))); have n1_ := Aside0.mk (below_step (by repeat (first | (with_reducible first | exact HB.out | apply below_alloc | apply pw_below_drewN | apply below_drew1) | exact HB.out)) hb); clear HB; have HO105 := n0_; have HB := n1_; clear n0_ n1_; (try clear hb); (try clear hb2); (try clear hk); (try clear hi); (try clear ho0)))
    go_loopg [8] k (fun kq v8 w' => ∃ (x8_1 : Int), v8 = .int .i64 x8_1 ∧ Aside0 (warderlaw03_TextsYears.l0 kq t101 t102 t103 (decide (a0 < 2524608000)) x8_1 = some r) ∧ Aside0 (kq ≤ k) ∧ Aside0 (Kd.V (Kd.int .u8) 5 w' w.heap.size (fun _ => True) v104 t103) ∧ Aside0 (Below w.heap.size w w'))
    case atStart => exact ⟨(0), (by first | rfl | (simp; done) | (simp [*]; done)), H', ⟨Nat.le_refl _⟩, ⟨by (with_reducible repeat (first | apply Kd.V_alloc | apply Kd.V_drewN | apply Kd.V_drew)); exact HO105.out⟩, ⟨by repeat (first | (with_reducible first | exact HB.out | apply below_alloc | apply pw_below_drewN | apply below_drew1) | exact HB.out)⟩⟩
    case round =>
      clear H'
      try clear c1
      try clear p2
      try clear c4
      try clear c4b0
      try clear c4b1
      obtain ⟨x8_1, rfl, HA, HK1, HO_5, HB⟩ := hrel
      cases gk with
      | zero => exact absurd HA.out (by simp [warderlaw03_TextsYears.l0])
      | succ k1 =>
        have H := HA.out
        clear HA
        simp only [warderlaw03_TextsYears.l0] at H
        by_cases c7 : (wrap64 (x8_1 + 1)) < (t103.length : Int)
        · rw [if_pos c7] at H
          have c7b0 : decide ((wrap64 (x8_1 + 1)) < (t103.length : Int)) = true := decide_eq_true c7
          clear c7
          by_cases c8 : 0 ≤ x8_1
          · rw [if_pos c8] at H
            have c8b0 : decide (0 ≤ x8_1) = true := decide_eq_true c8
            clear c8
            by_cases c9 : x8_1 < (t103.length : Int)
            · rw [if_pos c9] at H
              have c9b0 : decide (x8_1 < (t103.length : Int)) = true := decide_eq_true c9
              clear c9
              by_cases c10 : (rd t103 x8_1) < 48
              · rw [if_pos c10] at H
                have c10b0 : decide ((rd t103 x8_1) < 48) = true := decide_eq_true c10
                clear c10
                obtain rfl := Option.some.inj H
                obtain ⟨Ao11, co11, eo11⟩ := Kd.V_slice HO_5.out
                subst eo11
                have p107 : 0 ≤ (x8_1 : Int) := of_decide_eq_true (by first | (with_reducible assumption) | assumption)
                have q107 : x8_1 < (t103.length : Int) := of_decide_eq_true (by first | (with_reducible assumption) | assumption)
                obtain ⟨ad107, e107, hx107_0⟩ := Kd.at_int (Kd.V_reads' HO_5.out).2.2 x8_1 p107 q107
                cases e107
                replace p107 := eq_true p107
                replace q107 := eq_true q107
                go_wp2
                go_ret
                exact ⟨by first | rfl | (simp [errW_none, errW_some] <;> rfl) | (simp [*, errW_none, errW_some] <;> rfl), by repeat (first | (with_reducible first | exact HB.out | apply below_alloc | apply pw_below_drewN | apply below_drew1) | exact HB.out)⟩
              · rw [if_neg c10] at H
                have c10b0 : decide ((rd t103 x8_1) < 48) = false := decide_eq_false c10
                clear c10
                by_cases c12 : (rd t103 x8_1) > 57
                · rw [if_pos c12] at H
                  have c12b0 : decide (57 < (rd t103 x8_1)) = true := decide_eq_true c12
                  clear c12
                  obtain rfl := Option.some.inj H
                  obtain ⟨Ao13, co13, eo13⟩ := Kd.V_slice HO_5.out
                  subst eo13
                  have p107 : 0 ≤ (x8_1 : Int) := of_decide_eq_true (by first | (with_reducible assumption) | assumption)
                  have q107 : x8_1 < (t103.length : Int) := of_decide_eq_true (by first | (with_reducible assumption) | assumption)
                  obtain ⟨ad107, e107, hx107_0⟩ := Kd.at_int (Kd.V_reads' HO_5.out).2.2 x8_1 p107 q107
                  cases e107
                  replace p107 := eq_true p107
                  replace q107 := eq_true q107
                  have p108 : 0 ≤ (x8_1 : Int) := of_decide_eq_true (by first | (with_reducible assumption) | assumption)
                  have q108 : x8_1 < (t103.length : Int) := of_decide_eq_true (by first | (with_reducible assumption) | assumption)
                  obtain ⟨ad108, e108, hx108_0⟩ := Kd.at_int (Kd.V_reads' HO_5.out).2.2 x8_1 p108 q108
                  obtain rfl : ad107 = ad108 := (by injection e108)
                  replace p108 := eq_true p108
                  replace q108 := eq_true q108
                  go_wp2
                  go_ret
                  exact ⟨by first | rfl | (simp [errW_none, errW_some] <;> rfl) | (simp [*, errW_none, errW_some] <;> rfl), by repeat (first | (with_reducible first | exact HB.out | apply below_alloc | apply pw_below_drewN | apply below_drew1) | exact HB.out)⟩
                · rw [if_neg c12] at H
                  have c12b0 : decide (57 < (rd t103 x8_1)) = false := decide_eq_false c12
                  clear c12
                  have H' := Aside0.mk H
                  clear H
                  obtain ⟨Ao14, co14, eo14⟩ := Kd.V_slice HO_5.out
                  subst eo14
                  have p107 : 0 ≤ (x8_1 : Int) := of_decide_eq_true (by first | (with_reducible assumption) | assumption)
                  have q107 : x8_1 < (t103.length : Int) := of_decide_eq_true (by first | (with_reducible assumption) | assumption)
                  obtain ⟨ad107, e107, hx107_0⟩ := Kd.at_int (Kd.V_reads' HO_5.out).2.2 x8_1 p107 q107
                  cases e107
                  replace p107 := eq_true p107
                  replace q107 := eq_true q107
                  have p108 : 0 ≤ (x8_1 : Int) := of_decide_eq_true (by first | (with_reducible assumption) | assumption)
                  have q108 : x8_1 < (t103.length : Int) := of_decide_eq_true (by first | (with_reducible assumption) | assumption)
                  obtain ⟨ad108, e108, hx108_0⟩ := Kd.at_int (Kd.V_reads' HO_5.out).2.2 x8_1 p108 q108
                  obtain rfl : ad107 = ad108 := (by injection e108)
                  replace p108 := eq_true p108
                  replace q108 := eq_true q108
                  go_wp2
                  go_roundg k1
                  case measure => have := HK1.out; omega
                  case rel => exact ⟨(wrap64 (x8_1 + 1)), (by first | rfl | (simp; done) | (simp [*]; done)), H', ⟨by have := HK1.out; omega⟩, ⟨by (with_reducible repeat (first | apply Kd.V_alloc | apply Kd.V_drewN | apply Kd.V_drew)); exact HO_5.out⟩, ⟨by repeat (first | (with_reducible first | exact HB.out | apply below_alloc | apply pw_below_drewN | apply below_drew1) | exact HB.out)⟩⟩
            · rw [if_neg c9] at H
              exact absurd H (by simp)
          · rw [if_neg c8] at H
            exact absurd H (by simp)
        · rw [if_neg c7] at H
          have c7b0 : decide ((wrap64 (x8_1 + 1)) < (t103.length : Int)) = false := decide_eq_false c7
          clear c7
          by_cases c15 : t101 = true
          · subst c15
            have H1 : (if 0 ≤ (wrap64 ((t103.length : Int) - 1)) then (if (wrap64 ((t103.length : Int) - 1)) < (t103.length : Int) then (if (rd t103 (wrap64 ((t103.length : Int) - 1))) = 90 then (if (decide (a0 < 2524608000)) = true then (if t102 = 23 then (if (t103.length : Int) = 13 then (some true) else (some false)) else (some false)) else (if t102 = 24 then (some ((t103.length : Int) == 15)) else (some false))) else (some false)) else (none)) else (none)) = some r := by rw [if_pos rfl] at H; exact H
            clear H
            have H := H1
            clear H1
            obtain ⟨ji16, hji16⟩ : ∃ j_ : Int, (wrap64 ((t103.length : Int) - 1)) = j_ := ⟨_, rfl⟩
            replace H : (if 0 ≤ (ji16) then (if (ji16) < (t103.length : Int) then (if (rd t103 (ji16)) = 90 then (if (decide (a0 < 2524608000)) = true then (if t102 = 23 then (if (t103.length : Int) = 13 then (some true) else (some false)) else (some false)) else (if t102 = 24 then (some ((t103.length : Int) == 15)) else (some false))) else (some false)) else (none)) else (none)) = some r := by first | (rw [hji16] at H; exact H) | (simp only [hji16] at H ⊢; exact H)
            have hji16w : (IntKind.i64.wrap ((t103.length : Int) - 1)) = ji16 := (i64_w _).trans hji16
            by_cases c17 : 0 ≤ (ji16)
            · rw [if_pos c17] at H
              have c17b0 : decide (0 ≤ (ji16)) = true := decide_eq_true c17
              clear c17
              by_cases c18 : (ji16) < (t103.length : Int)
              · rw [if_pos c18] at H
                have c18b0 : decide ((ji16) < (t103.length : Int)) = true := decide_eq_true c18
                clear c18
                by_cases c19 : (rd t103 (ji16)) = 90
                · rw [if_pos c19] at H
                  have c19b0 : ((rd t103 (ji16)) == 90) = true := beq_iff_eq.mpr c19
                  have c19b1 : ((rd t103 (ji16)) != 90) = false := bne_eq_false_iff_eq.mpr c19
                  clear c19
                  by_cases c20 : (decide (a0 < 2524608000)) = true
                  · rw [if_pos c20] at H
                    have c20b0 : (decide (a0 < 2524608000)) = true := c20
                    have c20p_ := of_decide_eq_true c20b0
                    clear c20
                    by_cases c21 : t102 = 23
                    · rw [if_pos c21] at H
                      have c21b0 : (t102 == 23) = true := beq_iff_eq.mpr c21
                      have c21b1 : (t102 != 23) = false := bne_eq_false_iff_eq.mpr c21
                      clear c21
                      by_cases c22 : (t103.length : Int) = 13
                      · rw [if_pos c22] at H
                        have c22b0 : ((t103.length : Int) == 13) = true := beq_iff_eq.mpr c22
                        have c22b1 : ((t103.length : Int) != 13) = false := bne_eq_false_iff_eq.mpr c22
                        clear c22
                        obtain rfl := Option.some.inj H
                        obtain ⟨Ao23, co23, eo23⟩ := Kd.V_slice HO_5.out
                        subst eo23
                        have p109 : 0 ≤ ((ji16) : Int) := of_decide_eq_true (by first | (with_reducible assumption) | assumption)
                        have q109 : (ji16) < (t103.length : Int) := of_decide_eq_true (by first | (with_reducible assumption) | assumption)
                        obtain ⟨ad109, e109, hx109_0⟩ := Kd.at_int (Kd.V_reads' HO_5.out).2.2 (ji16) p109 q109
                        cases e109
                        replace p109 := eq_true p109
                        replace q109 := eq_true q109
                        go_wp2
                        go_ret
                        exact ⟨by first | rfl | (simp [errW_none, errW_some] <;> rfl) | (simp only [← hji16]; first | rfl | (simp [errW_none, errW_some] <;> rfl)) | (simp [*, errW_none, errW_some] <;> rfl), by repeat (first | (with_reducible first | exact HB.out | apply below_alloc | apply pw_below_drewN | apply below_drew1) | exact HB.out)⟩
                      · rw [if_neg c22] at H
                        have c22b0 : ((t103.length : Int) == 13) = false := beq_eq_false_iff_ne.mpr c22
                        have c22b1 : ((t103.length : Int) != 13) = true := bne_iff_ne.mpr c22
                        obtain rfl := Option.some.inj H
                        obtain ⟨Ao24, co24, eo24⟩ := Kd.V_slice HO_5.out
                        subst eo24
                        have p109 : 0 ≤ ((ji16) : Int) := of_decide_eq_true (by first | (with_reducible assumption) | assumption)
                        have q109 : (ji16) < (t103.length : Int) := of_decide_eq_true (by first | (with_reducible assumption) | assumption)
                        obtain ⟨ad109, e109, hx109_0⟩ := Kd.at_int (Kd.V_reads' HO_5.out).2.2 (ji16) p109 q109
                        cases e109
                        replace p109 := eq_true p109
                        replace q109 := eq_true q109
                        go_wp2
                        go_ret
                        exact ⟨by first | rfl | (simp [errW_none, errW_some] <;> rfl) | (simp only [← hji16]; first | rfl | (simp [errW_none, errW_some] <;> rfl)) | (simp [*, errW_none, errW_some] <;> rfl), by repeat (first | (with_reducible first | exact HB.out | apply below_alloc | apply pw_below_drewN | apply below_drew1) | exact HB.out)⟩
                    · rw [if_neg c21] at H
                      have c21b0 : (t102 == 23) = false := beq_eq_false_iff_ne.mpr c21
                      have c21b1 : (t102 != 23) = true := bne_iff_ne.mpr c21
                      obtain rfl := Option.some.inj H
                      obtain ⟨Ao25, co25, eo25⟩ := Kd.V_slice HO_5.out
                      subst eo25
                      have p109 : 0 ≤ ((ji16) : Int) := of_decide_eq_true (by first | (with_reducible assumption) | assumption)
                      have q109 : (ji16) < (t103.length : Int) := of_decide_eq_true (by first | (with_reducible assumption) | assumption)
                      obtain ⟨ad109, e109, hx109_0⟩ := Kd.at_int (Kd.V_reads' HO_5.out).2.2 (ji16) p109 q109
                      cases e109
                      replace p109 := eq_true p109
                      replace q109 := eq_true q109
                      go_wp2
                      go_ret
                      exact ⟨by first | rfl | (simp [errW_none, errW_some] <;> rfl) | (simp only [← hji16]; first | rfl | (simp [errW_none, errW_some] <;> rfl)) | (simp [*, errW_none, errW_some] <;> rfl), by repeat (first | (with_reducible first | exact HB.out | apply below_alloc | apply pw_below_drewN | apply below_drew1) | exact HB.out)⟩
                  · rw [if_neg c20] at H
                    have c20b0 : (decide (a0 < 2524608000)) = false := by simpa using c20
                    have c20p_ := of_decide_eq_false c20b0
                    clear c20
                    by_cases c26 : t102 = 24
                    · rw [if_pos c26] at H
                      have c26b0 : (t102 == 24) = true := beq_iff_eq.mpr c26
                      have c26b1 : (t102 != 24) = false := bne_eq_false_iff_eq.mpr c26
                      clear c26
                      obtain rfl := Option.some.inj H
                      obtain ⟨Ao27, co27, eo27⟩ := Kd.V_slice HO_5.out
                      subst eo27
                      have p109 : 0 ≤ ((ji16) : Int) := of_decide_eq_true (by first | (with_reducible assumption) | assumption)
                      have q109 : (ji16) < (t103.length : Int) := of_decide_eq_true (by first | (with_reducible assumption) | assumption)
                      obtain ⟨ad109, e109, hx109_0⟩ := Kd.at_int (Kd.V_reads' HO_5.out).2.2 (ji16) p109 q109
                      cases e109
                      replace p109 := eq_true p109
                      replace q109 := eq_true q109
                      go_wp2
                      go_ret
                      exact ⟨by first | rfl | (simp [errW_none, errW_some] <;> rfl) | (simp only [← hji16]; first | rfl | (simp [errW_none, errW_some] <;> rfl)) | (simp [*, errW_none, errW_some] <;> rfl), by repeat (first | (with_reducible first | exact HB.out | apply below_alloc | apply pw_below_drewN | apply below_drew1) | exact HB.out)⟩
                    · rw [if_neg c26] at H
                      have c26b0 : (t102 == 24) = false := beq_eq_false_iff_ne.mpr c26
                      have c26b1 : (t102 != 24) = true := bne_iff_ne.mpr c26
                      obtain rfl := Option.some.inj H
                      obtain ⟨Ao28, co28, eo28⟩ := Kd.V_slice HO_5.out
                      subst eo28
                      have p109 : 0 ≤ ((ji16) : Int) := of_decide_eq_true (by first | (with_reducible assumption) | assumption)
                      have q109 : (ji16) < (t103.length : Int) := of_decide_eq_true (by first | (with_reducible assumption) | assumption)
                      obtain ⟨ad109, e109, hx109_0⟩ := Kd.at_int (Kd.V_reads' HO_5.out).2.2 (ji16) p109 q109
                      cases e109
                      replace p109 := eq_true p109
                      replace q109 := eq_true q109
                      go_wp2
                      go_ret
                      exact ⟨by first | rfl | (simp [errW_none, errW_some] <;> rfl) | (simp only [← hji16]; first | rfl | (simp [errW_none, errW_some] <;> rfl)) | (simp [*, errW_none, errW_some] <;> rfl), by repeat (first | (with_reducible first | exact HB.out | apply below_alloc | apply pw_below_drewN | apply below_drew1) | exact HB.out)⟩
                · rw [if_neg c19] at H
                  have c19b0 : ((rd t103 (ji16)) == 90) = false := beq_eq_false_iff_ne.mpr c19
                  have c19b1 : ((rd t103 (ji16)) != 90) = true := bne_iff_ne.mpr c19
                  obtain rfl := Option.some.inj H
                  obtain ⟨Ao29, co29, eo29⟩ := Kd.V_slice HO_5.out
                  subst eo29
                  have p109 : 0 ≤ ((ji16) : Int) := of_decide_eq_true (by first | (with_reducible assumption) | assumption)
                  have q109 : (ji16) < (t103.length : Int) := of_decide_eq_true (by first | (with_reducible assumption) | assumption)
                  obtain ⟨ad109, e109, hx109_0⟩ := Kd.at_int (Kd.V_reads' HO_5.out).2.2 (ji16) p109 q109
                  cases e109
                  replace p109 := eq_true p109
                  replace q109 := eq_true q109
                  go_wp2
                  go_ret
                  exact ⟨by first | rfl | (simp [errW_none, errW_some] <;> rfl) | (simp only [← hji16]; first | rfl | (simp [errW_none, errW_some] <;> rfl)) | (simp [*, errW_none, errW_some] <;> rfl), by repeat (first | (with_reducible first | exact HB.out | apply below_alloc | apply pw_below_drewN | apply below_drew1) | exact HB.out)⟩
              · rw [if_neg c18] at H
                exact absurd H (by simp)
            · rw [if_neg c17] at H
              exact absurd H (by simp)
          · replace c15 := Bool.eq_false_iff.mpr c15
            subst c15
            have H1 : (some false) = some r := by rw [if_neg (show ¬ (false = true) by decide)] at H; exact H
            clear H
            have H := H1
            clear H1
            obtain rfl := Option.some.inj H
            obtain ⟨Ao30, co30, eo30⟩ := Kd.V_slice HO_5.out
            subst eo30
            go_wp2
            go_ret
            exact ⟨by first | rfl | (simp [errW_none, errW_some] <;> rfl) | (simp [*, errW_none, errW_some] <;> rfl), by repeat (first | (with_reducible first | exact HB.out | apply below_alloc | apply pw_below_drewN | apply below_drew1) | exact HB.out)⟩
  · rw [if_neg c4] at H
    have c4b0 : (t106 == 0) = false := beq_eq_false_iff_ne.mpr c4
    have c4b1 : (t106 != 0) = true := bne_iff_ne.mpr c4
    by_cases c31 : t101 = true
    · subst c31
      have H1 : (if t102 = 0 then (if (t103.length : Int) = 0 then (if a0 < (-631152000) then (some true) else (some (decide (a0 > 253402300799)))) else (some false)) else (some false)) = some r := by rw [if_pos rfl] at H; exact H
      clear H
      have H := H1
      clear H1
      by_cases c32 : t102 = 0
      · rw [if_pos c32] at H
        have c32b0 : (t102 == 0) = true := beq_iff_eq.mpr c32
        have c32b1 : (t102 != 0) = false := bne_eq_false_iff_eq.mpr c32
        clear c32
        by_cases c33 : (t103.length : Int) = 0
        · rw [if_pos c33] at H
          have c33b0 : ((t103.length : Int) == 0) = true := beq_iff_eq.mpr c33
          have c33b1 : ((t103.length : Int) != 0) = false := bne_eq_false_iff_eq.mpr c33
          clear c33
          by_cases c34 : a0 < (-631152000)
          · rw [if_pos c34] at H
            have c34b0 : decide (a0 < (-631152000)) = true := decide_eq_true c34
            clear c34
            obtain rfl := Option.some.inj H
            go_enter Tryd.func9, Tryd.ntmps9
            go_wp2_with (first | ((with_reducible refine gate_callee (f := 12) rfl ?_); refine goesL_ (some 9) rfl rfl Tryd.func12 (by kernel_rfl) rfl #[] rfl (by (try simp only [List.map_toArray, List.map_cons, List.map_nil]); first | done | rfl | (simp only [List.length_drop, List.length_take]; rfl)) ?_; (with_reducible refine (warderlaw03_head.calls  true _ A2.out).mono ?_); rintro e w35 ⟨rfl, hb⟩; refine ⟨_, rfl, ?_⟩; have n0_ := Aside0.mk (below_step (by repeat (first | (with_reducible first | exact HB.out | apply below_alloc | apply pw_below_drewN | apply below_drew1) | exact HB.out)) hb); clear HB; have HB := n0_; clear n0_; (try clear hb); (try clear hb2); (try clear hk); (try clear hi)) | ((with_reducible refine gate_callee (f := 17) rfl ?_); refine goesL_ (some 12) rfl rfl Tryd.func17 (by kernel_rfl) rfl #[.int .i64 a0] rfl (by (try simp only [List.map_toArray, List.map_cons, List.map_nil]); first | done | rfl | (simp only [List.length_drop, List.length_take]; rfl)) ?_; (with_reducible refine (texts_PutTime.calls a0 t102 t103 t106 _ A3.out).mono ?_); rintro e w36 ⟨v104, rfl, ho0, hb⟩; refine ⟨_, rfl, ?_⟩; have n0_ := Aside0.mk (Kd.V_lower (Kd.V_mono (ok' := fun k_ => True) ho0 (fun k_ hk_ => trivial)) (below_size (by repeat (first | (with_reducible first | exact HB.out | apply below_alloc | apply pw_below_drewN | apply below_drew1) | exact HB.out)))); have n1_ := Aside0.mk (below_step (by repeat (first | (with_reducible first | exact HB.out | apply below_alloc | apply pw_below_drewN | apply below_drew1) | exact HB.out)) hb); clear HB; have HO105 := n0_; have HB := n1_; clear n0_ n1_; (try clear hb); (try clear hb2); (try clear hk); (try clear hi); (try clear ho0); obtain ⟨Ao37, co37, eo37⟩ := Kd.V_slice HO105.out; subst eo37))
            go_ret
            exact ⟨by first | rfl | (simp [errW_none, errW_some] <;> rfl) | (simp [*, errW_none, errW_some] <;> rfl), by repeat (first | (with_reducible first | exact HB.out | apply below_alloc | apply pw_below_drewN | apply below_drew1) | exact HB.out)⟩
          · rw [if_neg c34] at H
            have c34b0 : decide (a0 < (-631152000)) = false := decide_eq_false c34
            clear c34
            obtain rfl := Option.some.inj H
            go_enter Tryd.func9, Tryd.ntmps9
            go_wp2_with (first | ((with_reducible refine gate_callee (f := 12) rfl ?_); refine goesL_ (some 9) rfl rfl Tryd.func12 (by kernel_rfl) rfl #[] rfl (by (try simp only [List.map_toArray, List.map_cons, List.map_nil]); first | done | rfl | (simp only [List.length_drop, List.length_take]; rfl)) ?_; (with_reducible refine (warderlaw03_head.calls  true _ A2.out).mono ?_); rintro e w38 ⟨rfl, hb⟩; refine ⟨_, rfl, ?_⟩; have n0_ := Aside0.mk (below_step (by repeat (first | (with_reducible first | exact HB.out | apply below_alloc | apply pw_below_drewN | apply below_drew1) | exact HB.out)) hb); clear HB; have HB := n0_; clear n0_; (try clear hb); (try clear hb2); (try clear hk); (try clear hi)) | ((with_reducible refine gate_callee (f := 17) rfl ?_); refine goesL_ (some 12) rfl rfl Tryd.func17 (by kernel_rfl) rfl #[.int .i64 a0] rfl (by (try simp only [List.map_toArray, List.map_cons, List.map_nil]); first | done | rfl | (simp only [List.length_drop, List.length_take]; rfl)) ?_; (with_reducible refine (texts_PutTime.calls a0 t102 t103 t106 _ A3.out).mono ?_); rintro e w39 ⟨v104, rfl, ho0, hb⟩; refine ⟨_, rfl, ?_⟩; have n0_ := Aside0.mk (Kd.V_lower (Kd.V_mono (ok' := fun k_ => True) ho0 (fun k_ hk_ => trivial)) (below_size (by repeat (first | (with_reducible first | exact HB.out | apply below_alloc | apply pw_below_drewN | apply below_drew1) | exact HB.out)))); have n1_ := Aside0.mk (below_step (by repeat (first | (with_reducible first | exact HB.out | apply below_alloc | apply pw_below_drewN | apply below_drew1) | exact HB.out)) hb); clear HB; have HO105 := n0_; have HB := n1_; clear n0_ n1_; (try clear hb); (try clear hb2); (try clear hk); (try clear hi); (try clear ho0); obtain ⟨Ao40, co40, eo40⟩ := Kd.V_slice HO105.out; subst eo40))
            go_ret
            exact ⟨by first | rfl | (simp [errW_none, errW_some] <;> rfl) | (simp [*, errW_none, errW_some] <;> rfl), by repeat (first | (with_reducible first | exact HB.out | apply below_alloc | apply pw_below_drewN | apply below_drew1) | exact HB.out)⟩
        · rw [if_neg c33] at H
          have c33b0 : ((t103.length : Int) == 0) = false := beq_eq_false_iff_ne.mpr c33
          have c33b1 : ((t103.length : Int) != 0) = true := bne_iff_ne.mpr c33
          have c33b2 : ¬ (t103 = []) := fun h_ => c33 (by rw [h_]; rfl)
          obtain rfl := Option.some.inj H
          go_enter Tryd.func9, Tryd.ntmps9
          go_wp2_with (first | ((with_reducible refine gate_callee (f := 12) rfl ?_); refine goesL_ (some 9) rfl rfl Tryd.func12 (by kernel_rfl) rfl #[] rfl (by (try simp only [List.map_toArray, List.map_cons, List.map_nil]); first | done | rfl | (simp only [List.length_drop, List.length_take]; rfl)) ?_; (with_reducible refine (warderlaw03_head.calls  true _ A2.out).mono ?_); rintro e w41 ⟨rfl, hb⟩; refine ⟨_, rfl, ?_⟩; have n0_ := Aside0.mk (below_step (by repeat (first | (with_reducible first | exact HB.out | apply below_alloc | apply pw_below_drewN | apply below_drew1) | exact HB.out)) hb); clear HB; have HB := n0_; clear n0_; (try clear hb); (try clear hb2); (try clear hk); (try clear hi)) | ((with_reducible refine gate_callee (f := 17) rfl ?_); refine goesL_ (some 12) rfl rfl Tryd.func17 (by kernel_rfl) rfl #[.int .i64 a0] rfl (by (try simp only [List.map_toArray, List.map_cons, List.map_nil]); first | done | rfl | (simp only [List.length_drop, List.length_take]; rfl)) ?_; (with_reducible refine (texts_PutTime.calls a0 t102 t103 t106 _ A3.out).mono ?_); rintro e w42 ⟨v104, rfl, ho0, hb⟩; refine ⟨_, rfl, ?_⟩; have n0_ := Aside0.mk (Kd.V_lower (Kd.V_mono (ok' := fun k_ => True) ho0 (fun k_ hk_ => trivial)) (below_size (by repeat (first | (with_reducible first | exact HB.out | apply below_alloc | apply pw_below_drewN | apply below_drew1) | exact HB.out)))); have n1_ := Aside0.mk (below_step (by repeat (first | (with_reducible first | exact HB.out | apply below_alloc | apply pw_below_drewN | apply below_drew1) | exact HB.out)) hb); clear HB; have HO105 := n0_; have HB := n1_; clear n0_ n1_; (try clear hb); (try clear hb2); (try clear hk); (try clear hi); (try clear ho0); obtain ⟨Ao43, co43, eo43⟩ := Kd.V_slice HO105.out; subst eo43))
          go_ret
          exact ⟨by first | rfl | (simp [errW_none, errW_some] <;> rfl) | (simp [*, errW_none, errW_some] <;> rfl), by repeat (first | (with_reducible first | exact HB.out | apply below_alloc | apply pw_below_drewN | apply below_drew1) | exact HB.out)⟩
      · rw [if_neg c32] at H
        have c32b0 : (t102 == 0) = false := beq_eq_false_iff_ne.mpr c32
        have c32b1 : (t102 != 0) = true := bne_iff_ne.mpr c32
        obtain rfl := Option.some.inj H
        go_enter Tryd.func9, Tryd.ntmps9
        go_wp2_with (first | ((with_reducible refine gate_callee (f := 12) rfl ?_); refine goesL_ (some 9) rfl rfl Tryd.func12 (by kernel_rfl) rfl #[] rfl (by (try simp only [List.map_toArray, List.map_cons, List.map_nil]); first | done | rfl | (simp only [List.length_drop, List.length_take]; rfl)) ?_; (with_reducible refine (warderlaw03_head.calls  true _ A2.out).mono ?_); rintro e w44 ⟨rfl, hb⟩; refine ⟨_, rfl, ?_⟩; have n0_ := Aside0.mk (below_step (by repeat (first | (with_reducible first | exact HB.out | apply below_alloc | apply pw_below_drewN | apply below_drew1) | exact HB.out)) hb); clear HB; have HB := n0_; clear n0_; (try clear hb); (try clear hb2); (try clear hk); (try clear hi)) | ((with_reducible refine gate_callee (f := 17) rfl ?_); refine goesL_ (some 12) rfl rfl Tryd.func17 (by kernel_rfl) rfl #[.int .i64 a0] rfl (by (try simp only [List.map_toArray, List.map_cons, List.map_nil]); first | done | rfl | (simp only [List.length_drop, List.length_take]; rfl)) ?_; (with_reducible refine (texts_PutTime.calls a0 t102 t103 t106 _ A3.out).mono ?_); rintro e w45 ⟨v104, rfl, ho0, hb⟩; refine ⟨_, rfl, ?_⟩; have n0_ := Aside0.mk (Kd.V_lower (Kd.V_mono (ok' := fun k_ => True) ho0 (fun k_ hk_ => trivial)) (below_size (by repeat (first | (with_reducible first | exact HB.out | apply below_alloc | apply pw_below_drewN | apply below_drew1) | exact HB.out)))); have n1_ := Aside0.mk (below_step (by repeat (first | (with_reducible first | exact HB.out | apply below_alloc | apply pw_below_drewN | apply below_drew1) | exact HB.out)) hb); clear HB; have HO105 := n0_; have HB := n1_; clear n0_ n1_; (try clear hb); (try clear hb2); (try clear hk); (try clear hi); (try clear ho0)))
        go_ret
        exact ⟨by first | rfl | (simp [errW_none, errW_some] <;> rfl) | (simp [*, errW_none, errW_some] <;> rfl), by repeat (first | (with_reducible first | exact HB.out | apply below_alloc | apply pw_below_drewN | apply below_drew1) | exact HB.out)⟩
    · replace c31 := Bool.eq_false_iff.mpr c31
      subst c31
      have H1 : (some false) = some r := by rw [if_neg (show ¬ (false = true) by decide)] at H; exact H
      clear H
      have H := H1
      clear H1
      obtain rfl := Option.some.inj H
      go_enter Tryd.func9, Tryd.ntmps9
      go_wp2_with (first | ((with_reducible refine gate_callee (f := 12) rfl ?_); refine goesL_ (some 9) rfl rfl Tryd.func12 (by kernel_rfl) rfl #[] rfl (by (try simp only [List.map_toArray, List.map_cons, List.map_nil]); first | done | rfl | (simp only [List.length_drop, List.length_take]; rfl)) ?_; (with_reducible refine (warderlaw03_head.calls  false _ A2.out).mono ?_); rintro e w46 ⟨rfl, hb⟩; refine ⟨_, rfl, ?_⟩; have n0_ := Aside0.mk (below_step (by repeat (first | (with_reducible first | exact HB.out | apply below_alloc | apply pw_below_drewN | apply below_drew1) | exact HB.out)) hb); clear HB; have HB := n0_; clear n0_; (try clear hb); (try clear hb2); (try clear hk); (try clear hi)) | ((with_reducible refine gate_callee (f := 17) rfl ?_); refine goesL_ (some 12) rfl rfl Tryd.func17 (by kernel_rfl) rfl #[.int .i64 a0] rfl (by (try simp only [List.map_toArray, List.map_cons, List.map_nil]); first | done | rfl | (simp only [List.length_drop, List.length_take]; rfl)) ?_; (with_reducible refine (texts_PutTime.calls a0 t102 t103 t106 _ A3.out).mono ?_); rintro e w47 ⟨v104, rfl, ho0, hb⟩; refine ⟨_, rfl, ?_⟩; have n0_ := Aside0.mk (Kd.V_lower (Kd.V_mono (ok' := fun k_ => True) ho0 (fun k_ hk_ => trivial)) (below_size (by repeat (first | (with_reducible first | exact HB.out | apply below_alloc | apply pw_below_drewN | apply below_drew1) | exact HB.out)))); have n1_ := Aside0.mk (below_step (by repeat (first | (with_reducible first | exact HB.out | apply below_alloc | apply pw_below_drewN | apply below_drew1) | exact HB.out)) hb); clear HB; have HO105 := n0_; have HB := n1_; clear n0_ n1_; (try clear hb); (try clear hb2); (try clear hk); (try clear hi); (try clear ho0)))
      go_ret
      exact ⟨by first | rfl | (simp [errW_none, errW_some] <;> rfl) | (simp [*, errW_none, errW_some] <;> rfl), by repeat (first | (with_reducible first | exact HB.out | apply below_alloc | apply pw_below_drewN | apply below_drew1) | exact HB.out)⟩

end Go.Proofs.YtgpghjmoapffcaaDoor.XY
