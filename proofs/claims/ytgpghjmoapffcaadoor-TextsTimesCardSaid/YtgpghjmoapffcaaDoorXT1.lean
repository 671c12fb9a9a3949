-- printed by wip/xprint.py (a scratch copy of the kit's print, with contracts by hand)
import Derived.Test.YtgpghjmoapffcaaDoorXT0
namespace Go.Proofs.YtgpghjmoapffcaaDoor.XT
open Go.RowKit Go.Proofs.YtgpghjmoapffcaaDoorW.PrintWords Go.Proofs.YtgpghjmoapffcaaDoorW.PrintLast Go.Proofs.YtgpghjmoapffcaaDoorW.PrintMore
attribute [local go_sem] max2_int min2_int max_two min_two max_three min_three max_four min_four   -- for this text's walks alone
set_option linter.unusedVariables false
set_option linter.unusedSimpArgs false

/-! ### texts_Right: function 13 (by hand) -/
def texts_Right.f (a0 : Int) (l1 : List Int) : Option (Bool) := if a0 = 22 then some (Rt.allp Rt.ia (strOfNums l1) 0) else if a0 = 27 then some (Rt.allp Rt.ge (strOfNums l1) 0) else none
theorem texts_Right.calls (a0 : Int) (A1 : Option Addr) (c1 : Nat) (l1 : List Int) (r : Bool) (w : World) (hr1 : Kd.C (Kd.int .u8) w A1 l1.length l1) (hc1 : l1.length ≤ c1) (h : texts_Right.f a0 l1 = some r) :
    Calls Tryd.prog 13 #[.int .u8 a0, .slice A1 l1.length c1] w fun e w' => e = .returned (.bool r) ∧ Below w.heap.size w w' := by
  unfold texts_Right.f at h
  split at h
  · rename_i h22
    subst h22
    cases h
    exact Rt.walk22 A1 c1 l1 w hr1
  · split at h
    · rename_i h27
      subst h27
      cases h
      exact Rt.walk27 A1 c1 l1 w hr1
    · cases h

/-! ### texts_Prep: function 15 (by hand) -/
def texts_Prep.f (a0 : ByteArray) : Option ByteArray := if a0.size ≤ 8796093022208 then some ⟨(Tx.prep a0.data.toList).toArray⟩ else none
theorem texts_Prep.calls (a0 : ByteArray) (r : ByteArray) (w : World) (h : texts_Prep.f a0 = some r) :
    Calls Tryd.prog 15 #[.string a0] w fun e w' => e = .returned (.string r) ∧ Below w.heap.size w w' := by
  unfold texts_Prep.f at h
  split at h
  · rename_i hs
    cases h
    exact prep_any a0 w hs
  · cases h

/-! ### texts_civil: function 36 (by hand) -/
def texts_civil.f (a0 : Int) : Option (Int × Int × Int) := if 0 ≤ a0 + 719468 ∧ a0 + 719468 ≤ 4000000 then some (Civ.civ (a0 + 719468)) else none
theorem texts_civil.calls (a0 : Int) (r1 : Int) (r2 : Int) (r3 : Int) (w : World) (h : texts_civil.f a0 = some (r1, r2, r3)) :
    Calls Tryd.prog 36 #[.int .i64 a0] w fun e w' => e = .returned (.tuple #[.int .i64 r1, .int .i64 r2, .int .i64 r3]) ∧ Drawn0 w w' := by
  unfold texts_civil.f at h
  split at h
  · rename_i hs
    have h2 := Option.some.inj h
    have hw := Civ.walk a0 w hs.1 hs.2
    rw [h2] at hw
    exact hw
  · cases h

/-! ### texts_PutTime: function 17 (by hand) -/
def texts_PutTime.f (a0 : Int) : Option (Int × List Int × Int) :=
  if a0 < (-631152000) ∨ 253402300799 < a0 then some (0, [], 32)
  else (texts_civil.f (wrap64 ((wrap64 (Int.tdiv (wrap64 (a0 + 631152000)) 86400)) - 7305))).bind fun q =>
    some (if q.1 < 2050 then 23 else 24, if q.1 < 2050 then (PutT.out q.1 q.2.1 q.2.2 (wrap64 (a0 + 631152000))).drop 2 else PutT.out q.1 q.2.1 q.2.2 (wrap64 (a0 + 631152000)), 0)
set_option maxHeartbeats 2000000 in
set_option maxRecDepth 1000000 in
theorem texts_PutTime.calls (a0 : Int) (r1 : Int) (r2 : List Int) (r3 : Int) (w : World) (h : texts_PutTime.f a0 = some (r1, r2, r3)) :
    Calls Tryd.prog 17 #[.int .i64 a0] w fun e w' => ∃ v1_ : Value, e = .returned (.tuple #[.int .u8 r1, v1_, .int .i64 r3]) ∧ Kd.V (Kd.int .u8) 5 w' w.heap.size (fun k_ => w.heap.size ≤ k_) v1_ r2 ∧ Below w.heap.size w w' := by
  unfold texts_PutTime.f at h
  by_cases c : a0 < (-631152000) ∨ 253402300799 < a0
  · rw [if_pos c] at h
    cases h
    by_cases c1 : a0 < (-631152000)
    · have d1 : decide (a0 < (-631152000)) = true := decide_eq_true c1
      clear c1 c
      go_enter Tryd.func17, Tryd.ntmps17
      go_wp2
      go_ret3
      exact ⟨.slice none 0 0, rfl, Kd.V_nil _ _ _ _ _, by repeat (first | exact Below.refl _ _ | apply below_drew1 | apply pw_below_drewN)⟩
    · have d1 : decide (a0 < (-631152000)) = false := decide_eq_false c1
      have d2 : decide (253402300799 < a0) = true := decide_eq_true (by omega)
      clear c1 c
      go_enter Tryd.func17, Tryd.ntmps17
      go_wp2
      go_ret3
      exact ⟨.slice none 0 0, rfl, Kd.V_nil _ _ _ _ _, by repeat (first | exact Below.refl _ _ | apply below_drew1 | apply pw_below_drewN)⟩
  · rw [if_neg c] at h
    obtain ⟨⟨y, m, d⟩, hc, h⟩ := Option.bind_eq_some_iff.mp h
    simp only [Option.some.injEq, Prod.mk.injEq] at h
    obtain ⟨rfl, rfl, rfl⟩ := h
    exact PutT.walk a0 y m d w (fun h => c (.inl h)) (fun h => c (.inr h)) (fun x W hx => texts_civil.calls x y m d W (hx ▸ hc))

/-! ### warderlaw03_head: function 12 (by hand) -/
def warderlaw03_head.f  : Option (Bool) := some true
theorem warderlaw03_head.put0 : texts_PutTime.f 0 = some (23, [55, 48, 48, 49, 48, 49, 48, 48, 48, 48, 48, 48, 90], 0) := by kernel_rfl
theorem warderlaw03_head.prep0 : texts_Prep.f (⟨#[32, 65, 32, 32, 98, 32]⟩ : ByteArray) = some ⟨#[97, 32, 98]⟩ := by kernel_rfl
theorem warderlaw03_head.right0 : texts_Right.f 22 [97] = some true := by kernel_rfl
theorem warderlaw03_head.str0 : strOfNums [55, 48, 48, 49, 48, 49, 48, 48, 48, 48, 48, 48, 90] = ⟨#[55, 48, 48, 49, 48, 49, 48, 48, 48, 48, 48, 48, 90]⟩ := by kernel_rfl
theorem warderlaw03_head.lit (W : World) : Kd.C (Kd.int .u8) (W.alloc (.cells #[.int .u8 97] 5 (1, 2))) (some ⟨W.heap.size, 0, none⟩) 1 [97] :=
  Kd.C_of_reads (enc := fun n => Value.int .u8 n) (d := (0 : Int)) (h1 := fun _ => rfl) ⟨rfl, by decide, fun _ => ⟨_, rfl, fun j hj => by
    obtain rfl : j = 0 := by omega
    show (W.alloc (.cells #[.int .u8 97] 5 (1, 2))).cell? ⟨W.heap.size, 0, none⟩ = _
    have h := heap_alloc_new W (.cells #[.int .u8 97] 5 (1, 2))
    unfold World.cell?
    rw [h]
    rfl⟩⟩
set_option maxHeartbeats 4000000 in
set_option maxRecDepth 100000 in
theorem warderlaw03_head.calls  (r : Bool) (w : World) (h : warderlaw03_head.f  = some r) :
    Calls Tryd.prog 12 #[] w fun e w' => e = .returned (.bool r) ∧ Below w.heap.size w w' := by
  cases h
  go_enter Tryd.func12, Tryd.ntmps12
  go_wp2_with (go_at_call 17; refine (texts_PutTime.calls _ _ _ _ _ warderlaw03_head.put0).mono ?_)
  rintro e w1 ⟨v1, rfl, hV, hb1⟩
  obtain ⟨A, c, rfl⟩ := Kd.V_slice hV
  have hcv : (convert 22 9 (.slice A 13 c)).run Tryd.prog w1 = .ok (.string (strOfNums [55, 48, 48, 49, 48, 49, 48, 48, 48, 48, 48, 48, 90])) w1 := Kd.C_string (P := Tryd.prog) (c := c) Tryd.underlying22 Tryd.underlying5 Tryd.underlying9 (Kd.V_reads' hV).2.2
  rw [warderlaw03_head.str0] at hcv
  have kc := fun (w : World) (C : Array Value) (n c : Nat) => Lib.run_convert_bytes_const (P := Tryd.prog) w 22 5 C n c Tryd.underlying22 Tryd.underlying5
  have HB1 := Aside0.mk hb1
  clear hV hb1
  go_wp2_with (go_at_call 15; refine (texts_Prep.calls _ _ _ warderlaw03_head.prep0).mono ?_)
  rintro e w2 ⟨rfl, hb2⟩
  have HB2 := Aside0.mk hb2
  clear hb2
  go_wp2_with (go_at_call 13; refine (texts_Right.calls 22 _ _ [97] _ _ (warderlaw03_head.lit _) (by decide) warderlaw03_head.right0).mono ?_)
  rintro e w3 ⟨rfl, hb3⟩
  go_wp2
  go_ret
  refine ⟨rfl, ?_⟩
  exact below_step (below_alloc (below_step HB1.out HB2.out) _) hb3

/-! ### warderref03_leaps: function 47 -/
def warderref03_leaps.f (a0 : Int) : Option (Int) := some (wrap64 ((wrap64 ((wrap64 (Int.tdiv a0 4)) - (wrap64 (Int.tdiv a0 100)))) + (wrap64 (Int.tdiv a0 400))))
set_option maxHeartbeats 8000000 in
set_option maxRecDepth 100000 in
theorem warderref03_leaps.calls (a0 : Int) (r : Int) (w : World) (h : warderref03_leaps.f a0 = some r) :
    Calls Tryd.prog 47 #[.int .i64 a0] w fun e w' => e = .returned (.int .i64 r) ∧ Drawn0 w w' := by
  have H : (some (wrap64 ((wrap64 ((wrap64 (Int.tdiv a0 4)) - (wrap64 (Int.tdiv a0 100)))) + (wrap64 (Int.tdiv a0 400))))) = some r := h
  clear h
  obtain rfl := Option.some.inj H
  go_enter Tryd.func47, Tryd.ntmps47
  go_wp2
  go_ret
  exact ⟨by first | rfl | (simp; done) | (simp [*]; done), by repeat (first | exact Drawn0.refl _ | apply Drawn0.step)⟩

/-! ### warderref03_days: function 37 -/
def warderref03_days.f (a0 : Int) : Option (Int) := (warderref03_leaps.f (wrap64 (a0 - 1))).bind fun t101 => ((warderref03_leaps.f 1969).bind fun t102 => (some (wrap64 ((wrap64 ((wrap64 (365 * (wrap64 (a0 - 1970)))) + t101)) - t102))))
set_option maxHeartbeats 8000000 in
set_option maxRecDepth 100000 in
theorem warderref03_days.calls (a0 : Int) (r : Int) (w : World) (h : warderref03_days.f a0 = some r) :
    Calls Tryd.prog 37 #[.int .i64 a0] w fun e w' => e = .returned (.int .i64 r) ∧ Drawn0 w w' := by
  have H : ((warderref03_leaps.f (wrap64 (a0 - 1))).bind fun t101 => ((warderref03_leaps.f 1969).bind fun t102 => (some (wrap64 ((wrap64 ((wrap64 (365 * (wrap64 (a0 - 1970)))) + t101)) - t102))))) = some r := h
  clear h
  replace H := Option.bind_eq_some_iff.mp H
  obtain ⟨t101, A20, H⟩ := H
  replace H : ((warderref03_leaps.f 1969).bind fun t102 => (some (wrap64 ((wrap64 ((wrap64 (365 * (wrap64 (a0 - 1970)))) + t101)) - t102)))) = some r := H
  have A2 := Aside0.mk A20
  clear A20
  replace H := Option.bind_eq_some_iff.mp H
  obtain ⟨t102, A30, H⟩ := H
  replace H : (some (wrap64 ((wrap64 ((wrap64 (365 * (wrap64 (a0 - 1970)))) + t101)) - t102))) = some r := H
  have A3 := Aside0.mk A30
  clear A30
  obtain rfl := Option.some.inj H
  go_enter Tryd.func37, Tryd.ntmps37
  go_wp2_with (first | ((with_reducible refine gate_callee (f := 47) rfl ?_); refine goesL_ (some 8) rfl rfl Tryd.func47 (by kernel_rfl) rfl #[.int .i64 (wrap64 (a0 - 1))] rfl (by (try simp only [List.map_toArray, List.map_cons, List.map_nil]); first | done | rfl | (simp only [List.length_drop, List.length_take]; rfl)) ?_; (with_reducible refine (warderref03_leaps.calls (wrap64 (a0 - 1)) t101 _ A2.out).mono ?_); rintro e w' ⟨rfl, ⟨nd, rfl⟩⟩; refine ⟨_, rfl, ?_⟩) | ((with_reducible refine gate_callee (f := 47) rfl ?_); refine goesL_ (some 10) rfl rfl Tryd.func47 (by kernel_rfl) rfl #[.int .i64 1969] rfl (by (try simp only [List.map_toArray, List.map_cons, List.map_nil]); first | done | rfl | (simp only [List.length_drop, List.length_take]; rfl)) ?_; (with_reducible refine (warderref03_leaps.calls 1969 t102 _ A3.out).mono ?_); rintro e w' ⟨rfl, ⟨nd, rfl⟩⟩; refine ⟨_, rfl, ?_⟩))
  go_ret
  exact ⟨by first | rfl | (simp; done) | (simp [*]; done), by repeat (first | exact Drawn0.refl _ | apply Drawn0.step)⟩

/-! ### warderref03_leap: function 48 -/
def warderref03_leap.f (a0 : Int) : Option (Bool) := if (Int.tmod a0 4) = 0 then (if (Int.tmod a0 100) = 0 then (some ((Int.tmod a0 400) == 0)) else (some true)) else (some false)
set_option maxHeartbeats 8000000 in
set_option maxRecDepth 100000 in
theorem warderref03_leap.calls (a0 : Int) (r : Bool) (w : World) (h : warderref03_leap.f a0 = some r) :
    Calls Tryd.prog 48 #[.int .i64 a0] w fun e w' => e = .returned (.bool r) ∧ Drawn0 w w' := by
  have H : (if (Int.tmod a0 4) = 0 then (if (Int.tmod a0 100) = 0 then (some ((Int.tmod a0 400) == 0)) else (some true)) else (some false)) = some r := h
  clear h
  by_cases c2 : (Int.tmod a0 4) = 0
  · rw [if_pos c2] at H
    have c2b0 : ((Int.tmod a0 4) == 0) = true := beq_iff_eq.mpr c2
    have c2b1 : ((Int.tmod a0 4) != 0) = false := bne_eq_false_iff_eq.mpr c2
    clear c2
    by_cases c3 : (Int.tmod a0 100) = 0
    · rw [if_pos c3] at H
      have c3b0 : ((Int.tmod a0 100) == 0) = true := beq_iff_eq.mpr c3
      have c3b1 : ((Int.tmod a0 100) != 0) = false := bne_eq_false_iff_eq.mpr c3
      clear c3
      obtain rfl := Option.some.inj H
      go_enter Tryd.func48, Tryd.ntmps48
      go_wp2
      go_ret
      exact ⟨by first | rfl | (simp; done) | (simp [*]; done), by repeat (first | exact Drawn0.refl _ | apply Drawn0.step)⟩
    · rw [if_neg c3] at H
      have c3b0 : ((Int.tmod a0 100) == 0) = false := beq_eq_false_iff_ne.mpr c3
      have c3b1 : ((Int.tmod a0 100) != 0) = true := bne_iff_ne.mpr c3
      obtain rfl := Option.some.inj H
      go_enter Tryd.func48, Tryd.ntmps48
      go_wp2
      go_ret
      exact ⟨by first | rfl | (simp; done) | (simp [*]; done), by repeat (first | exact Drawn0.refl _ | apply Drawn0.step)⟩
  · rw [if_neg c2] at H
    have c2b0 : ((Int.tmod a0 4) == 0) = false := beq_eq_false_iff_ne.mpr c2
    have c2b1 : ((Int.tmod a0 4) != 0) = true := bne_iff_ne.mpr c2
    obtain rfl := Option.some.inj H
    go_enter Tryd.func48, Tryd.ntmps48
    go_wp2
    go_ret
    exact ⟨by first | rfl | (simp; done) | (simp [*]; done), by repeat (first | exact Drawn0.refl _ | apply Drawn0.step)⟩

/-! ### warderref03_month: function 38 -/
def warderref03_month.f (a0 : Int) (a1 : Int) : Option (Int) := (some (([31, 28, 31, 30, 31, 30, 31, 31, 30, 31, 30, 31] : List Int) : List Int)).bind fun y103 => (if a1 = 2 then ((warderref03_leap.f a0).bind fun t106 => (if t106 = true then (some 29) else (if 0 ≤ (wrap64 (a1 - 1)) then (if (wrap64 (a1 - 1)) < (y103.length : Int) then (some (rd y103 (wrap64 (a1 - 1)))) else (none)) else (none)))) else (if 0 ≤ (wrap64 (a1 - 1)) then (if (wrap64 (a1 - 1)) < (y103.length : Int) then (some (rd y103 (wrap64 (a1 - 1)))) else (none)) else (none)))
set_option maxHeartbeats 8000000 in
set_option maxRecDepth 100000 in
theorem warderref03_month.calls (a0 : Int) (a1 : Int) (r : Int) (w : World) (h : warderref03_month.f a0 a1 = some r) :
    Calls Tryd.prog 38 #[.int .i64 a0, .int .i64 a1] w fun e w' => e = .returned (.int .i64 r) ∧ Below w.heap.size w w' := by
  have HB := Aside0.mk (Below.refl w.heap.size w)
  have H : ((some (([31, 28, 31, 30, 31, 30, 31, 31, 30, 31, 30, 31] : List Int) : List Int)).bind fun y103 => (if a1 = 2 then ((warderref03_leap.f a0).bind fun t106 => (if t106 = true then (some 29) else (if 0 ≤ (wrap64 (a1 - 1)) then (if (wrap64 (a1 - 1)) < (y103.length : Int) then (some (rd y103 (wrap64 (a1 - 1)))) else (none)) else (none)))) else (if 0 ≤ (wrap64 (a1 - 1)) then (if (wrap64 (a1 - 1)) < (y103.length : Int) then (some (rd y103 (wrap64 (a1 - 1)))) else (none)) else (none)))) = some r := h
  clear h
  obtain ⟨y103, hy103⟩ : ∃ y_ : List Int, y_ = (([31, 28, 31, 30, 31, 30, 31, 31, 30, 31, 30, 31] : List Int)) := ⟨_, rfl⟩
  replace H : (if a1 = 2 then ((warderref03_leap.f a0).bind fun t106 => (if t106 = true then (some 29) else (if 0 ≤ (wrap64 (a1 - 1)) then (if (wrap64 (a1 - 1)) < (y103.length : Int) then (some (rd y103 (wrap64 (a1 - 1)))) else (none)) else (none)))) else (if 0 ≤ (wrap64 (a1 - 1)) then (if (wrap64 (a1 - 1)) < (y103.length : Int) then (some (rd y103 (wrap64 (a1 - 1)))) else (none)) else (none))) = some r := by first | (rw [hy103]; with_reducible exact H) | (have H2_ := (Option.bind_some _ _).symm.trans H; rw [hy103]; with_reducible exact H2_) | (have H2_ := (Option.bind_some _ _).symm.trans H; with_reducible exact H2_) | with_reducible exact H | (rw [hy103]; exact H) | exact H
  have Ny103 := Aside0.mk hy103
  clear hy103
  by_cases c3 : a1 = 2
  · rw [if_pos c3] at H
    have c3b0 : (a1 == 2) = true := beq_iff_eq.mpr c3
    have c3b1 : (a1 != 2) = false := bne_eq_false_iff_eq.mpr c3
    clear c3
    replace H := Option.bind_eq_some_iff.mp H
    obtain ⟨t106, A40, H⟩ := H
    replace H : (if t106 = true then (some 29) else (if 0 ≤ (wrap64 (a1 - 1)) then (if (wrap64 (a1 - 1)) < (y103.length : Int) then (some (rd y103 (wrap64 (a1 - 1)))) else (none)) else (none))) = some r := H
    have A4 := Aside0.mk A40
    clear A40
    by_cases c5 : t106 = true
    · subst c5
      have H1 : (some 29) = some r := by rw [if_pos rfl] at H; exact H
      clear H
      have H := H1
      clear H1
      obtain rfl := Option.some.inj H
      go_enter Tryd.func38, Tryd.ntmps38
      go_wp2_with (first | ((with_reducible refine gate_dst (N := 6) rfl ?_); refine Kd.R_lit (Kd.int .i64) _ 3 ?hg (N := 6) ?hd (xs := ([31, 28, 31, 30, 31, 30, 31, 31, 30, 31, 30, 31] : List Int)) (inner := [.int .i64 31, .int .i64 28, .int .i64 31, .int .i64 30, .int .i64 31, .int .i64 30, .int .i64 31, .int .i64 31, .int .i64 30, .int .i64 31, .int .i64 30, .int .i64 31]) (ok := fun _ => True) (okp := fun _ => True) ?hr ?hp (fun _ hk => hk) trivial (Below.refl _ _) (Nat.le_refl _) (by simp) ?_; (case hd => rfl); (case hg => rfl); (case hr => first | (go_simp; done) | (go_simp; rfl)); (case hp => exact (Reps.one (show Kd.M (Kd.int .i64) _ _ _ 31 [.int .i64 31] from rfl) (Reps.one (show Kd.M (Kd.int .i64) _ _ _ 28 [.int .i64 28] from rfl) (Reps.one (show Kd.M (Kd.int .i64) _ _ _ 31 [.int .i64 31] from rfl) (Reps.one (show Kd.M (Kd.int .i64) _ _ _ 30 [.int .i64 30] from rfl) (Reps.one (show Kd.M (Kd.int .i64) _ _ _ 31 [.int .i64 31] from rfl) (Reps.one (show Kd.M (Kd.int .i64) _ _ _ 30 [.int .i64 30] from rfl) (Reps.one (show Kd.M (Kd.int .i64) _ _ _ 31 [.int .i64 31] from rfl) (Reps.one (show Kd.M (Kd.int .i64) _ _ _ 31 [.int .i64 31] from rfl) (Reps.one (show Kd.M (Kd.int .i64) _ _ _ 30 [.int .i64 30] from rfl) (Reps.one (show Kd.M (Kd.int .i64) _ _ _ 31 [.int .i64 31] from rfl) (Reps.one (show Kd.M (Kd.int .i64) _ _ _ 30 [.int .i64 30] from rfl) (Reps.one (show Kd.M (Kd.int .i64) _ _ _ 31 [.int .i64 31] from rfl) (Reps.none _ _)))))))))))))); intro v104 w6 ho7 hb hg_ hnew_; clear hg_ hnew_; (first | rw [← Ny103.out] at ho7 | (simp only [Int.reduceToNat] at ho7; rw [← Ny103.out] at ho7)); have n0_ := Aside0.mk (Kd.R_lower ho7 (below_size (by repeat (first | (with_reducible first | exact HB.out | apply below_alloc | apply pw_below_drewN | apply below_drew1) | exact HB.out)))); have n1_ := Aside0.mk (below_step (by repeat (first | (with_reducible first | exact HB.out | apply below_alloc | apply pw_below_drewN | apply below_drew1) | exact HB.out)) hb); clear HB; have HO105 := n0_; have HB := n1_; clear n0_ n1_; clear hb ho7) | (go_at_call 48; (with_reducible refine (warderref03_leap.calls a0 true _ A4.out).mono ?_); rintro e w' ⟨rfl, ⟨nd, rfl⟩⟩))
      go_ret
      exact ⟨by first | rfl | (simp [errW_none, errW_some] <;> rfl) | (simp [*, errW_none, errW_some] <;> rfl), by repeat (first | (with_reducible first | exact HB.out | apply below_alloc | apply pw_below_drewN | apply below_drew1) | exact HB.out)⟩
    · replace c5 := Bool.eq_false_iff.mpr c5
      subst c5
      have H1 : (if 0 ≤ (wrap64 (a1 - 1)) then (if (wrap64 (a1 - 1)) < (y103.length : Int) then (some (rd y103 (wrap64 (a1 - 1)))) else (none)) else (none)) = some r := by rw [if_neg (show ¬ (false = true) by decide)] at H; exact H
      clear H
      have H := H1
      clear H1
      obtain ⟨ji8, hji8⟩ : ∃ j_ : Int, (wrap64 (a1 - 1)) = j_ := ⟨_, rfl⟩
      replace H : (if 0 ≤ (ji8) then (if (ji8) < (y103.length : Int) then (some (rd y103 (ji8))) else (none)) else (none)) = some r := by first | (rw [hji8] at H; exact H) | (simp only [hji8] at H ⊢; exact H)
      (try rw [hji8] at A4)
      have hji8w : (IntKind.i64.wrap (a1 - 1)) = ji8 := (i64_w _).trans hji8
      by_cases c9 : 0 ≤ (ji8)
      · rw [if_pos c9] at H
        have c9b0 : decide (0 ≤ (ji8)) = true := decide_eq_true c9
        clear c9
        by_cases c10 : (ji8) < (y103.length : Int)
        · rw [if_pos c10] at H
          have c10b0 : decide ((ji8) < (y103.length : Int)) = true := decide_eq_true c10
          clear c10
          obtain rfl := Option.some.inj H
          go_enter Tryd.func38, Tryd.ntmps38
          go_wp2_with (first | ((with_reducible refine gate_dst (N := 6) rfl ?_); refine Kd.R_lit (Kd.int .i64) _ 3 ?hg (N := 6) ?hd (xs := ([31, 28, 31, 30, 31, 30, 31, 31, 30, 31, 30, 31] : List Int)) (inner := [.int .i64 31, .int .i64 28, .int .i64 31, .int .i64 30, .int .i64 31, .int .i64 30, .int .i64 31, .int .i64 31, .int .i64 30, .int .i64 31, .int .i64 30, .int .i64 31]) (ok := fun _ => True) (okp := fun _ => True) ?hr ?hp (fun _ hk => hk) trivial (Below.refl _ _) (Nat.le_refl _) (by simp) ?_; (case hd => rfl); (case hg => rfl); (case hr => first | (go_simp; done) | (go_simp; rfl)); (case hp => exact (Reps.one (show Kd.M (Kd.int .i64) _ _ _ 31 [.int .i64 31] from rfl) (Reps.one (show Kd.M (Kd.int .i64) _ _ _ 28 [.int .i64 28] from rfl) (Reps.one (show Kd.M (Kd.int .i64) _ _ _ 31 [.int .i64 31] from rfl) (Reps.one (show Kd.M (Kd.int .i64) _ _ _ 30 [.int .i64 30] from rfl) (Reps.one (show Kd.M (Kd.int .i64) _ _ _ 31 [.int .i64 31] from rfl) (Reps.one (show Kd.M (Kd.int .i64) _ _ _ 30 [.int .i64 30] from rfl) (Reps.one (show Kd.M (Kd.int .i64) _ _ _ 31 [.int .i64 31] from rfl) (Reps.one (show Kd.M (Kd.int .i64) _ _ _ 31 [.int .i64 31] from rfl) (Reps.one (show Kd.M (Kd.int .i64) _ _ _ 30 [.int .i64 30] from rfl) (Reps.one (show Kd.M (Kd.int .i64) _ _ _ 31 [.int .i64 31] from rfl) (Reps.one (show Kd.M (Kd.int .i64) _ _ _ 30 [.int .i64 30] from rfl) (Reps.one (show Kd.M (Kd.int .i64) _ _ _ 31 [.int .i64 31] from rfl) (Reps.none _ _)))))))))))))); intro v104 w11 ho12 hb hg_ hnew_; clear hg_ hnew_; (first | rw [← Ny103.out] at ho12 | (simp only [Int.reduceToNat] at ho12; rw [← Ny103.out] at ho12)); have n0_ := Aside0.mk (Kd.R_lower ho12 (below_size (by repeat (first | (with_reducible first | exact HB.out | apply below_alloc | apply pw_below_drewN | apply below_drew1) | exact HB.out)))); have n1_ := Aside0.mk (below_step (by repeat (first | (with_reducible first | exact HB.out | apply below_alloc | apply pw_below_drewN | apply below_drew1) | exact HB.out)) hb); clear HB; have HO105 := n0_; have HB := n1_; clear n0_ n1_; clear hb ho12) | (go_at_call 48; (with_reducible refine (warderref03_leap.calls a0 false _ A4.out).mono ?_); rintro e w' ⟨rfl, ⟨nd, rfl⟩⟩; obtain ⟨Ao13, co13, eo13⟩ := Kd.R_slice HO105.out; subst eo13; have p107 : 0 ≤ ((ji8) : Int) := of_decide_eq_true (by first | (with_reducible assumption) | assumption); have q107 : (ji8) < (y103.length : Int) := of_decide_eq_true (by first | (with_reducible assumption) | assumption); obtain ⟨ad107, e107, hx107_0⟩ := Kd.at_int (Kd.R_reads' HO105.out).2.2 (ji8) p107 q107; cases e107; replace p107 := eq_true p107; replace q107 := eq_true q107))
          go_ret
          exact ⟨by first | rfl | (simp [errW_none, errW_some] <;> rfl) | (simp only [← hji8]; first | rfl | (simp [errW_none, errW_some] <;> rfl)) | (simp [*, errW_none, errW_some] <;> rfl), by repeat (first | (with_reducible first | exact HB.out | apply below_alloc | apply pw_below_drewN | apply below_drew1) | exact HB.out)⟩
        · rw [if_neg c10] at H
          exact absurd H (by simp)
      · rw [if_neg c9] at H
        exact absurd H (by simp)
  · rw [if_neg c3] at H
    have c3b0 : (a1 == 2) = false := beq_eq_false_iff_ne.mpr c3
    have c3b1 : (a1 != 2) = true := bne_iff_ne.mpr c3
    obtain ⟨ji14, hji14⟩ : ∃ j_ : Int, (wrap64 (a1 - 1)) = j_ := ⟨_, rfl⟩
    replace H : (if 0 ≤ (ji14) then (if (ji14) < (y103.length : Int) then (some (rd y103 (ji14))) else (none)) else (none)) = some r := by first | (rw [hji14] at H; exact H) | (simp only [hji14] at H ⊢; exact H)
    have hji14w : (IntKind.i64.wrap (a1 - 1)) = ji14 := (i64_w _).trans hji14
    by_cases c15 : 0 ≤ (ji14)
    · rw [if_pos c15] at H
      have c15b0 : decide (0 ≤ (ji14)) = true := decide_eq_true c15
      clear c15
      by_cases c16 : (ji14) < (y103.length : Int)
      · rw [if_pos c16] at H
        have c16b0 : decide ((ji14) < (y103.length : Int)) = true := decide_eq_true c16
        clear c16
        obtain rfl := Option.some.inj H
        go_enter Tryd.func38, Tryd.ntmps38
        go_wp2_with (first | ((with_reducible refine gate_dst (N := 6) rfl ?_); refine Kd.R_lit (Kd.int .i64) _ 3 ?hg (N := 6) ?hd (xs := ([31, 28, 31, 30, 31, 30, 31, 31, 30, 31, 30, 31] : List Int)) (inner := [.int .i64 31, .int .i64 28, .int .i64 31, .int .i64 30, .int .i64 31, .int .i64 30, .int .i64 31, .int .i64 31, .int .i64 30, .int .i64 31, .int .i64 30, .int .i64 31]) (ok := fun _ => True) (okp := fun _ => True) ?hr ?hp (fun _ hk => hk) trivial (Below.refl _ _) (Nat.le_refl _) (by simp) ?_; (case hd => rfl); (case hg => rfl); (case hr => first | (go_simp; done) | (go_simp; rfl)); (case hp => exact (Reps.one (show Kd.M (Kd.int .i64) _ _ _ 31 [.int .i64 31] from rfl) (Reps.one (show Kd.M (Kd.int .i64) _ _ _ 28 [.int .i64 28] from rfl) (Reps.one (show Kd.M (Kd.int .i64) _ _ _ 31 [.int .i64 31] from rfl) (Reps.one (show Kd.M (Kd.int .i64) _ _ _ 30 [.int .i64 30] from rfl) (Reps.one (show Kd.M (Kd.int .i64) _ _ _ 31 [.int .i64 31] from rfl) (Reps.one (show Kd.M (Kd.int .i64) _ _ _ 30 [.int .i64 30] from rfl) (Reps.one (show Kd.M (Kd.int .i64) _ _ _ 31 [.int .i64 31] from rfl) (Reps.one (show Kd.M (Kd.int .i64) _ _ _ 31 [.int .i64 31] from rfl) (Reps.one (show Kd.M (Kd.int .i64) _ _ _ 30 [.int .i64 30] from rfl) (Reps.one (show Kd.M (Kd.int .i64) _ _ _ 31 [.int .i64 31] from rfl) (Reps.one (show Kd.M (Kd.int .i64) _ _ _ 30 [.int .i64 30] from rfl) (Reps.one (show Kd.M (Kd.int .i64) _ _ _ 31 [.int .i64 31] from rfl) (Reps.none _ _)))))))))))))); intro v104 w17 ho18 hb hg_ hnew_; clear hg_ hnew_; (first | rw [← Ny103.out] at ho18 | (simp only [Int.reduceToNat] at ho18; rw [← Ny103.out] at ho18)); have n0_ := Aside0.mk (Kd.R_lower ho18 (below_size (by repeat (first | (with_reducible first | exact HB.out | apply below_alloc | apply pw_below_drewN | apply below_drew1) | exact HB.out)))); have n1_ := Aside0.mk (below_step (by repeat (first | (with_reducible first | exact HB.out | apply below_alloc | apply pw_below_drewN | apply below_drew1) | exact HB.out)) hb); clear HB; have HO105 := n0_; have HB := n1_; clear n0_ n1_; clear hb ho18; obtain ⟨Ao19, co19, eo19⟩ := Kd.R_slice HO105.out; subst eo19; have p108 : 0 ≤ ((ji14) : Int) := of_decide_eq_true (by first | (with_reducible assumption) | assumption); have q108 : (ji14) < (y103.length : Int) := of_decide_eq_true (by first | (with_reducible assumption) | assumption); obtain ⟨ad108, e108, hx108_0⟩ := Kd.at_int (Kd.R_reads' HO105.out).2.2 (ji14) p108 q108; cases e108; replace p108 := eq_true p108; replace q108 := eq_true q108))
        go_ret
        exact ⟨by first | rfl | (simp [errW_none, errW_some] <;> rfl) | (simp only [← hji14]; first | rfl | (simp [errW_none, errW_some] <;> rfl)) | (simp [*, errW_none, errW_some] <;> rfl), by repeat (first | (with_reducible first | exact HB.out | apply below_alloc | apply pw_below_drewN | apply below_drew1) | exact HB.out)⟩
      · rw [if_neg c16] at H
        exact absurd H (by simp)
    · rw [if_neg c15] at H
      exact absurd H (by simp)

/-! ### warderref03_two: function 39 -/
def warderref03_two.f (a0 : Int) : Option (List Int) := some (([(wrap64 (48 + (wrap64 (Int.tdiv a0 10)))) % 256, (wrap64 (48 + (Int.tmod a0 10))) % 256] : List Int))
set_option maxHeartbeats 8000000 in
set_option maxRecDepth 100000 in
theorem warderref03_two.calls (a0 : Int) (r : List Int) (w : World) (h : warderref03_two.f a0 = some r) :
    Calls Tryd.prog 39 #[.int .i64 a0] w fun e w' => ∃ v0_ : Value, e = .returned (v0_) ∧ Kd.R (Kd.int .u8) 5 w' w.heap.size (fun _ => True) v0_ r ∧ Below w.heap.size w w' := by
  have HB := Aside0.mk (Below.refl w.heap.size w)
  have H : (some (([(wrap64 (48 + (wrap64 (Int.tdiv a0 10)))) % 256, (wrap64 (48 + (Int.tmod a0 10))) % 256] : List Int))) = some r := h
  clear h
  obtain ⟨y109, hy109⟩ : ∃ y_ : List Int, y_ = (([(wrap64 (48 + (wrap64 (Int.tdiv a0 10)))) % 256, (wrap64 (48 + (Int.tmod a0 10))) % 256] : List Int)) := ⟨_, rfl⟩
  replace H : (some y109) = some r := by first | (rw [hy109]; with_reducible exact H) | (have H2_ := (Option.bind_some _ _).symm.trans H; rw [hy109]; with_reducible exact H2_) | (have H2_ := (Option.bind_some _ _).symm.trans H; with_reducible exact H2_) | with_reducible exact H | (rw [hy109]; exact H) | exact H
  have Ny109 := Aside0.mk hy109
  clear hy109
  obtain rfl := Option.some.inj H
  go_enter Tryd.func39, Tryd.ntmps39
  go_wp2_with (first | ((with_reducible refine gate_dst (N := 11) rfl ?_); refine Kd.R_lit (Kd.int .u8) _ 5 ?hg (N := 11) ?hd (xs := ([(wrap64 (48 + (wrap64 (Int.tdiv a0 10)))) % 256, (wrap64 (48 + (Int.tmod a0 10))) % 256] : List Int)) (inner := [.int .u8 ((wrap64 (48 + (wrap64 (Int.tdiv a0 10)))) % 256), .int .u8 ((wrap64 (48 + (Int.tmod a0 10))) % 256)]) (ok := fun _ => True) (okp := fun _ => True) ?hr ?hp (fun _ hk => hk) trivial (Below.refl _ _) (Nat.le_refl _) (by simp) ?_; (case hd => rfl); (case hg => rfl); (case hr => first | (go_simp; done) | (go_simp; rfl)); (case hp => exact (Reps.one (show Kd.M (Kd.int .u8) _ _ _ ((wrap64 (48 + (wrap64 (Int.tdiv a0 10)))) % 256) [.int .u8 ((wrap64 (48 + (wrap64 (Int.tdiv a0 10)))) % 256)] from rfl) (Reps.one (show Kd.M (Kd.int .u8) _ _ _ ((wrap64 (48 + (Int.tmod a0 10))) % 256) [.int .u8 ((wrap64 (48 + (Int.tmod a0 10))) % 256)] from rfl) (Reps.none _ _)))); intro v110 w2 ho3 hb hg_ hnew_; clear hg_ hnew_; (first | rw [← Ny109.out] at ho3 | (simp only [Int.reduceToNat] at ho3; rw [← Ny109.out] at ho3)); have n0_ := Aside0.mk (Kd.R_lower ho3 (below_size (by repeat (first | (with_reducible first | exact HB.out | apply below_alloc | apply pw_below_drewN | apply below_drew1) | exact HB.out)))); have n1_ := Aside0.mk (below_step (by repeat (first | (with_reducible first | exact HB.out | apply below_alloc | apply pw_below_drewN | apply below_drew1) | exact HB.out)) hb); clear HB; have HO111 := n0_; have HB := n1_; clear n0_ n1_; clear hb ho3))
  go_ret
  exact ⟨_, by first | rfl | (simp [errW_none, errW_some] <;> rfl) | (simp [*, errW_none, errW_some] <;> rfl), by (with_reducible repeat (first | apply Kd.R_alloc | apply Kd.R_drewN | apply Kd.R_drew)); exact HO111.out, by repeat (first | (with_reducible first | exact HB.out | apply below_alloc | apply pw_below_drewN | apply below_drew1) | exact HB.out)⟩

end Go.Proofs.YtgpghjmoapffcaaDoor.XT
