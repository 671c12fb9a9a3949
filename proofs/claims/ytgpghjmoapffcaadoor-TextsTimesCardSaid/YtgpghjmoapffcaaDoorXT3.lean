-- printed by wip/xprint.py (a scratch copy of the kit's print, with contracts by hand)
import Derived.Test.YtgpghjmoapffcaaDoorXT0
import Derived.Test.YtgpghjmoapffcaaDoorXT1
import Derived.Test.YtgpghjmoapffcaaDoorXT2
namespace Go.Proofs.YtgpghjmoapffcaaDoor.XT
open Go.RowKit Go.Proofs.YtgpghjmoapffcaaDoorW.PrintWords Go.Proofs.YtgpghjmoapffcaaDoorW.PrintLast Go.Proofs.YtgpghjmoapffcaaDoorW.PrintMore
attribute [local go_sem] max2_int min2_int max_two min_two max_three min_three max_four min_four   -- for this text's walks alone
set_option linter.unusedVariables false
set_option linter.unusedSimpArgs false

/-! ### warderref03_Time: function 20 -/
mutual
def warderref03_Time.j3 : Nat → Int → List Int → Option (Int × Int)
  | 0, _, _ => none
  | k + 1, x6, x7 => (warderref03_number.f x7 0).bind fun t185 => ((warderref03_number.f x7 2).bind fun t186 => ((warderref03_number.f x7 4).bind fun t187 => ((warderref03_number.f x7 6).bind fun t188 => ((warderref03_number.f x7 8).bind fun t189 => (if 10 < (x7.length : Int) then (if (rd x7 10) = 90 then (if t185 < 1 then (warderref03_Time.j4 k x6 t185 t186 t187 t188 t189 true) else (if t185 > 12 then (warderref03_Time.j4 k x6 t185 t186 t187 t188 t189 true) else (if t186 < 1 then (warderref03_Time.j4 k x6 t185 t186 t187 t188 t189 true) else (if t187 < 0 then (warderref03_Time.j4 k x6 t185 t186 t187 t188 t189 true) else (if t187 > 23 then (warderref03_Time.j4 k x6 t185 t186 t187 t188 t189 true) else (if t188 < 0 then (warderref03_Time.j4 k x6 t185 t186 t187 t188 t189 true) else (if t188 > 59 then (warderref03_Time.j4 k x6 t185 t186 t187 t188 t189 true) else (if t189 < 0 then (warderref03_Time.j4 k x6 t185 t186 t187 t188 t189 true) else (warderref03_Time.j4 k x6 t185 t186 t187 t188 t189 (decide (t189 > 59))))))))))) else (warderref03_Time.j4 k x6 t185 t186 t187 t188 t189 true)) else (none))))))
def warderref03_Time.j4 : Nat → Int → Int → Int → Int → Int → Int → Bool → Option (Int × Int)
  | 0, _, _, _, _, _, _, _ => none
  | k + 1, x6, x11, x12, x13, x14, x15, x120 => if x120 = true then (some (0, 32)) else ((warderref03_month.f x6 x11).bind fun t191 => (if x12 > t191 then (some (0, 32)) else ((warderref03_days.f x6).bind fun t192 => (warderref03_Time.l0 k x6 x11 x13 x14 x15 (wrap64 ((wrap64 (t192 + x12)) - 1)) 1))))
def warderref03_Time.l0 : Nat → Int → Int → Int → Int → Int → Int → Int → Option (Int × Int)
  | 0, _, _, _, _, _, _, _ => none
  | k + 1, x6, x11, x13, x14, x15, x16, x17 => if x17 < x11 then ((warderref03_month.f x6 x17).bind fun t193 => (warderref03_Time.l0 k x6 x11 x13 x14 x15 (wrap64 (x16 + t193)) (wrap64 (x17 + 1)))) else (some (wrap64 ((wrap64 (x16 * 86400)) + (wrap64 ((wrap64 ((wrap64 (3600 * x13)) + (wrap64 (60 * x14)))) + x15))), 0))
def warderref03_Time.j0 : Nat → Int → List Int → Bool → Option (Int × Int)
  | 0, _, _, _ => none
  | k + 1, x0, x1, x19 => if x19 = true then ((warderref03_number.f x1 0).bind fun t167 => (if t167 ≥ 0 then (warderref03_Time.j1 k x1 (wrap64 (1900 + t167)) t167 (decide (t167 < 50))) else (warderref03_Time.j1 k x1 (wrap64 (1900 + t167)) t167 false))) else (if x0 = 24 then (warderref03_Time.j2 k x1 ((x1.length : Int) == 15)) else (warderref03_Time.j2 k x1 false))
def warderref03_Time.j1 : Nat → List Int → Int → Int → Bool → Option (Int × Int)
  | 0, _, _, _, _ => none
  | k + 1, x1, x6, x8, x36 => if x36 = true then (if 2 ≤ (x1.length : Int) then (if x8 < 0 then (some (0, 32)) else (warderref03_Time.j3 k (wrap64 (2000 + x8)) (x1.drop 2))) else (none)) else (if 2 ≤ (x1.length : Int) then (if x8 < 0 then (some (0, 32)) else (warderref03_Time.j3 k x6 (x1.drop 2))) else (none))
def warderref03_Time.j2 : Nat → List Int → Bool → Option (Int × Int)
  | 0, _, _ => none
  | k + 1, x1, x43 => if x43 = true then ((warderref03_number.f x1 0).bind fun t178 => ((warderref03_number.f x1 2).bind fun t179 => (if 4 ≤ (x1.length : Int) then (if t178 < 0 then (some (0, 32)) else (if t179 < 0 then (some (0, 32)) else (if (wrap64 ((wrap64 (100 * t178)) + t179)) < 2050 then (some (0, 32)) else (warderref03_Time.j3 k (wrap64 ((wrap64 (100 * t178)) + t179)) (x1.drop 4))))) else (none)))) else (some (0, 32))
end
def warderref03_Time.f (k : Nat) (a0 : Int) (l1 : List Int) : Option (Int × Int) := if a0 = 23 then (warderref03_Time.j0 k a0 l1 ((l1.length : Int) == 13)) else (warderref03_Time.j0 k a0 l1 false)
theorem warderref03_Time.mono_l : ∀ k, (∀ y0 y1, LeO (warderref03_Time.j3 k y0 y1) (warderref03_Time.j3 (k + 1) y0 y1)) ∧ (∀ y0 y1 y2 y3 y4 y5 y6, LeO (warderref03_Time.j4 k y0 y1 y2 y3 y4 y5 y6) (warderref03_Time.j4 (k + 1) y0 y1 y2 y3 y4 y5 y6)) ∧ (∀ y0 y1 y2 y3 y4 y5 y6, LeO (warderref03_Time.l0 k y0 y1 y2 y3 y4 y5 y6) (warderref03_Time.l0 (k + 1) y0 y1 y2 y3 y4 y5 y6)) ∧ (∀ y0 y1 y2, LeO (warderref03_Time.j0 k y0 y1 y2) (warderref03_Time.j0 (k + 1) y0 y1 y2)) ∧ (∀ y0 y1 y2 y3, LeO (warderref03_Time.j1 k y0 y1 y2 y3) (warderref03_Time.j1 (k + 1) y0 y1 y2 y3)) ∧ (∀ y0 y1, LeO (warderref03_Time.j2 k y0 y1) (warderref03_Time.j2 (k + 1) y0 y1))
  | 0 => ⟨fun _ _ r h => by simp [warderref03_Time.j3] at h, fun _ _ _ _ _ _ _ r h => by simp [warderref03_Time.j4] at h, fun _ _ _ _ _ _ _ r h => by simp [warderref03_Time.l0] at h, fun _ _ _ r h => by simp [warderref03_Time.j0] at h, fun _ _ _ _ r h => by simp [warderref03_Time.j1] at h, fun _ _ r h => by simp [warderref03_Time.j2] at h⟩
  | k + 1 => by
    obtain ⟨ih0, ih1, ih2, ih3, ih4, ih5⟩ := warderref03_Time.mono_l k
    refine ⟨?_, ?_, ?_, ?_, ?_, ?_⟩
    · intro y0 y1
      unfold warderref03_Time.j3
      repeat' first
      | (with_reducible exact ih0 _ _)
      | (with_reducible exact ih1 _ _ _ _ _ _ _)
      | (with_reducible exact ih2 _ _ _ _ _ _ _)
      | (with_reducible exact ih3 _ _ _)
      | (with_reducible exact ih4 _ _ _ _)
      | (with_reducible exact ih5 _ _)
      | (with_reducible exact LeO.refl _)
      | (with_reducible exact LeO.none _)
      | (with_reducible refine LeO.ite ?_ ?_)
      | (with_reducible refine LeO.bind ?_ (fun _ => ?_))
      | exact ih0 _ _
      | exact ih1 _ _ _ _ _ _ _
      | exact ih2 _ _ _ _ _ _ _
      | exact ih3 _ _ _
      | exact ih4 _ _ _ _
      | exact ih5 _ _
      | exact LeO.none _
      | refine LeO.ite ?_ ?_
      | refine LeO.bind ?_ (fun _ => ?_)
    · intro y0 y1 y2 y3 y4 y5 y6
      unfold warderref03_Time.j4
      repeat' first
      | (with_reducible exact ih0 _ _)
      | (with_reducible exact ih1 _ _ _ _ _ _ _)
      | (with_reducible exact ih2 _ _ _ _ _ _ _)
      | (with_reducible exact ih3 _ _ _)
      | (with_reducible exact ih4 _ _ _ _)
      | (with_reducible exact ih5 _ _)
      | (with_reducible exact LeO.refl _)
      | (with_reducible exact LeO.none _)
      | (with_reducible refine LeO.ite ?_ ?_)
      | (with_reducible refine LeO.bind ?_ (fun _ => ?_))
      | exact ih0 _ _
      | exact ih1 _ _ _ _ _ _ _
      | exact ih2 _ _ _ _ _ _ _
      | exact ih3 _ _ _
      | exact ih4 _ _ _ _
      | exact ih5 _ _
      | exact LeO.none _
      | refine LeO.ite ?_ ?_
      | refine LeO.bind ?_ (fun _ => ?_)
    · intro y0 y1 y2 y3 y4 y5 y6
      unfold warderref03_Time.l0
      repeat' first
      | (with_reducible exact ih0 _ _)
      | (with_reducible exact ih1 _ _ _ _ _ _ _)
      | (with_reducible exact ih2 _ _ _ _ _ _ _)
      | (with_reducible exact ih3 _ _ _)
      | (with_reducible exact ih4 _ _ _ _)
      | (with_reducible exact ih5 _ _)
      | (with_reducible exact LeO.refl _)
      | (with_reducible exact LeO.none _)
      | (with_reducible refine LeO.ite ?_ ?_)
      | (with_reducible refine LeO.bind ?_ (fun _ => ?_))
      | exact ih0 _ _
      | exact ih1 _ _ _ _ _ _ _
      | exact ih2 _ _ _ _ _ _ _
      | exact ih3 _ _ _
      | exact ih4 _ _ _ _
      | exact ih5 _ _
      | exact LeO.none _
      | refine LeO.ite ?_ ?_
      | refine LeO.bind ?_ (fun _ => ?_)
    · intro y0 y1 y2
      unfold warderref03_Time.j0
      repeat' first
      | (with_reducible exact ih0 _ _)
      | (with_reducible exact ih1 _ _ _ _ _ _ _)
      | (with_reducible exact ih2 _ _ _ _ _ _ _)
      | (with_reducible exact ih3 _ _ _)
      | (with_reducible exact ih4 _ _ _ _)
      | (with_reducible exact ih5 _ _)
      | (with_reducible exact LeO.refl _)
      | (with_reducible exact LeO.none _)
      | (with_reducible refine LeO.ite ?_ ?_)
      | (with_reducible refine LeO.bind ?_ (fun _ => ?_))
      | exact ih0 _ _
      | exact ih1 _ _ _ _ _ _ _
      | exact ih2 _ _ _ _ _ _ _
      | exact ih3 _ _ _
      | exact ih4 _ _ _ _
      | exact ih5 _ _
      | exact LeO.none _
      | refine LeO.ite ?_ ?_
      | refine LeO.bind ?_ (fun _ => ?_)
    · intro y0 y1 y2 y3
      unfold warderref03_Time.j1
      repeat' first
      | (with_reducible exact ih0 _ _)
      | (with_reducible exact ih1 _ _ _ _ _ _ _)
      | (with_reducible exact ih2 _ _ _ _ _ _ _)
      | (with_reducible exact ih3 _ _ _)
      | (with_reducible exact ih4 _ _ _ _)
      | (with_reducible exact ih5 _ _)
      | (with_reducible exact LeO.refl _)
      | (with_reducible exact LeO.none _)
      | (with_reducible refine LeO.ite ?_ ?_)
      | (with_reducible refine LeO.bind ?_ (fun _ => ?_))
      | exact ih0 _ _
      | exact ih1 _ _ _ _ _ _ _
      | exact ih2 _ _ _ _ _ _ _
      | exact ih3 _ _ _
      | exact ih4 _ _ _ _
      | exact ih5 _ _
      | exact LeO.none _
      | refine LeO.ite ?_ ?_
      | refine LeO.bind ?_ (fun _ => ?_)
    · intro y0 y1
      unfold warderref03_Time.j2
      repeat' first
      | (with_reducible exact ih0 _ _)
      | (with_reducible exact ih1 _ _ _ _ _ _ _)
      | (with_reducible exact ih2 _ _ _ _ _ _ _)
      | (with_reducible exact ih3 _ _ _)
      | (with_reducible exact ih4 _ _ _ _)
      | (with_reducible exact ih5 _ _)
      | (with_reducible exact LeO.refl _)
      | (with_reducible exact LeO.none _)
      | (with_reducible refine LeO.ite ?_ ?_)
      | (with_reducible refine LeO.bind ?_ (fun _ => ?_))
      | exact ih0 _ _
      | exact ih1 _ _ _ _ _ _ _
      | exact ih2 _ _ _ _ _ _ _
      | exact ih3 _ _ _
      | exact ih4 _ _ _ _
      | exact ih5 _ _
      | exact LeO.none _
      | refine LeO.ite ?_ ?_
      | refine LeO.bind ?_ (fun _ => ?_)
theorem warderref03_Time.mono : ∀ a0 a1 k, LeO (warderref03_Time.f k a0 a1) (warderref03_Time.f (k + 1) a0 a1) := by
  intro a0 a1 k
  obtain ⟨ih0, ih1, ih2, ih3, ih4, ih5⟩ := warderref03_Time.mono_l k
  unfold warderref03_Time.f
  repeat' first
      | (with_reducible exact ih0 _ _)
      | (with_reducible exact ih1 _ _ _ _ _ _ _)
      | (with_reducible exact ih2 _ _ _ _ _ _ _)
      | (with_reducible exact ih3 _ _ _)
      | (with_reducible exact ih4 _ _ _ _)
      | (with_reducible exact ih5 _ _)
      | (with_reducible exact LeO.refl _)
      | (with_reducible exact LeO.none _)
      | (with_reducible refine LeO.ite ?_ ?_)
      | (with_reducible refine LeO.bind ?_ (fun _ => ?_))
      | exact ih0 _ _
      | exact ih1 _ _ _ _ _ _ _
      | exact ih2 _ _ _ _ _ _ _
      | exact ih3 _ _ _
      | exact ih4 _ _ _ _
      | exact ih5 _ _
      | exact LeO.none _
      | refine LeO.ite ?_ ?_
      | refine LeO.bind ?_ (fun _ => ?_)
set_option maxHeartbeats 8000000 in
set_option maxRecDepth 100000 in
theorem warderref03_Time.calls (k : Nat) (a0 : Int) (P1_ : Nat → Prop) (A1 : Option Addr) (c1 : Nat) (l1 : List Int) (r1 : Int) (r2 : Int) (w : World) (hs1 : Kd.V (Kd.int .u8) 5 w w.heap.size (fun k_ => P1_ k_) (.slice A1 l1.length c1) l1) (h : warderref03_Time.f k a0 l1 = some (r1, r2)) :
    Calls Tryd.prog 20 #[.int .u8 a0, .slice A1 l1.length c1] w fun e w' => e = .returned (.tuple #[.int .i64 r1, .int .i64 r2]) ∧ Below w.heap.size w w' := by
  have HO1 := Aside0.mk (show Kd.V (Kd.int .u8) 5 w w.heap.size (fun k_ => (P1_ k_ ∨ w.heap.size ≤ k_)) (.slice A1 l1.length c1) l1 from Kd.V_mono hs1 (fun k_ hk => .inl hk))
  have HB := Aside0.mk (Below.refl w.heap.size w)
  have H : (if a0 = 23 then (warderref03_Time.j0 k a0 l1 ((l1.length : Int) == 13)) else (warderref03_Time.j0 k a0 l1 false)) = some (r1, r2) := h
  clear h
  have HC3 := Aside0.mk H
  clear H
  go_enter Tryd.func20, Tryd.ntmps20
  go_upto_block 0 with (fail)
  go_cut [6, 7] (fun v6 v7 wc => ∃ (kq : Nat) (x6_2 : Int) (x7_2 : List Int), v6 = .int .i64 x6_2 ∧ Aside0 (warderref03_Time.j3 kq x6_2 x7_2 = some (r1, r2)) ∧ Aside0 (kq ≤ k) ∧ Aside0 (Kd.V (Kd.int .u8) 5 wc w.heap.size (fun k_ => (P1_ k_ ∨ w.heap.size ≤ k_)) v7 x7_2) ∧ Aside0 (Below w.heap.size w wc))
  case first =>
    have H := HC3.out
    clear HC3
    have HC4 := Aside0.mk H
    clear H
    go_upto_region 4 with (fail)
    go_cut [19] (fun v19 wc => ∃ (kq : Nat) (x19_3 : Bool), v19 = .bool x19_3 ∧ Aside0 (warderref03_Time.j0 kq a0 l1 x19_3 = some (r1, r2)) ∧ Aside0 (kq ≤ k) ∧ Aside0 (Kd.V (Kd.int .u8) 5 wc w.heap.size (fun k_ => (P1_ k_ ∨ w.heap.size ≤ k_)) (.slice A1 l1.length c1) l1) ∧ Aside0 (Below w.heap.size w wc))
    case first =>
      have H := HC4.out
      clear HC4
      by_cases c5 : a0 = 23
      · rw [if_pos c5] at H
        have c5b0 : (a0 == 23) = true := beq_iff_eq.mpr c5
        have c5b1 : (a0 != 23) = false := bne_eq_false_iff_eq.mpr c5
        clear c5
        (first | rw [c5b0] | (simp only [i64_w, i32_w]; rw [c5b0]) | skip)
        have H' := Aside0.mk H
        clear H
        go_wp2
        go_meet
        case rel => exact ⟨_, (((l1.length : Int) == 13)), (by first | rfl | (simp; done) | (simp [*]; done)), H', ⟨by first | omega | exact Nat.le_refl _⟩, ⟨by (with_reducible repeat (first | apply Kd.V_alloc | apply Kd.V_drewN | apply Kd.V_drew)); exact HO1.out⟩, ⟨by repeat (first | (with_reducible first | exact HB.out | apply below_alloc | apply pw_below_drewN | apply below_drew1) | exact HB.out)⟩⟩
      · rw [if_neg c5] at H
        have c5b0 : (a0 == 23) = false := beq_eq_false_iff_ne.mpr c5
        have c5b1 : (a0 != 23) = true := bne_iff_ne.mpr c5
        (first | rw [c5b0] | (simp only [i64_w, i32_w]; rw [c5b0]) | skip)
        have H' := Aside0.mk H
        clear H
        go_wp2
        go_meet
        case rel => exact ⟨_, (false), (by first | rfl | (simp; done) | (simp [*]; done)), H', ⟨by first | omega | exact Nat.le_refl _⟩, ⟨by (with_reducible repeat (first | apply Kd.V_alloc | apply Kd.V_drewN | apply Kd.V_drew)); exact HO1.out⟩, ⟨by repeat (first | (with_reducible first | exact HB.out | apply below_alloc | apply pw_below_drewN | apply below_drew1) | exact HB.out)⟩⟩
    case rest =>
      clear HC4
      try clear c1
      try clear c2
      try clear p2
      try clear c5
      try clear c5b0
      try clear c5b1
      obtain ⟨kq, x19_3, rfl, HA, HJ3, HO_1, HB⟩ := hcut
      cases kq with
      | zero => exact absurd HA.out (by simp [warderref03_Time.j0])
      | succ kj3 =>
        have H := HA.out
        clear HA
        simp only [warderref03_Time.j0] at H
        by_cases c6 : x19_3 = true
        · subst c6
          have H1 : ((warderref03_number.f l1 0).bind fun t167 => (if t167 ≥ 0 then (warderref03_Time.j1 kj3 l1 (wrap64 (1900 + t167)) t167 (decide (t167 < 50))) else (warderref03_Time.j1 kj3 l1 (wrap64 (1900 + t167)) t167 false))) = some (r1, r2) := by rw [if_pos rfl] at H; exact H
          clear H
          have H := H1
          clear H1
          replace H := Option.bind_eq_some_iff.mp H
          obtain ⟨t167, A70, H⟩ := H
          replace H : (if t167 ≥ 0 then (warderref03_Time.j1 kj3 l1 (wrap64 (1900 + t167)) t167 (decide (t167 < 50))) else (warderref03_Time.j1 kj3 l1 (wrap64 (1900 + t167)) t167 false)) = some (r1, r2) := H
          have A7 := Aside0.mk A70
          clear A70
          have HC8 := Aside0.mk H
          clear H
          go_upto_region 7 with (first | ((with_reducible refine gate_callee (f := 42) rfl ?_); refine goesL_ (some 28) rfl rfl Tryd.func42 (by kernel_rfl) rfl #[.slice A1 l1.length c1, .int .i64 0] rfl (by (try simp only [List.map_toArray, List.map_cons, List.map_nil]); first | done | rfl | (simp only [List.length_drop, List.length_take]; rfl)) ?_; (with_reducible refine (warderref03_number.calls _ _ l1 0 t167 _ ?side1 ?side2 A7.out).mono ?_); (case side1 => repeat (first | exact (Kd.V_reads' HO_1.out).2.2 | (with_reducible refine Kd.C_alloc ?_ _) | (with_reducible refine Kd.C_drewN ?_ _) | (with_reducible refine Kd.C_drew ?_))); (case side2 => exact (Kd.V_reads' HO_1.out).2.1); rintro e w' ⟨rfl, ⟨nd, rfl⟩⟩; refine ⟨_, rfl, ?_⟩))
          (try simp only [Act.put, List.setIfInBounds_toArray, List.set_cons_zero, List.set_cons_succ])
          go_cut [36] (fun v36 wc => ∃ (kq : Nat) (x36_7 : Bool), v36 = .bool x36_7 ∧ Aside0 (warderref03_Time.j1 kq l1 (wrap64 (1900 + t167)) t167 x36_7 = some (r1, r2)) ∧ Aside0 (kq ≤ kj3) ∧ Aside0 (Kd.V (Kd.int .u8) 5 wc w.heap.size (fun k_ => (P1_ k_ ∨ w.heap.size ≤ k_)) (.slice A1 l1.length c1) l1) ∧ Aside0 (Below w.heap.size w wc))
          case first =>
            have H := HC8.out
            clear HC8
            by_cases c9 : t167 ≥ 0
            · rw [if_pos c9] at H
              have c9b0 : decide (0 ≤ t167) = true := decide_eq_true c9
              clear c9
              (first | rw [c9b0] | (simp only [i64_w, i32_w]; rw [c9b0]) | skip)
              have H' := Aside0.mk H
              clear H
              go_wp2
              go_meet
              case rel => exact ⟨_, (decide (t167 < 50)), (by first | rfl | (simp; done) | (simp [*]; done)), H', ⟨by have := HJ3.out; first | omega | exact Nat.le_refl _⟩, ⟨by (with_reducible repeat (first | apply Kd.V_alloc | apply Kd.V_drewN | apply Kd.V_drew)); exact HO_1.out⟩, ⟨by repeat (first | (with_reducible first | exact HB.out | apply below_alloc | apply pw_below_drewN | apply below_drew1) | exact HB.out)⟩⟩
            · rw [if_neg c9] at H
              have c9b0 : decide (0 ≤ t167) = false := decide_eq_false c9
              clear c9
              (first | rw [c9b0] | (simp only [i64_w, i32_w]; rw [c9b0]) | skip)
              have H' := Aside0.mk H
              clear H
              go_wp2
              go_meet
              case rel => exact ⟨_, (false), (by first | rfl | (simp; done) | (simp [*]; done)), H', ⟨by have := HJ3.out; first | omega | exact Nat.le_refl _⟩, ⟨by (with_reducible repeat (first | apply Kd.V_alloc | apply Kd.V_drewN | apply Kd.V_drew)); exact HO_1.out⟩, ⟨by repeat (first | (with_reducible first | exact HB.out | apply below_alloc | apply pw_below_drewN | apply below_drew1) | exact HB.out)⟩⟩
          case rest =>
            clear HC8
            try clear c1
            try clear c2
            try clear p2
            try clear c4
            try clear c5
            try clear c5b0
            try clear c5b1
            try clear c6
            try clear p6
            try clear c9
            try clear c9b0
            try clear p2
            obtain ⟨kq, x36_7, rfl, HA, HJ7, HO_1, HB⟩ := hcut
            cases kq with
            | zero => exact absurd HA.out (by simp [warderref03_Time.j1])
            | succ kj7 =>
              have H := HA.out
              clear HA
              simp only [warderref03_Time.j1] at H
              by_cases c10 : x36_7 = true
              · subst c10
                have H1 : (if 2 ≤ (l1.length : Int) then (if t167 < 0 then (some (0, 32)) else (warderref03_Time.j3 kj7 (wrap64 (2000 + t167)) (l1.drop 2))) else (none)) = some (r1, r2) := by rw [if_pos rfl] at H; exact H
                clear H
                have H := H1
                clear H1
                by_cases c11 : 2 ≤ (l1.length : Int)
                · rw [if_pos c11] at H
                  have c11b0 := eq_true c11
                  have c11b1 : decide (2 ≤ (l1.length : Int)) = true := decide_eq_true c11
                  clear c11
                  obtain ⟨y168, hy168⟩ : ∃ y_ : List Int, y_ = (l1.drop 2) := ⟨_, rfl⟩
                  replace H : (if t167 < 0 then (some (0, 32)) else (warderref03_Time.j3 kj7 (wrap64 (2000 + t167)) y168)) = some (r1, r2) := by first | (rw [hy168]; with_reducible exact H) | (have H2_ := (Option.bind_some _ _).symm.trans H; rw [hy168]; with_reducible exact H2_) | (have H2_ := (Option.bind_some _ _).symm.trans H; with_reducible exact H2_) | with_reducible exact H | (rw [hy168]; exact H) | exact H
                  have Ny168 := Aside0.mk hy168
                  clear hy168
                  by_cases c12 : t167 < 0
                  · rw [if_pos c12] at H
                    have c12b0 : decide (t167 < 0) = true := decide_eq_true c12
                    clear c12
                    simp only [Option.some.injEq, Prod.mk.injEq] at H
                    obtain ⟨rfl, rfl⟩ := H
                    have q13 : (2 : Int) ≤ ((l1.length : Int) : Int) := of_decide_eq_true (by first | (with_reducible assumption) | assumption)
                    obtain ⟨i013, hi013, _, hsz13, _⟩ := info_parts info5
                    have hroom13 : l1.length ≤ c1 := (Kd.V_reads' HO_1.out).2.1
                    have hC13 : Kd.F (Kd.int .u8) _ _ A1 l1.length l1 := (Kd.V_at (base := w.heap.size) HO_1.out).2.2
                    have hcut13 := cut_from (P := Tryd.prog) 22 5 .i64 Tryd.underlying22 hi013 1 hsz13 A1 l1.length c1 2 (by omega) q13
                    have hr13 := Kd.F_cut (m := (2 : Int).toNat) (c := c1) hC13 (by omega) hroom13
                    obtain ⟨A13, hA13⟩ : ∃ A1_, A1_ = (if c1 = (2 : Int).toNat then A1 else (A1 : Option Addr).map (·.add ((2 : Int).toNat * 1))) := ⟨_, rfl⟩
                    obtain ⟨c13, hc13⟩ : ∃ c1_, c1_ = c1 - (2 : Int).toNat := ⟨_, rfl⟩
                    have hy13 : y168.length = l1.length - (2 : Int).toNat := (by rw [Ny168.out, List.length_drop] <;> omega)
                    rw [show (l1).drop (2 : Int).toNat = y168 from Ny168.out.symm] at hr13
                    replace hr13 : Kd.F (Kd.int .u8) _ _ A13 y168.length y168 := (by rw [hA13]; exact hr13)
                    rw [← hy13, ← hA13, ← hc13] at hcut13
                    have HO172 := Aside0.mk (show Kd.V (Kd.int .u8) 5 _ w.heap.size _ (.slice A13 y168.length c13) y168 from Kd.V_mk (by rw [hy13, hc13]; exact Nat.sub_le_sub_right hroom13 _) hr13)
                    have HC172 := Aside0.mk (show y168.length ≤ c13 from by rw [hy13, hc13]; exact Nat.sub_le_sub_right hroom13 _)
                    clear hr13 hC13 hroom13 hi013 hsz13 hc13
                    have KY13 := Aside0.mk hy13
                    have KA13 := Aside0.mk hA13
                    clear hy13 hA13
                    replace q13 := eq_true q13
                    go_wp2
                    go_ret2
                    exact ⟨by first | rfl | (simp [errW_none, errW_some] <;> rfl) | (simp [*, errW_none, errW_some] <;> rfl), by repeat (first | (with_reducible first | exact HB.out | apply below_alloc | apply pw_below_drewN | apply below_drew1) | exact HB.out)⟩
                  · rw [if_neg c12] at H
                    have c12b0 : decide (t167 < 0) = false := decide_eq_false c12
                    clear c12
                    have H' := Aside0.mk H
                    clear H
                    have q14 : (2 : Int) ≤ ((l1.length : Int) : Int) := of_decide_eq_true (by first | (with_reducible assumption) | assumption)
                    obtain ⟨i014, hi014, _, hsz14, _⟩ := info_parts info5
                    have hroom14 : l1.length ≤ c1 := (Kd.V_reads' HO_1.out).2.1
                    have hC14 : Kd.F (Kd.int .u8) _ _ A1 l1.length l1 := (Kd.V_at (base := w.heap.size) HO_1.out).2.2
                    have hcut14 := cut_from (P := Tryd.prog) 22 5 .i64 Tryd.underlying22 hi014 1 hsz14 A1 l1.length c1 2 (by omega) q14
                    have hr14 := Kd.F_cut (m := (2 : Int).toNat) (c := c1) hC14 (by omega) hroom14
                    obtain ⟨A14, hA14⟩ : ∃ A1_, A1_ = (if c1 = (2 : Int).toNat then A1 else (A1 : Option Addr).map (·.add ((2 : Int).toNat * 1))) := ⟨_, rfl⟩
                    obtain ⟨c14, hc14⟩ : ∃ c1_, c1_ = c1 - (2 : Int).toNat := ⟨_, rfl⟩
                    have hy14 : y168.length = l1.length - (2 : Int).toNat := (by rw [Ny168.out, List.length_drop] <;> omega)
                    rw [show (l1).drop (2 : Int).toNat = y168 from Ny168.out.symm] at hr14
                    replace hr14 : Kd.F (Kd.int .u8) _ _ A14 y168.length y168 := (by rw [hA14]; exact hr14)
                    rw [← hy14, ← hA14, ← hc14] at hcut14
                    have HO172 := Aside0.mk (show Kd.V (Kd.int .u8) 5 _ w.heap.size _ (.slice A14 y168.length c14) y168 from Kd.V_mk (by rw [hy14, hc14]; exact Nat.sub_le_sub_right hroom14 _) hr14)
                    have HC172 := Aside0.mk (show y168.length ≤ c14 from by rw [hy14, hc14]; exact Nat.sub_le_sub_right hroom14 _)
                    clear hr14 hC14 hroom14 hi014 hsz14 hc14
                    have KY14 := Aside0.mk hy14
                    have KA14 := Aside0.mk hA14
                    clear hy14 hA14
                    replace q14 := eq_true q14
                    go_wp2
                    go_meet
                    case rel => exact ⟨_, (wrap64 (2000 + t167)), (y168), (by first | rfl | (simp; done) | (simp [*]; done)), H', ⟨by have := HJ3.out; have := HJ7.out; first | omega | exact Nat.le_refl _⟩, ⟨by (with_reducible repeat (first | apply Kd.V_alloc | apply Kd.V_drewN | apply Kd.V_drew)); exact HO172.out⟩, ⟨by repeat (first | (with_reducible first | exact HB.out | apply below_alloc | apply pw_below_drewN | apply below_drew1) | exact HB.out)⟩⟩
                · rw [if_neg c11] at H
                  exact absurd H (by simp)
              · replace c10 := Bool.eq_false_iff.mpr c10
                subst c10
                have H1 : (if 2 ≤ (l1.length : Int) then (if t167 < 0 then (some (0, 32)) else (warderref03_Time.j3 kj7 (wrap64 (1900 + t167)) (l1.drop 2))) else (none)) = some (r1, r2) := by rw [if_neg (show ¬ (false = true) by decide)] at H; exact H
                clear H
                have H := H1
                clear H1
                by_cases c15 : 2 ≤ (l1.length : Int)
                · rw [if_pos c15] at H
                  have c15b0 := eq_true c15
                  have c15b1 : decide (2 ≤ (l1.length : Int)) = true := decide_eq_true c15
                  clear c15
                  obtain ⟨y173, hy173⟩ : ∃ y_ : List Int, y_ = (l1.drop 2) := ⟨_, rfl⟩
                  replace H : (if t167 < 0 then (some (0, 32)) else (warderref03_Time.j3 kj7 (wrap64 (1900 + t167)) y173)) = some (r1, r2) := by first | (rw [hy173]; with_reducible exact H) | (have H2_ := (Option.bind_some _ _).symm.trans H; rw [hy173]; with_reducible exact H2_) | (have H2_ := (Option.bind_some _ _).symm.trans H; with_reducible exact H2_) | with_reducible exact H | (rw [hy173]; exact H) | exact H
                  have Ny173 := Aside0.mk hy173
                  clear hy173
                  by_cases c16 : t167 < 0
                  · rw [if_pos c16] at H
                    have c16b0 : decide (t167 < 0) = true := decide_eq_true c16
                    clear c16
                    simp only [Option.some.injEq, Prod.mk.injEq] at H
                    obtain ⟨rfl, rfl⟩ := H
                    have q17 : (2 : Int) ≤ ((l1.length : Int) : Int) := of_decide_eq_true (by first | (with_reducible assumption) | assumption)
                    obtain ⟨i017, hi017, _, hsz17, _⟩ := info_parts info5
                    have hroom17 : l1.length ≤ c1 := (Kd.V_reads' HO_1.out).2.1
                    have hC17 : Kd.F (Kd.int .u8) _ _ A1 l1.length l1 := (Kd.V_at (base := w.heap.size) HO_1.out).2.2
                    have hcut17 := cut_from (P := Tryd.prog) 22 5 .i64 Tryd.underlying22 hi017 1 hsz17 A1 l1.length c1 2 (by omega) q17
                    have hr17 := Kd.F_cut (m := (2 : Int).toNat) (c := c1) hC17 (by omega) hroom17
                    obtain ⟨A17, hA17⟩ : ∃ A1_, A1_ = (if c1 = (2 : Int).toNat then A1 else (A1 : Option Addr).map (·.add ((2 : Int).toNat * 1))) := ⟨_, rfl⟩
                    obtain ⟨c17, hc17⟩ : ∃ c1_, c1_ = c1 - (2 : Int).toNat := ⟨_, rfl⟩
                    have hy17 : y173.length = l1.length - (2 : Int).toNat := (by rw [Ny173.out, List.length_drop] <;> omega)
                    rw [show (l1).drop (2 : Int).toNat = y173 from Ny173.out.symm] at hr17
                    replace hr17 : Kd.F (Kd.int .u8) _ _ A17 y173.length y173 := (by rw [hA17]; exact hr17)
                    rw [← hy17, ← hA17, ← hc17] at hcut17
                    have HO177 := Aside0.mk (show Kd.V (Kd.int .u8) 5 _ w.heap.size _ (.slice A17 y173.length c17) y173 from Kd.V_mk (by rw [hy17, hc17]; exact Nat.sub_le_sub_right hroom17 _) hr17)
                    have HC177 := Aside0.mk (show y173.length ≤ c17 from by rw [hy17, hc17]; exact Nat.sub_le_sub_right hroom17 _)
                    clear hr17 hC17 hroom17 hi017 hsz17 hc17
                    have KY17 := Aside0.mk hy17
                    have KA17 := Aside0.mk hA17
                    clear hy17 hA17
                    replace q17 := eq_true q17
                    go_wp2
                    go_ret2
                    exact ⟨by first | rfl | (simp [errW_none, errW_some] <;> rfl) | (simp [*, errW_none, errW_some] <;> rfl), by repeat (first | (with_reducible first | exact HB.out | apply below_alloc | apply pw_below_drewN | apply below_drew1) | exact HB.out)⟩
                  · rw [if_neg c16] at H
                    have c16b0 : decide (t167 < 0) = false := decide_eq_false c16
                    clear c16
                    have H' := Aside0.mk H
                    clear H
                    have q18 : (2 : Int) ≤ ((l1.length : Int) : Int) := of_decide_eq_true (by first | (with_reducible assumption) | assumption)
                    obtain ⟨i018, hi018, _, hsz18, _⟩ := info_parts info5
                    have hroom18 : l1.length ≤ c1 := (Kd.V_reads' HO_1.out).2.1
                    have hC18 : Kd.F (Kd.int .u8) _ _ A1 l1.length l1 := (Kd.V_at (base := w.heap.size) HO_1.out).2.2
                    have hcut18 := cut_from (P := Tryd.prog) 22 5 .i64 Tryd.underlying22 hi018 1 hsz18 A1 l1.length c1 2 (by omega) q18
                    have hr18 := Kd.F_cut (m := (2 : Int).toNat) (c := c1) hC18 (by omega) hroom18
                    obtain ⟨A18, hA18⟩ : ∃ A1_, A1_ = (if c1 = (2 : Int).toNat then A1 else (A1 : Option Addr).map (·.add ((2 : Int).toNat * 1))) := ⟨_, rfl⟩
                    obtain ⟨c18, hc18⟩ : ∃ c1_, c1_ = c1 - (2 : Int).toNat := ⟨_, rfl⟩
                    have hy18 : y173.length = l1.length - (2 : Int).toNat := (by rw [Ny173.out, List.length_drop] <;> omega)
                    rw [show (l1).drop (2 : Int).toNat = y173 from Ny173.out.symm] at hr18
                    replace hr18 : Kd.F (Kd.int .u8) _ _ A18 y173.length y173 := (by rw [hA18]; exact hr18)
                    rw [← hy18, ← hA18, ← hc18] at hcut18
                    have HO177 := Aside0.mk (show Kd.V (Kd.int .u8) 5 _ w.heap.size _ (.slice A18 y173.length c18) y173 from Kd.V_mk (by rw [hy18, hc18]; exact Nat.sub_le_sub_right hroom18 _) hr18)
                    have HC177 := Aside0.mk (show y173.length ≤ c18 from by rw [hy18, hc18]; exact Nat.sub_le_sub_right hroom18 _)
                    clear hr18 hC18 hroom18 hi018 hsz18 hc18
                    have KY18 := Aside0.mk hy18
                    have KA18 := Aside0.mk hA18
                    clear hy18 hA18
                    replace q18 := eq_true q18
                    go_wp2
                    go_meet
                    case rel => exact ⟨_, ((wrap64 (1900 + t167))), (y173), (by first | rfl | (simp; done) | (simp [*]; done)), H', ⟨by have := HJ3.out; have := HJ7.out; first | omega | exact Nat.le_refl _⟩, ⟨by (with_reducible repeat (first | apply Kd.V_alloc | apply Kd.V_drewN | apply Kd.V_drew)); exact HO177.out⟩, ⟨by repeat (first | (with_reducible first | exact HB.out | apply below_alloc | apply pw_below_drewN | apply below_drew1) | exact HB.out)⟩⟩
                · rw [if_neg c15] at H
                  exact absurd H (by simp)
        · replace c6 := Bool.eq_false_iff.mpr c6
          subst c6
          have H1 : (if a0 = 24 then (warderref03_Time.j2 kj3 l1 ((l1.length : Int) == 15)) else (warderref03_Time.j2 kj3 l1 false)) = some (r1, r2) := by rw [if_neg (show ¬ (false = true) by decide)] at H; exact H
          clear H
          have H := H1
          clear H1
          have HC19 := Aside0.mk H
          clear H
          go_upto_region 12 with (fail)
          go_cut [43] (fun v43 wc => ∃ (kq : Nat) (x43_18 : Bool), v43 = .bool x43_18 ∧ Aside0 (warderref03_Time.j2 kq l1 x43_18 = some (r1, r2)) ∧ Aside0 (kq ≤ kj3) ∧ Aside0 (Kd.V (Kd.int .u8) 5 wc w.heap.size (fun k_ => (P1_ k_ ∨ w.heap.size ≤ k_)) (.slice A1 l1.length c1) l1) ∧ Aside0 (Below w.heap.size w wc))
          case first =>
            have H := HC19.out
            clear HC19
            by_cases c20 : a0 = 24
            · rw [if_pos c20] at H
              have c20b0 : (a0 == 24) = true := beq_iff_eq.mpr c20
              have c20b1 : (a0 != 24) = false := bne_eq_false_iff_eq.mpr c20
              clear c20
              (first | rw [c20b0] | (simp only [i64_w, i32_w]; rw [c20b0]) | skip)
              have H' := Aside0.mk H
              clear H
              go_wp2
              go_meet
              case rel => exact ⟨_, (((l1.length : Int) == 15)), (by first | rfl | (simp; done) | (simp [*]; done)), H', ⟨by have := HJ3.out; first | omega | exact Nat.le_refl _⟩, ⟨by (with_reducible repeat (first | apply Kd.V_alloc | apply Kd.V_drewN | apply Kd.V_drew)); exact HO_1.out⟩, ⟨by repeat (first | (with_reducible first | exact HB.out | apply below_alloc | apply pw_below_drewN | apply below_drew1) | exact HB.out)⟩⟩
            · rw [if_neg c20] at H
              have c20b0 : (a0 == 24) = false := beq_eq_false_iff_ne.mpr c20
              have c20b1 : (a0 != 24) = true := bne_iff_ne.mpr c20
              (first | rw [c20b0] | (simp only [i64_w, i32_w]; rw [c20b0]) | skip)
              have H' := Aside0.mk H
              clear H
              go_wp2
              go_meet
              case rel => exact ⟨_, (false), (by first | rfl | (simp; done) | (simp [*]; done)), H', ⟨by have := HJ3.out; first | omega | exact Nat.le_refl _⟩, ⟨by (with_reducible repeat (first | apply Kd.V_alloc | apply Kd.V_drewN | apply Kd.V_drew)); exact HO_1.out⟩, ⟨by repeat (first | (with_reducible first | exact HB.out | apply below_alloc | apply pw_below_drewN | apply below_drew1) | exact HB.out)⟩⟩
          case rest =>
            clear HC19
            try clear c1
            try clear q1
            try clear c2
            try clear p2
            try clear c4
            try clear c5
            try clear c5b0
            try clear c5b1
            try clear c6
            try clear p6
            try clear c9
            try clear c9b0
            try clear c10
            try clear c11
            try clear c11b0
            try clear c11b1
            try clear c12
            try clear c12b0
            try clear c13
            try clear q13
            try clear c14
            try clear q14
            try clear c15
            try clear c15b0
            try clear c15b1
            try clear c16
            try clear c16b0
            try clear c17
            try clear q17
            try clear c18
            try clear q18
            try clear c20
            try clear c20b0
            try clear c20b1
            try clear p2
            try clear p6
            try clear q13
            try clear q14
            try clear q17
            try clear q18
            obtain ⟨kq, x43_18, rfl, HA, HJ18, HO_1, HB⟩ := hcut
            cases kq with
            | zero => exact absurd HA.out (by simp [warderref03_Time.j2])
            | succ kj18 =>
              have H := HA.out
              clear HA
              simp only [warderref03_Time.j2] at H
              by_cases c21 : x43_18 = true
              · subst c21
                have H1 : ((warderref03_number.f l1 0).bind fun t178 => ((warderref03_number.f l1 2).bind fun t179 => (if 4 ≤ (l1.length : Int) then (if t178 < 0 then (some (0, 32)) else (if t179 < 0 then (some (0, 32)) else (if (wrap64 ((wrap64 (100 * t178)) + t179)) < 2050 then (some (0, 32)) else (warderref03_Time.j3 kj18 (wrap64 ((wrap64 (100 * t178)) + t179)) (l1.drop 4))))) else (none)))) = some (r1, r2) := by rw [if_pos rfl] at H; exact H
                clear H
                have H := H1
                clear H1
                replace H := Option.bind_eq_some_iff.mp H
                obtain ⟨t178, A220, H⟩ := H
                replace H : ((warderref03_number.f l1 2).bind fun t179 => (if 4 ≤ (l1.length : Int) then (if t178 < 0 then (some (0, 32)) else (if t179 < 0 then (some (0, 32)) else (if (wrap64 ((wrap64 (100 * t178)) + t179)) < 2050 then (some (0, 32)) else (warderref03_Time.j3 kj18 (wrap64 ((wrap64 (100 * t178)) + t179)) (l1.drop 4))))) else (none))) = some (r1, r2) := H
                have A22 := Aside0.mk A220
                clear A220
                replace H := Option.bind_eq_some_iff.mp H
                obtain ⟨t179, A230, H⟩ := H
                replace H : (if 4 ≤ (l1.length : Int) then (if t178 < 0 then (some (0, 32)) else (if t179 < 0 then (some (0, 32)) else (if (wrap64 ((wrap64 (100 * t178)) + t179)) < 2050 then (some (0, 32)) else (warderref03_Time.j3 kj18 (wrap64 ((wrap64 (100 * t178)) + t179)) (l1.drop 4))))) else (none)) = some (r1, r2) := H
                have A23 := Aside0.mk A230
                clear A230
                by_cases c24 : 4 ≤ (l1.length : Int)
                · rw [if_pos c24] at H
                  have c24b0 := eq_true c24
                  have c24b1 : decide (4 ≤ (l1.length : Int)) = true := decide_eq_true c24
                  clear c24
                  obtain ⟨y180, hy180⟩ : ∃ y_ : List Int, y_ = (l1.drop 4) := ⟨_, rfl⟩
                  replace H : (if t178 < 0 then (some (0, 32)) else (if t179 < 0 then (some (0, 32)) else (if (wrap64 ((wrap64 (100 * t178)) + t179)) < 2050 then (some (0, 32)) else (warderref03_Time.j3 kj18 (wrap64 ((wrap64 (100 * t178)) + t179)) y180)))) = some (r1, r2) := by first | (rw [hy180]; with_reducible exact H) | (have H2_ := (Option.bind_some _ _).symm.trans H; rw [hy180]; with_reducible exact H2_) | (have H2_ := (Option.bind_some _ _).symm.trans H; with_reducible exact H2_) | with_reducible exact H | (rw [hy180]; exact H) | exact H
                  have Ny180 := Aside0.mk hy180
                  clear hy180
                  by_cases c25 : t178 < 0
                  · rw [if_pos c25] at H
                    have c25b0 : decide (t178 < 0) = true := decide_eq_true c25
                    clear c25
                    simp only [Option.some.injEq, Prod.mk.injEq] at H
                    obtain ⟨rfl, rfl⟩ := H
                    go_wp2_with (first | ((with_reducible refine gate_callee (f := 42) rfl ?_); refine goesL_ (some 52) rfl rfl Tryd.func42 (by kernel_rfl) rfl #[.slice A1 l1.length c1, .int .i64 0] rfl (by (try simp only [List.map_toArray, List.map_cons, List.map_nil]); first | done | rfl | (simp only [List.length_drop, List.length_take]; rfl)) ?_; (with_reducible refine (warderref03_number.calls _ _ l1 0 t178 _ ?side1 ?side2 A22.out).mono ?_); (case side1 => repeat (first | exact (Kd.V_reads' HO_1.out).2.2 | (with_reducible refine Kd.C_alloc ?_ _) | (with_reducible refine Kd.C_drewN ?_ _) | (with_reducible refine Kd.C_drew ?_))); (case side2 => exact (Kd.V_reads' HO_1.out).2.1); rintro e w' ⟨rfl, ⟨nd, rfl⟩⟩; refine ⟨_, rfl, ?_⟩) | ((with_reducible refine gate_callee (f := 42) rfl ?_); refine goesL_ (some 54) rfl rfl Tryd.func42 (by kernel_rfl) rfl #[.slice A1 l1.length c1, .int .i64 2] rfl (by (try simp only [List.map_toArray, List.map_cons, List.map_nil]); first | done | rfl | (simp only [List.length_drop, List.length_take]; rfl)) ?_; (with_reducible refine (warderref03_number.calls _ _ l1 2 t179 _ ?side1 ?side2 A23.out).mono ?_); (case side1 => repeat (first | exact (Kd.V_reads' HO_1.out).2.2 | (with_reducible refine Kd.C_alloc ?_ _) | (with_reducible refine Kd.C_drewN ?_ _) | (with_reducible refine Kd.C_drew ?_))); (case side2 => exact (Kd.V_reads' HO_1.out).2.1); rintro e w' ⟨rfl, ⟨nd, rfl⟩⟩; refine ⟨_, rfl, ?_⟩; have q26 : (4 : Int) ≤ ((l1.length : Int) : Int) := of_decide_eq_true (by first | (with_reducible assumption) | assumption); obtain ⟨i026, hi026, _, hsz26, _⟩ := info_parts info5; have hroom26 : l1.length ≤ c1 := (Kd.V_reads' HO_1.out).2.1; have hC26 : Kd.F (Kd.int .u8) _ _ A1 l1.length l1 := (Kd.V_at (base := w.heap.size) HO_1.out).2.2; have hcut26 := cut_from (P := Tryd.prog) 22 5 .i64 Tryd.underlying22 hi026 1 hsz26 A1 l1.length c1 4 (by omega) q26; have hr26 := Kd.F_cut (m := (4 : Int).toNat) (c := c1) hC26 (by omega) hroom26; obtain ⟨A26, hA26⟩ : ∃ A1_, A1_ = (if c1 = (4 : Int).toNat then A1 else (A1 : Option Addr).map (·.add ((4 : Int).toNat * 1))) := ⟨_, rfl⟩; obtain ⟨c26, hc26⟩ : ∃ c1_, c1_ = c1 - (4 : Int).toNat := ⟨_, rfl⟩; have hy26 : y180.length = l1.length - (4 : Int).toNat := (by rw [Ny180.out, List.length_drop] <;> omega); rw [show (l1).drop (4 : Int).toNat = y180 from Ny180.out.symm] at hr26; replace hr26 : Kd.F (Kd.int .u8) _ _ A26 y180.length y180 := (by rw [hA26]; exact hr26); rw [← hy26, ← hA26, ← hc26] at hcut26; have HO184 := Aside0.mk (show Kd.V (Kd.int .u8) 5 _ w.heap.size _ (.slice A26 y180.length c26) y180 from Kd.V_mk (by rw [hy26, hc26]; exact Nat.sub_le_sub_right hroom26 _) hr26); have HC184 := Aside0.mk (show y180.length ≤ c26 from by rw [hy26, hc26]; exact Nat.sub_le_sub_right hroom26 _); clear hr26 hC26 hroom26 hi026 hsz26 hc26; have KY26 := Aside0.mk hy26; have KA26 := Aside0.mk hA26; clear hy26 hA26; replace q26 := eq_true q26))
                    go_ret2
                    exact ⟨by first | rfl | (simp [errW_none, errW_some] <;> rfl) | (simp [*, errW_none, errW_some] <;> rfl), by repeat (first | (with_reducible first | exact HB.out | apply below_alloc | apply pw_below_drewN | apply below_drew1) | exact HB.out)⟩
                  · rw [if_neg c25] at H
                    have c25b0 : decide (t178 < 0) = false := decide_eq_false c25
                    clear c25
                    by_cases c27 : t179 < 0
                    · rw [if_pos c27] at H
                      have c27b0 : decide (t179 < 0) = true := decide_eq_true c27
                      clear c27
                      simp only [Option.some.injEq, Prod.mk.injEq] at H
                      obtain ⟨rfl, rfl⟩ := H
                      go_wp2_with (first | ((with_reducible refine gate_callee (f := 42) rfl ?_); refine goesL_ (some 52) rfl rfl Tryd.func42 (by kernel_rfl) rfl #[.slice A1 l1.length c1, .int .i64 0] rfl (by (try simp only [List.map_toArray, List.map_cons, List.map_nil]); first | done | rfl | (simp only [List.length_drop, List.length_take]; rfl)) ?_; (with_reducible refine (warderref03_number.calls _ _ l1 0 t178 _ ?side1 ?side2 A22.out).mono ?_); (case side1 => repeat (first | exact (Kd.V_reads' HO_1.out).2.2 | (with_reducible refine Kd.C_alloc ?_ _) | (with_reducible refine Kd.C_drewN ?_ _) | (with_reducible refine Kd.C_drew ?_))); (case side2 => exact (Kd.V_reads' HO_1.out).2.1); rintro e w' ⟨rfl, ⟨nd, rfl⟩⟩; refine ⟨_, rfl, ?_⟩) | ((with_reducible refine gate_callee (f := 42) rfl ?_); refine goesL_ (some 54) rfl rfl Tryd.func42 (by kernel_rfl) rfl #[.slice A1 l1.length c1, .int .i64 2] rfl (by (try simp only [List.map_toArray, List.map_cons, List.map_nil]); first | done | rfl | (simp only [List.length_drop, List.length_take]; rfl)) ?_; (with_reducible refine (warderref03_number.calls _ _ l1 2 t179 _ ?side1 ?side2 A23.out).mono ?_); (case side1 => repeat (first | exact (Kd.V_reads' HO_1.out).2.2 | (with_reducible refine Kd.C_alloc ?_ _) | (with_reducible refine Kd.C_drewN ?_ _) | (with_reducible refine Kd.C_drew ?_))); (case side2 => exact (Kd.V_reads' HO_1.out).2.1); rintro e w' ⟨rfl, ⟨nd, rfl⟩⟩; refine ⟨_, rfl, ?_⟩; have q28 : (4 : Int) ≤ ((l1.length : Int) : Int) := of_decide_eq_true (by first | (with_reducible assumption) | assumption); obtain ⟨i028, hi028, _, hsz28, _⟩ := info_parts info5; have hroom28 : l1.length ≤ c1 := (Kd.V_reads' HO_1.out).2.1; have hC28 : Kd.F (Kd.int .u8) _ _ A1 l1.length l1 := (Kd.V_at (base := w.heap.size) HO_1.out).2.2; have hcut28 := cut_from (P := Tryd.prog) 22 5 .i64 Tryd.underlying22 hi028 1 hsz28 A1 l1.length c1 4 (by omega) q28; have hr28 := Kd.F_cut (m := (4 : Int).toNat) (c := c1) hC28 (by omega) hroom28; obtain ⟨A28, hA28⟩ : ∃ A1_, A1_ = (if c1 = (4 : Int).toNat then A1 else (A1 : Option Addr).map (·.add ((4 : Int).toNat * 1))) := ⟨_, rfl⟩; obtain ⟨c28, hc28⟩ : ∃ c1_, c1_ = c1 - (4 : Int).toNat := ⟨_, rfl⟩; have hy28 : y180.length = l1.length - (4 : Int).toNat := (by rw [Ny180.out, List.length_drop] <;> omega); rw [show (l1).drop (4 : Int).toNat = y180 from Ny180.out.symm] at hr28; replace hr28 : Kd.F (Kd.int .u8) _ _ A28 y180.length y180 := (by rw [hA28]; exact hr28); rw [← hy28, ← hA28, ← hc28] at hcut28; have HO184 := Aside0.mk (show Kd.V (Kd.int .u8) 5 _ w.heap.size _ (.slice A28 y180.length c28) y180 from Kd.V_mk (by rw [hy28, hc28]; exact Nat.sub_le_sub_right hroom28 _) hr28); have HC184 := Aside0.mk (show y180.length ≤ c28 from by rw [hy28, hc28]; exact Nat.sub_le_sub_right hroom28 _); clear hr28 hC28 hroom28 hi028 hsz28 hc28; have KY28 := Aside0.mk hy28; have KA28 := Aside0.mk hA28; clear hy28 hA28; replace q28 := eq_true q28))
                      go_ret2
                      exact ⟨by first | rfl | (simp [errW_none, errW_some] <;> rfl) | (simp [*, errW_none, errW_some] <;> rfl), by repeat (first | (with_reducible first | exact HB.out | apply below_alloc | apply pw_below_drewN | apply below_drew1) | exact HB.out)⟩
                    · rw [if_neg c27] at H
                      have c27b0 : decide (t179 < 0) = false := decide_eq_false c27
                      clear c27
                      by_cases c29 : (wrap64 ((wrap64 (100 * t178)) + t179)) < 2050
                      · rw [if_pos c29] at H
                        have c29b0 : decide ((wrap64 ((wrap64 (100 * t178)) + t179)) < 2050) = true := decide_eq_true c29
                        clear c29
                        simp only [Option.some.injEq, Prod.mk.injEq] at H
                        obtain ⟨rfl, rfl⟩ := H
                        go_wp2_with (first | ((with_reducible refine gate_callee (f := 42) rfl ?_); refine goesL_ (some 52) rfl rfl Tryd.func42 (by kernel_rfl) rfl #[.slice A1 l1.length c1, .int .i64 0] rfl (by (try simp only [List.map_toArray, List.map_cons, List.map_nil]); first | done | rfl | (simp only [List.length_drop, List.length_take]; rfl)) ?_; (with_reducible refine (warderref03_number.calls _ _ l1 0 t178 _ ?side1 ?side2 A22.out).mono ?_); (case side1 => repeat (first | exact (Kd.V_reads' HO_1.out).2.2 | (with_reducible refine Kd.C_alloc ?_ _) | (with_reducible refine Kd.C_drewN ?_ _) | (with_reducible refine Kd.C_drew ?_))); (case side2 => exact (Kd.V_reads' HO_1.out).2.1); rintro e w' ⟨rfl, ⟨nd, rfl⟩⟩; refine ⟨_, rfl, ?_⟩) | ((with_reducible refine gate_callee (f := 42) rfl ?_); refine goesL_ (some 54) rfl rfl Tryd.func42 (by kernel_rfl) rfl #[.slice A1 l1.length c1, .int .i64 2] rfl (by (try simp only [List.map_toArray, List.map_cons, List.map_nil]); first | done | rfl | (simp only [List.length_drop, List.length_take]; rfl)) ?_; (with_reducible refine (warderref03_number.calls _ _ l1 2 t179 _ ?side1 ?side2 A23.out).mono ?_); (case side1 => repeat (first | exact (Kd.V_reads' HO_1.out).2.2 | (with_reducible refine Kd.C_alloc ?_ _) | (with_reducible refine Kd.C_drewN ?_ _) | (with_reducible refine Kd.C_drew ?_))); (case side2 => exact (Kd.V_reads' HO_1.out).2.1); rintro e w' ⟨rfl, ⟨nd, rfl⟩⟩; refine ⟨_, rfl, ?_⟩; have q30 : (4 : Int) ≤ ((l1.length : Int) : Int) := of_decide_eq_true (by first | (with_reducible assumption) | assumption); obtain ⟨i030, hi030, _, hsz30, _⟩ := info_parts info5; have hroom30 : l1.length ≤ c1 := (Kd.V_reads' HO_1.out).2.1; have hC30 : Kd.F (Kd.int .u8) _ _ A1 l1.length l1 := (Kd.V_at (base := w.heap.size) HO_1.out).2.2; have hcut30 := cut_from (P := Tryd.prog) 22 5 .i64 Tryd.underlying22 hi030 1 hsz30 A1 l1.length c1 4 (by omega) q30; have hr30 := Kd.F_cut (m := (4 : Int).toNat) (c := c1) hC30 (by omega) hroom30; obtain ⟨A30, hA30⟩ : ∃ A1_, A1_ = (if c1 = (4 : Int).toNat then A1 else (A1 : Option Addr).map (·.add ((4 : Int).toNat * 1))) := ⟨_, rfl⟩; obtain ⟨c30, hc30⟩ : ∃ c1_, c1_ = c1 - (4 : Int).toNat := ⟨_, rfl⟩; have hy30 : y180.length = l1.length - (4 : Int).toNat := (by rw [Ny180.out, List.length_drop] <;> omega); rw [show (l1).drop (4 : Int).toNat = y180 from Ny180.out.symm] at hr30; replace hr30 : Kd.F (Kd.int .u8) _ _ A30 y180.length y180 := (by rw [hA30]; exact hr30); rw [← hy30, ← hA30, ← hc30] at hcut30; have HO184 := Aside0.mk (show Kd.V (Kd.int .u8) 5 _ w.heap.size _ (.slice A30 y180.length c30) y180 from Kd.V_mk (by rw [hy30, hc30]; exact Nat.sub_le_sub_right hroom30 _) hr30); have HC184 := Aside0.mk (show y180.length ≤ c30 from by rw [hy30, hc30]; exact Nat.sub_le_sub_right hroom30 _); clear hr30 hC30 hroom30 hi030 hsz30 hc30; have KY30 := Aside0.mk hy30; have KA30 := Aside0.mk hA30; clear hy30 hA30; replace q30 := eq_true q30))
                        go_ret2
                        exact ⟨by first | rfl | (simp [errW_none, errW_some] <;> rfl) | (simp [*, errW_none, errW_some] <;> rfl), by repeat (first | (with_reducible first | exact HB.out | apply below_alloc | apply pw_below_drewN | apply below_drew1) | exact HB.out)⟩
                      · rw [if_neg c29] at H
                        have c29b0 : decide ((wrap64 ((wrap64 (100 * t178)) + t179)) < 2050) = false := decide_eq_false c29
                        clear c29
                        have H' := Aside0.mk H
                        clear H
                        go_wp2_with (first | ((with_reducible refine gate_callee (f := 42) rfl ?_); refine goesL_ (some 52) rfl rfl Tryd.func42 (by kernel_rfl) rfl #[.slice A1 l1.length c1, .int .i64 0] rfl (by (try simp only [List.map_toArray, List.map_cons, List.map_nil]); first | done | rfl | (simp only [List.length_drop, List.length_take]; rfl)) ?_; (with_reducible refine (warderref03_number.calls _ _ l1 0 t178 _ ?side1 ?side2 A22.out).mono ?_); (case side1 => repeat (first | exact (Kd.V_reads' HO_1.out).2.2 | (with_reducible refine Kd.C_alloc ?_ _) | (with_reducible refine Kd.C_drewN ?_ _) | (with_reducible refine Kd.C_drew ?_))); (case side2 => exact (Kd.V_reads' HO_1.out).2.1); rintro e w' ⟨rfl, ⟨nd, rfl⟩⟩; refine ⟨_, rfl, ?_⟩) | ((with_reducible refine gate_callee (f := 42) rfl ?_); refine goesL_ (some 54) rfl rfl Tryd.func42 (by kernel_rfl) rfl #[.slice A1 l1.length c1, .int .i64 2] rfl (by (try simp only [List.map_toArray, List.map_cons, List.map_nil]); first | done | rfl | (simp only [List.length_drop, List.length_take]; rfl)) ?_; (with_reducible refine (warderref03_number.calls _ _ l1 2 t179 _ ?side1 ?side2 A23.out).mono ?_); (case side1 => repeat (first | exact (Kd.V_reads' HO_1.out).2.2 | (with_reducible refine Kd.C_alloc ?_ _) | (with_reducible refine Kd.C_drewN ?_ _) | (with_reducible refine Kd.C_drew ?_))); (case side2 => exact (Kd.V_reads' HO_1.out).2.1); rintro e w' ⟨rfl, ⟨nd, rfl⟩⟩; refine ⟨_, rfl, ?_⟩; have q31 : (4 : Int) ≤ ((l1.length : Int) : Int) := of_decide_eq_true (by first | (with_reducible assumption) | assumption); obtain ⟨i031, hi031, _, hsz31, _⟩ := info_parts info5; have hroom31 : l1.length ≤ c1 := (Kd.V_reads' HO_1.out).2.1; have hC31 : Kd.F (Kd.int .u8) _ _ A1 l1.length l1 := (Kd.V_at (base := w.heap.size) HO_1.out).2.2; have hcut31 := cut_from (P := Tryd.prog) 22 5 .i64 Tryd.underlying22 hi031 1 hsz31 A1 l1.length c1 4 (by omega) q31; have hr31 := Kd.F_cut (m := (4 : Int).toNat) (c := c1) hC31 (by omega) hroom31; obtain ⟨A31, hA31⟩ : ∃ A1_, A1_ = (if c1 = (4 : Int).toNat then A1 else (A1 : Option Addr).map (·.add ((4 : Int).toNat * 1))) := ⟨_, rfl⟩; obtain ⟨c31, hc31⟩ : ∃ c1_, c1_ = c1 - (4 : Int).toNat := ⟨_, rfl⟩; have hy31 : y180.length = l1.length - (4 : Int).toNat := (by rw [Ny180.out, List.length_drop] <;> omega); rw [show (l1).drop (4 : Int).toNat = y180 from Ny180.out.symm] at hr31; replace hr31 : Kd.F (Kd.int .u8) _ _ A31 y180.length y180 := (by rw [hA31]; exact hr31); rw [← hy31, ← hA31, ← hc31] at hcut31; have HO184 := Aside0.mk (show Kd.V (Kd.int .u8) 5 _ w.heap.size _ (.slice A31 y180.length c31) y180 from Kd.V_mk (by rw [hy31, hc31]; exact Nat.sub_le_sub_right hroom31 _) hr31); have HC184 := Aside0.mk (show y180.length ≤ c31 from by rw [hy31, hc31]; exact Nat.sub_le_sub_right hroom31 _); clear hr31 hC31 hroom31 hi031 hsz31 hc31; have KY31 := Aside0.mk hy31; have KA31 := Aside0.mk hA31; clear hy31 hA31; replace q31 := eq_true q31))
                        go_meet
                        case rel => exact ⟨_, (wrap64 ((wrap64 (100 * t178)) + t179)), (y180), (by first | rfl | (simp; done) | (simp [*]; done)), H', ⟨by have := HJ3.out; have := HJ18.out; first | omega | exact Nat.le_refl _⟩, ⟨by (with_reducible repeat (first | apply Kd.V_alloc | apply Kd.V_drewN | apply Kd.V_drew)); exact HO184.out⟩, ⟨by repeat (first | (with_reducible first | exact HB.out | apply below_alloc | apply pw_below_drewN | apply below_drew1) | exact HB.out)⟩⟩
                · rw [if_neg c24] at H
                  exact absurd H (by simp)
              · replace c21 := Bool.eq_false_iff.mpr c21
                subst c21
                have H1 : (some (0, 32)) = some (r1, r2) := by rw [if_neg (show ¬ (false = true) by decide)] at H; exact H
                clear H
                have H := H1
                clear H1
                simp only [Option.some.injEq, Prod.mk.injEq] at H
                obtain ⟨rfl, rfl⟩ := H
                go_wp2
                go_ret2
                exact ⟨by first | rfl | (simp [errW_none, errW_some] <;> rfl) | (simp [*, errW_none, errW_some] <;> rfl), by repeat (first | (with_reducible first | exact HB.out | apply below_alloc | apply pw_below_drewN | apply below_drew1) | exact HB.out)⟩
  case rest =>
    clear HC3
    try clear c1
    try clear q1
    try clear c2
    try clear p2
    try clear q2
    try clear c3
    try clear q3
    try clear c4
    try clear c5
    try clear c5b0
    try clear c5b1
    try clear c6
    try clear p6
    try clear c9
    try clear c9b0
    try clear c10
    try clear c11
    try clear c11b0
    try clear c11b1
    try clear c12
    try clear c12b0
    try clear c13
    try clear q13
    try clear c14
    try clear q14
    try clear c15
    try clear c15b0
    try clear c15b1
    try clear c16
    try clear c16b0
    try clear c17
    try clear q17
    try clear c18
    try clear q18
    try clear c20
    try clear c20b0
    try clear c20b1
    try clear c21
    try clear c24
    try clear c24b0
    try clear c24b1
    try clear c25
    try clear c25b0
    try clear c26
    try clear q26
    try clear c27
    try clear c27b0
    try clear c28
    try clear q28
    try clear c29
    try clear c29b0
    try clear c30
    try clear q30
    try clear c31
    try clear q31
    try clear p2
    try clear p6
    try clear q1
    try clear q13
    try clear q14
    try clear q17
    try clear q18
    try clear q26
    try clear q28
    try clear q30
    try clear q31
    obtain ⟨kq, x6_2, x7_2, rfl, HA, HJ2, HO_7, HB⟩ := hcut
    cases kq with
    | zero => exact absurd HA.out (by simp [warderref03_Time.j3])
    | succ kj2 =>
      have H := HA.out
      clear HA
      simp only [warderref03_Time.j3] at H
      replace H := Option.bind_eq_some_iff.mp H
      obtain ⟨t185, A320, H⟩ := H
      replace H : ((warderref03_number.f x7_2 2).bind fun t186 => ((warderref03_number.f x7_2 4).bind fun t187 => ((warderref03_number.f x7_2 6).bind fun t188 => ((warderref03_number.f x7_2 8).bind fun t189 => (if 10 < (x7_2.length : Int) then (if (rd x7_2 10) = 90 then (if t185 < 1 then (warderref03_Time.j4 kj2 x6_2 t185 t186 t187 t188 t189 true) else (if t185 > 12 then (warderref03_Time.j4 kj2 x6_2 t185 t186 t187 t188 t189 true) else (if t186 < 1 then (warderref03_Time.j4 kj2 x6_2 t185 t186 t187 t188 t189 true) else (if t187 < 0 then (warderref03_Time.j4 kj2 x6_2 t185 t186 t187 t188 t189 true) else (if t187 > 23 then (warderref03_Time.j4 kj2 x6_2 t185 t186 t187 t188 t189 true) else (if t188 < 0 then (warderref03_Time.j4 kj2 x6_2 t185 t186 t187 t188 t189 true) else (if t188 > 59 then (warderref03_Time.j4 kj2 x6_2 t185 t186 t187 t188 t189 true) else (if t189 < 0 then (warderref03_Time.j4 kj2 x6_2 t185 t186 t187 t188 t189 true) else (warderref03_Time.j4 kj2 x6_2 t185 t186 t187 t188 t189 (decide (t189 > 59))))))))))) else (warderref03_Time.j4 kj2 x6_2 t185 t186 t187 t188 t189 true)) else (none)))))) = some (r1, r2) := H
      have A32 := Aside0.mk A320
      clear A320
      replace H := Option.bind_eq_some_iff.mp H
      obtain ⟨t186, A330, H⟩ := H
      replace H : ((warderref03_number.f x7_2 4).bind fun t187 => ((warderref03_number.f x7_2 6).bind fun t188 => ((warderref03_number.f x7_2 8).bind fun t189 => (if 10 < (x7_2.length : Int) then (if (rd x7_2 10) = 90 then (if t185 < 1 then (warderref03_Time.j4 kj2 x6_2 t185 t186 t187 t188 t189 true) else (if t185 > 12 then (warderref03_Time.j4 kj2 x6_2 t185 t186 t187 t188 t189 true) else (if t186 < 1 then (warderref03_Time.j4 kj2 x6_2 t185 t186 t187 t188 t189 true) else (if t187 < 0 then (warderref03_Time.j4 kj2 x6_2 t185 t186 t187 t188 t189 true) else (if t187 > 23 then (warderref03_Time.j4 kj2 x6_2 t185 t186 t187 t188 t189 true) else (if t188 < 0 then (warderref03_Time.j4 kj2 x6_2 t185 t186 t187 t188 t189 true) else (if t188 > 59 then (warderref03_Time.j4 kj2 x6_2 t185 t186 t187 t188 t189 true) else (if t189 < 0 then (warderref03_Time.j4 kj2 x6_2 t185 t186 t187 t188 t189 true) else (warderref03_Time.j4 kj2 x6_2 t185 t186 t187 t188 t189 (decide (t189 > 59))))))))))) else (warderref03_Time.j4 kj2 x6_2 t185 t186 t187 t188 t189 true)) else (none))))) = some (r1, r2) := H
      have A33 := Aside0.mk A330
      clear A330
      replace H := Option.bind_eq_some_iff.mp H
      obtain ⟨t187, A340, H⟩ := H
      replace H : ((warderref03_number.f x7_2 6).bind fun t188 => ((warderref03_number.f x7_2 8).bind fun t189 => (if 10 < (x7_2.length : Int) then (if (rd x7_2 10) = 90 then (if t185 < 1 then (warderref03_Time.j4 kj2 x6_2 t185 t186 t187 t188 t189 true) else (if t185 > 12 then (warderref03_Time.j4 kj2 x6_2 t185 t186 t187 t188 t189 true) else (if t186 < 1 then (warderref03_Time.j4 kj2 x6_2 t185 t186 t187 t188 t189 true) else (if t187 < 0 then (warderref03_Time.j4 kj2 x6_2 t185 t186 t187 t188 t189 true) else (if t187 > 23 then (warderref03_Time.j4 kj2 x6_2 t185 t186 t187 t188 t189 true) else (if t188 < 0 then (warderref03_Time.j4 kj2 x6_2 t185 t186 t187 t188 t189 true) else (if t188 > 59 then (warderref03_Time.j4 kj2 x6_2 t185 t186 t187 t188 t189 true) else (if t189 < 0 then (warderref03_Time.j4 kj2 x6_2 t185 t186 t187 t188 t189 true) else (warderref03_Time.j4 kj2 x6_2 t185 t186 t187 t188 t189 (decide (t189 > 59))))))))))) else (warderref03_Time.j4 kj2 x6_2 t185 t186 t187 t188 t189 true)) else (none)))) = some (r1, r2) := H
      have A34 := Aside0.mk A340
      clear A340
      replace H := Option.bind_eq_some_iff.mp H
      obtain ⟨t188, A350, H⟩ := H
      replace H : ((warderref03_number.f x7_2 8).bind fun t189 => (if 10 < (x7_2.length : Int) then (if (rd x7_2 10) = 90 then (if t185 < 1 then (warderref03_Time.j4 kj2 x6_2 t185 t186 t187 t188 t189 true) else (if t185 > 12 then (warderref03_Time.j4 kj2 x6_2 t185 t186 t187 t188 t189 true) else (if t186 < 1 then (warderref03_Time.j4 kj2 x6_2 t185 t186 t187 t188 t189 true) else (if t187 < 0 then (warderref03_Time.j4 kj2 x6_2 t185 t186 t187 t188 t189 true) else (if t187 > 23 then (warderref03_Time.j4 kj2 x6_2 t185 t186 t187 t188 t189 true) else (if t188 < 0 then (warderref03_Time.j4 kj2 x6_2 t185 t186 t187 t188 t189 true) else (if t188 > 59 then (warderref03_Time.j4 kj2 x6_2 t185 t186 t187 t188 t189 true) else (if t189 < 0 then (warderref03_Time.j4 kj2 x6_2 t185 t186 t187 t188 t189 true) else (warderref03_Time.j4 kj2 x6_2 t185 t186 t187 t188 t189 (decide (t189 > 59))))))))))) else (warderref03_Time.j4 kj2 x6_2 t185 t186 t187 t188 t189 true)) else (none))) = some (r1, r2) := H
      have A35 := Aside0.mk A350
      clear A350
      replace H := Option.bind_eq_some_iff.mp H
      obtain ⟨t189, A360, H⟩ := H
      replace H : (if 10 < (x7_2.length : Int) then (if (rd x7_2 10) = 90 then (if t185 < 1 then (warderref03_Time.j4 kj2 x6_2 t185 t186 t187 t188 t189 true) else (if t185 > 12 then (warderref03_Time.j4 kj2 x6_2 t185 t186 t187 t188 t189 true) else (if t186 < 1 then (warderref03_Time.j4 kj2 x6_2 t185 t186 t187 t188 t189 true) else (if t187 < 0 then (warderref03_Time.j4 kj2 x6_2 t185 t186 t187 t188 t189 true) else (if t187 > 23 then (warderref03_Time.j4 kj2 x6_2 t185 t186 t187 t188 t189 true) else (if t188 < 0 then (warderref03_Time.j4 kj2 x6_2 t185 t186 t187 t188 t189 true) else (if t188 > 59 then (warderref03_Time.j4 kj2 x6_2 t185 t186 t187 t188 t189 true) else (if t189 < 0 then (warderref03_Time.j4 kj2 x6_2 t185 t186 t187 t188 t189 true) else (warderref03_Time.j4 kj2 x6_2 t185 t186 t187 t188 t189 (decide (t189 > 59))))))))))) else (warderref03_Time.j4 kj2 x6_2 t185 t186 t187 t188 t189 true)) else (none)) = some (r1, r2) := H
      have A36 := Aside0.mk A360
      clear A360
      have HC37 := Aside0.mk H
      clear H
      obtain ⟨Ao38, co38, eo38⟩ := Kd.V_slice HO_7.out
      subst eo38
      go_upto_region 24 with (first | ((with_reducible refine gate_callee (f := 42) rfl ?_); refine goesL_ (some 72) rfl rfl Tryd.func42 (by kernel_rfl) rfl #[.slice Ao38 x7_2.length co38, .int .i64 0] rfl (by (try simp only [List.map_toArray, List.map_cons, List.map_nil]); first | done | rfl | (simp only [List.length_drop, List.length_take]; rfl)) ?_; (with_reducible refine (warderref03_number.calls _ _ x7_2 0 t185 _ ?side1 ?side2 A32.out).mono ?_); (case side1 => repeat (first | exact (Kd.V_reads' HO_7.out).2.2 | (with_reducible refine Kd.C_alloc ?_ _) | (with_reducible refine Kd.C_drewN ?_ _) | (with_reducible refine Kd.C_drew ?_))); (case side2 => exact (Kd.V_reads' HO_7.out).2.1); rintro e w' ⟨rfl, ⟨nd, rfl⟩⟩; refine ⟨_, rfl, ?_⟩) | ((with_reducible refine gate_callee (f := 42) rfl ?_); refine goesL_ (some 74) rfl rfl Tryd.func42 (by kernel_rfl) rfl #[.slice Ao38 x7_2.length co38, .int .i64 2] rfl (by (try simp only [List.map_toArray, List.map_cons, List.map_nil]); first | done | rfl | (simp only [List.length_drop, List.length_take]; rfl)) ?_; (with_reducible refine (warderref03_number.calls _ _ x7_2 2 t186 _ ?side1 ?side2 A33.out).mono ?_); (case side1 => repeat (first | exact (Kd.V_reads' HO_7.out).2.2 | (with_reducible refine Kd.C_alloc ?_ _) | (with_reducible refine Kd.C_drewN ?_ _) | (with_reducible refine Kd.C_drew ?_))); (case side2 => exact (Kd.V_reads' HO_7.out).2.1); rintro e w' ⟨rfl, ⟨nd, rfl⟩⟩; refine ⟨_, rfl, ?_⟩) | ((with_reducible refine gate_callee (f := 42) rfl ?_); refine goesL_ (some 76) rfl rfl Tryd.func42 (by kernel_rfl) rfl #[.slice Ao38 x7_2.length co38, .int .i64 4] rfl (by (try simp only [List.map_toArray, List.map_cons, List.map_nil]); first | done | rfl | (simp only [List.length_drop, List.length_take]; rfl)) ?_; (with_reducible refine (warderref03_number.calls _ _ x7_2 4 t187 _ ?side1 ?side2 A34.out).mono ?_); (case side1 => repeat (first | exact (Kd.V_reads' HO_7.out).2.2 | (with_reducible refine Kd.C_alloc ?_ _) | (with_reducible refine Kd.C_drewN ?_ _) | (with_reducible refine Kd.C_drew ?_))); (case side2 => exact (Kd.V_reads' HO_7.out).2.1); rintro e w' ⟨rfl, ⟨nd, rfl⟩⟩; refine ⟨_, rfl, ?_⟩) | ((with_reducible refine gate_callee (f := 42) rfl ?_); refine goesL_ (some 78) rfl rfl Tryd.func42 (by kernel_rfl) rfl #[.slice Ao38 x7_2.length co38, .int .i64 6] rfl (by (try simp only [List.map_toArray, List.map_cons, List.map_nil]); first | done | rfl | (simp only [List.length_drop, List.length_take]; rfl)) ?_; (with_reducible refine (warderref03_number.calls _ _ x7_2 6 t188 _ ?side1 ?side2 A35.out).mono ?_); (case side1 => repeat (first | exact (Kd.V_reads' HO_7.out).2.2 | (with_reducible refine Kd.C_alloc ?_ _) | (with_reducible refine Kd.C_drewN ?_ _) | (with_reducible refine Kd.C_drew ?_))); (case side2 => exact (Kd.V_reads' HO_7.out).2.1); rintro e w' ⟨rfl, ⟨nd, rfl⟩⟩; refine ⟨_, rfl, ?_⟩) | ((with_reducible refine gate_callee (f := 42) rfl ?_); refine goesL_ (some 80) rfl rfl Tryd.func42 (by kernel_rfl) rfl #[.slice Ao38 x7_2.length co38, .int .i64 8] rfl (by (try simp only [List.map_toArray, List.map_cons, List.map_nil]); first | done | rfl | (simp only [List.length_drop, List.length_take]; rfl)) ?_; (with_reducible refine (warderref03_number.calls _ _ x7_2 8 t189 _ ?side1 ?side2 A36.out).mono ?_); (case side1 => repeat (first | exact (Kd.V_reads' HO_7.out).2.2 | (with_reducible refine Kd.C_alloc ?_ _) | (with_reducible refine Kd.C_drewN ?_ _) | (with_reducible refine Kd.C_drew ?_))); (case side2 => exact (Kd.V_reads' HO_7.out).2.1); rintro e w' ⟨rfl, ⟨nd, rfl⟩⟩; refine ⟨_, rfl, ?_⟩))
      (try simp only [Act.put, List.setIfInBounds_toArray, List.set_cons_zero, List.set_cons_succ])
      go_cut [120] (fun v120 wc => ∃ (kq : Nat) (x120_36 : Bool), v120 = .bool x120_36 ∧ Aside0 (warderref03_Time.j4 kq x6_2 t185 t186 t187 t188 t189 x120_36 = some (r1, r2)) ∧ Aside0 (kq ≤ kj2) ∧ Aside0 (Below w.heap.size w wc))
      case first =>
        have H := HC37.out
        clear HC37
        by_cases c39 : 10 < (x7_2.length : Int)
        · rw [if_pos c39] at H
          have c39b0 : decide (10 < (x7_2.length : Int)) = true := decide_eq_true c39
          have c39b1 : decide (10 < x7_2.length) = true := decide_eq_true (by omega)
          clear c39
          (first | rw [c39b0] | (simp only [i64_w, i32_w]; rw [c39b0]) | skip)
          by_cases c40 : (rd x7_2 10) = 90
          · rw [if_pos c40] at H
            have c40b0 : ((rd x7_2 10) == 90) = true := beq_iff_eq.mpr c40
            have c40b1 : ((rd x7_2 10) != 90) = false := bne_eq_false_iff_eq.mpr c40
            clear c40
            by_cases c41 : t185 < 1
            · rw [if_pos c41] at H
              have c41b0 : decide (t185 < 1) = true := decide_eq_true c41
              clear c41
              have H' := Aside0.mk H
              clear H
              have p190 : 0 ≤ (10 : Int) := (by omega)
              have q190 : 10 < (x7_2.length : Int) := of_decide_eq_true (by first | (with_reducible assumption) | assumption)
              obtain ⟨ad190, e190, hx190_0⟩ := Kd.at_int (Kd.V_reads' HO_7.out).2.2 10 p190 q190
              cases e190
              (try simp only [show (10 : Int).toNat = 10 from rfl, Nat.reduceMul, Nat.reduceEqDiff, Go.Addr.add, ↓reduceIte] at hx190_0)
              have qi190 : (10 < x7_2.length) = True := eq_true (by omega)
              (try rw [show ((10 : Int)).toNat = 10 from rfl] at hx190_0)
              replace p190 := eq_true p190
              replace q190 := eq_true q190
              go_wp2
              go_meet
              case rel => exact ⟨_, (true), (by first | rfl | (simp; done) | (simp [*]; done)), H', ⟨by have := HJ2.out; first | omega | exact Nat.le_refl _⟩, ⟨by repeat (first | (with_reducible first | exact HB.out | apply below_alloc | apply pw_below_drewN | apply below_drew1) | exact HB.out)⟩⟩
            · rw [if_neg c41] at H
              have c41b0 : decide (t185 < 1) = false := decide_eq_false c41
              clear c41
              by_cases c42 : t185 > 12
              · rw [if_pos c42] at H
                have c42b0 : decide (12 < t185) = true := decide_eq_true c42
                clear c42
                have H' := Aside0.mk H
                clear H
                have p190 : 0 ≤ (10 : Int) := (by omega)
                have q190 : 10 < (x7_2.length : Int) := of_decide_eq_true (by first | (with_reducible assumption) | assumption)
                obtain ⟨ad190, e190, hx190_0⟩ := Kd.at_int (Kd.V_reads' HO_7.out).2.2 10 p190 q190
                cases e190
                (try simp only [show (10 : Int).toNat = 10 from rfl, Nat.reduceMul, Nat.reduceEqDiff, Go.Addr.add, ↓reduceIte] at hx190_0)
                have qi190 : (10 < x7_2.length) = True := eq_true (by omega)
                (try rw [show ((10 : Int)).toNat = 10 from rfl] at hx190_0)
                replace p190 := eq_true p190
                replace q190 := eq_true q190
                go_wp2
                go_meet
                case rel => exact ⟨_, (true), (by first | rfl | (simp; done) | (simp [*]; done)), H', ⟨by have := HJ2.out; first | omega | exact Nat.le_refl _⟩, ⟨by repeat (first | (with_reducible first | exact HB.out | apply below_alloc | apply pw_below_drewN | apply below_drew1) | exact HB.out)⟩⟩
              · rw [if_neg c42] at H
                have c42b0 : decide (12 < t185) = false := decide_eq_false c42
                clear c42
                by_cases c43 : t186 < 1
                · rw [if_pos c43] at H
                  have c43b0 : decide (t186 < 1) = true := decide_eq_true c43
                  clear c43
                  have H' := Aside0.mk H
                  clear H
                  have p190 : 0 ≤ (10 : Int) := (by omega)
                  have q190 : 10 < (x7_2.length : Int) := of_decide_eq_true (by first | (with_reducible assumption) | assumption)
                  obtain ⟨ad190, e190, hx190_0⟩ := Kd.at_int (Kd.V_reads' HO_7.out).2.2 10 p190 q190
                  cases e190
                  (try simp only [show (10 : Int).toNat = 10 from rfl, Nat.reduceMul, Nat.reduceEqDiff, Go.Addr.add, ↓reduceIte] at hx190_0)
                  have qi190 : (10 < x7_2.length) = True := eq_true (by omega)
                  (try rw [show ((10 : Int)).toNat = 10 from rfl] at hx190_0)
                  replace p190 := eq_true p190
                  replace q190 := eq_true q190
                  go_wp2
                  go_meet
                  case rel => exact ⟨_, (true), (by first | rfl | (simp; done) | (simp [*]; done)), H', ⟨by have := HJ2.out; first | omega | exact Nat.le_refl _⟩, ⟨by repeat (first | (with_reducible first | exact HB.out | apply below_alloc | apply pw_below_drewN | apply below_drew1) | exact HB.out)⟩⟩
                · rw [if_neg c43] at H
                  have c43b0 : decide (t186 < 1) = false := decide_eq_false c43
                  clear c43
                  by_cases c44 : t187 < 0
                  · rw [if_pos c44] at H
                    have c44b0 : decide (t187 < 0) = true := decide_eq_true c44
                    clear c44
                    have H' := Aside0.mk H
                    clear H
                    have p190 : 0 ≤ (10 : Int) := (by omega)
                    have q190 : 10 < (x7_2.length : Int) := of_decide_eq_true (by first | (with_reducible assumption) | assumption)
                    obtain ⟨ad190, e190, hx190_0⟩ := Kd.at_int (Kd.V_reads' HO_7.out).2.2 10 p190 q190
                    cases e190
                    (try simp only [show (10 : Int).toNat = 10 from rfl, Nat.reduceMul, Nat.reduceEqDiff, Go.Addr.add, ↓reduceIte] at hx190_0)
                    have qi190 : (10 < x7_2.length) = True := eq_true (by omega)
                    (try rw [show ((10 : Int)).toNat = 10 from rfl] at hx190_0)
                    replace p190 := eq_true p190
                    replace q190 := eq_true q190
                    go_wp2
                    go_meet
                    case rel => exact ⟨_, (true), (by first | rfl | (simp; done) | (simp [*]; done)), H', ⟨by have := HJ2.out; first | omega | exact Nat.le_refl _⟩, ⟨by repeat (first | (with_reducible first | exact HB.out | apply below_alloc | apply pw_below_drewN | apply below_drew1) | exact HB.out)⟩⟩
                  · rw [if_neg c44] at H
                    have c44b0 : decide (t187 < 0) = false := decide_eq_false c44
                    clear c44
                    by_cases c45 : t187 > 23
                    · rw [if_pos c45] at H
                      have c45b0 : decide (23 < t187) = true := decide_eq_true c45
                      clear c45
                      have H' := Aside0.mk H
                      clear H
                      have p190 : 0 ≤ (10 : Int) := (by omega)
                      have q190 : 10 < (x7_2.length : Int) := of_decide_eq_true (by first | (with_reducible assumption) | assumption)
                      obtain ⟨ad190, e190, hx190_0⟩ := Kd.at_int (Kd.V_reads' HO_7.out).2.2 10 p190 q190
                      cases e190
                      (try simp only [show (10 : Int).toNat = 10 from rfl, Nat.reduceMul, Nat.reduceEqDiff, Go.Addr.add, ↓reduceIte] at hx190_0)
                      have qi190 : (10 < x7_2.length) = True := eq_true (by omega)
                      (try rw [show ((10 : Int)).toNat = 10 from rfl] at hx190_0)
                      replace p190 := eq_true p190
                      replace q190 := eq_true q190
                      go_wp2
                      go_meet
                      case rel => exact ⟨_, (true), (by first | rfl | (simp; done) | (simp [*]; done)), H', ⟨by have := HJ2.out; first | omega | exact Nat.le_refl _⟩, ⟨by repeat (first | (with_reducible first | exact HB.out | apply below_alloc | apply pw_below_drewN | apply below_drew1) | exact HB.out)⟩⟩
                    · rw [if_neg c45] at H
                      have c45b0 : decide (23 < t187) = false := decide_eq_false c45
                      clear c45
                      by_cases c46 : t188 < 0
                      · rw [if_pos c46] at H
                        have c46b0 : decide (t188 < 0) = true := decide_eq_true c46
                        clear c46
                        have H' := Aside0.mk H
                        clear H
                        have p190 : 0 ≤ (10 : Int) := (by omega)
                        have q190 : 10 < (x7_2.length : Int) := of_decide_eq_true (by first | (with_reducible assumption) | assumption)
                        obtain ⟨ad190, e190, hx190_0⟩ := Kd.at_int (Kd.V_reads' HO_7.out).2.2 10 p190 q190
                        cases e190
                        (try simp only [show (10 : Int).toNat = 10 from rfl, Nat.reduceMul, Nat.reduceEqDiff, Go.Addr.add, ↓reduceIte] at hx190_0)
                        have qi190 : (10 < x7_2.length) = True := eq_true (by omega)
                        (try rw [show ((10 : Int)).toNat = 10 from rfl] at hx190_0)
                        replace p190 := eq_true p190
                        replace q190 := eq_true q190
                        go_wp2
                        go_meet
                        case rel => exact ⟨_, (true), (by first | rfl | (simp; done) | (simp [*]; done)), H', ⟨by have := HJ2.out; first | omega | exact Nat.le_refl _⟩, ⟨by repeat (first | (with_reducible first | exact HB.out | apply below_alloc | apply pw_below_drewN | apply below_drew1) | exact HB.out)⟩⟩
                      · rw [if_neg c46] at H
                        have c46b0 : decide (t188 < 0) = false := decide_eq_false c46
                        clear c46
                        by_cases c47 : t188 > 59
                        · rw [if_pos c47] at H
                          have c47b0 : decide (59 < t188) = true := decide_eq_true c47
                          clear c47
                          have H' := Aside0.mk H
                          clear H
                          have p190 : 0 ≤ (10 : Int) := (by omega)
                          have q190 : 10 < (x7_2.length : Int) := of_decide_eq_true (by first | (with_reducible assumption) | assumption)
                          obtain ⟨ad190, e190, hx190_0⟩ := Kd.at_int (Kd.V_reads' HO_7.out).2.2 10 p190 q190
                          cases e190
                          (try simp only [show (10 : Int).toNat = 10 from rfl, Nat.reduceMul, Nat.reduceEqDiff, Go.Addr.add, ↓reduceIte] at hx190_0)
                          have qi190 : (10 < x7_2.length) = True := eq_true (by omega)
                          (try rw [show ((10 : Int)).toNat = 10 from rfl] at hx190_0)
                          replace p190 := eq_true p190
                          replace q190 := eq_true q190
                          go_wp2
                          go_meet
                          case rel => exact ⟨_, (true), (by first | rfl | (simp; done) | (simp [*]; done)), H', ⟨by have := HJ2.out; first | omega | exact Nat.le_refl _⟩, ⟨by repeat (first | (with_reducible first | exact HB.out | apply below_alloc | apply pw_below_drewN | apply below_drew1) | exact HB.out)⟩⟩
                        · rw [if_neg c47] at H
                          have c47b0 : decide (59 < t188) = false := decide_eq_false c47
                          clear c47
                          by_cases c48 : t189 < 0
                          · rw [if_pos c48] at H
                            have c48b0 : decide (t189 < 0) = true := decide_eq_true c48
                            clear c48
                            have H' := Aside0.mk H
                            clear H
                            have p190 : 0 ≤ (10 : Int) := (by omega)
                            have q190 : 10 < (x7_2.length : Int) := of_decide_eq_true (by first | (with_reducible assumption) | assumption)
                            obtain ⟨ad190, e190, hx190_0⟩ := Kd.at_int (Kd.V_reads' HO_7.out).2.2 10 p190 q190
                            cases e190
                            (try simp only [show (10 : Int).toNat = 10 from rfl, Nat.reduceMul, Nat.reduceEqDiff, Go.Addr.add, ↓reduceIte] at hx190_0)
                            have qi190 : (10 < x7_2.length) = True := eq_true (by omega)
                            (try rw [show ((10 : Int)).toNat = 10 from rfl] at hx190_0)
                            replace p190 := eq_true p190
                            replace q190 := eq_true q190
                            go_wp2
                            go_meet
                            case rel => exact ⟨_, (true), (by first | rfl | (simp; done) | (simp [*]; done)), H', ⟨by have := HJ2.out; first | omega | exact Nat.le_refl _⟩, ⟨by repeat (first | (with_reducible first | exact HB.out | apply below_alloc | apply pw_below_drewN | apply below_drew1) | exact HB.out)⟩⟩
                          · rw [if_neg c48] at H
                            have c48b0 : decide (t189 < 0) = false := decide_eq_false c48
                            clear c48
                            have H' := Aside0.mk H
                            clear H
                            have p190 : 0 ≤ (10 : Int) := (by omega)
                            have q190 : 10 < (x7_2.length : Int) := of_decide_eq_true (by first | (with_reducible assumption) | assumption)
                            obtain ⟨ad190, e190, hx190_0⟩ := Kd.at_int (Kd.V_reads' HO_7.out).2.2 10 p190 q190
                            cases e190
                            (try simp only [show (10 : Int).toNat = 10 from rfl, Nat.reduceMul, Nat.reduceEqDiff, Go.Addr.add, ↓reduceIte] at hx190_0)
                            have qi190 : (10 < x7_2.length) = True := eq_true (by omega)
                            (try rw [show ((10 : Int)).toNat = 10 from rfl] at hx190_0)
                            replace p190 := eq_true p190
                            replace q190 := eq_true q190
                            go_wp2
                            go_meet
                            case rel => exact ⟨_, (decide (t189 > 59)), (by first | rfl | (simp; done) | (simp [*]; done)), H', ⟨by have := HJ2.out; first | omega | exact Nat.le_refl _⟩, ⟨by repeat (first | (with_reducible first | exact HB.out | apply below_alloc | apply pw_below_drewN | apply below_drew1) | exact HB.out)⟩⟩
          · rw [if_neg c40] at H
            have c40b0 : ((rd x7_2 10) == 90) = false := beq_eq_false_iff_ne.mpr c40
            have c40b1 : ((rd x7_2 10) != 90) = true := bne_iff_ne.mpr c40
            have H' := Aside0.mk H
            clear H
            have p190 : 0 ≤ (10 : Int) := (by omega)
            have q190 : 10 < (x7_2.length : Int) := of_decide_eq_true (by first | (with_reducible assumption) | assumption)
            obtain ⟨ad190, e190, hx190_0⟩ := Kd.at_int (Kd.V_reads' HO_7.out).2.2 10 p190 q190
            cases e190
            (try simp only [show (10 : Int).toNat = 10 from rfl, Nat.reduceMul, Nat.reduceEqDiff, Go.Addr.add, ↓reduceIte] at hx190_0)
            have qi190 : (10 < x7_2.length) = True := eq_true (by omega)
            (try rw [show ((10 : Int)).toNat = 10 from rfl] at hx190_0)
            replace p190 := eq_true p190
            replace q190 := eq_true q190
            go_wp2
            go_meet
            case rel => exact ⟨_, (true), (by first | rfl | (simp; done) | (simp [*]; done)), H', ⟨by have := HJ2.out; first | omega | exact Nat.le_refl _⟩, ⟨by repeat (first | (with_reducible first | exact HB.out | apply below_alloc | apply pw_below_drewN | apply below_drew1) | exact HB.out)⟩⟩
        · rw [if_neg c39] at H
          exact absurd H (by simp)
      case rest =>
        clear HC37
        try clear c1
        try clear p1
        try clear q1
        try clear hx1
        try clear qi1
        try clear c2
        try clear p2
        try clear q2
        try clear c3
        try clear q3
        try clear c4
        try clear c5
        try clear c5b0
        try clear c5b1
        try clear c6
        try clear p6
        try clear c9
        try clear c9b0
        try clear c10
        try clear c11
        try clear c11b0
        try clear c11b1
        try clear c12
        try clear c12b0
        try clear c13
        try clear q13
        try clear c14
        try clear q14
        try clear c15
        try clear c15b0
        try clear c15b1
        try clear c16
        try clear c16b0
        try clear c17
        try clear q17
        try clear c18
        try clear q18
        try clear p19
        try clear q19
        try clear hx19
        try clear qi19
        try clear c20
        try clear c20b0
        try clear c20b1
        try clear c21
        try clear c24
        try clear c24b0
        try clear c24b1
        try clear c25
        try clear c25b0
        try clear c26
        try clear q26
        try clear c27
        try clear c27b0
        try clear c28
        try clear q28
        try clear c29
        try clear c29b0
        try clear c30
        try clear q30
        try clear c31
        try clear q31
        try clear c39
        try clear c39b0
        try clear c39b1
        try clear c40
        try clear c40b0
        try clear c40b1
        try clear c41
        try clear c41b0
        try clear c42
        try clear c42b0
        try clear c43
        try clear c43b0
        try clear c44
        try clear c44b0
        try clear c45
        try clear c45b0
        try clear c46
        try clear c46b0
        try clear c47
        try clear c47b0
        try clear c48
        try clear c48b0
        try clear hx190_0
        try clear p190
        try clear p2
        try clear p6
        try clear q1
        try clear q13
        try clear q14
        try clear q17
        try clear q18
        try clear q190
        try clear q2
        try clear q26
        try clear q28
        try clear q3
        try clear q30
        try clear q31
        obtain ⟨kq, x120_36, rfl, HA, HJ36, HB⟩ := hcut
        cases kq with
        | zero => exact absurd HA.out (by simp [warderref03_Time.j4])
        | succ kj36 =>
          have H := HA.out
          clear HA
          simp only [warderref03_Time.j4] at H
          by_cases c49 : x120_36 = true
          · subst c49
            have H1 : (some (0, 32)) = some (r1, r2) := by rw [if_pos rfl] at H; exact H
            clear H
            have H := H1
            clear H1
            simp only [Option.some.injEq, Prod.mk.injEq] at H
            obtain ⟨rfl, rfl⟩ := H
            go_wp2
            go_ret2
            exact ⟨by first | rfl | (simp [errW_none, errW_some] <;> rfl) | (simp [*, errW_none, errW_some] <;> rfl), by repeat (first | (with_reducible first | exact HB.out | apply below_alloc | apply pw_below_drewN | apply below_drew1) | exact HB.out)⟩
          · replace c49 := Bool.eq_false_iff.mpr c49
            subst c49
            have H1 : ((warderref03_month.f x6_2 t185).bind fun t191 => (if t186 > t191 then (some (0, 32)) else ((warderref03_days.f x6_2).bind fun t192 => (warderref03_Time.l0 kj36 x6_2 t185 t187 t188 t189 (wrap64 ((wrap64 (t192 + t186)) - 1)) 1)))) = some (r1, r2) := by rw [if_neg (show ¬ (false = true) by decide)] at H; exact H
            clear H
            have H := H1
            clear H1
            replace H := Option.bind_eq_some_iff.mp H
            obtain ⟨t191, A500, H⟩ := H
            replace H : (if t186 > t191 then (some (0, 32)) else ((warderref03_days.f x6_2).bind fun t192 => (warderref03_Time.l0 kj36 x6_2 t185 t187 t188 t189 (wrap64 ((wrap64 (t192 + t186)) - 1)) 1))) = some (r1, r2) := H
            have A50 := Aside0.mk A500
            clear A500
            by_cases c51 : t186 > t191
            · rw [if_pos c51] at H
              have c51b0 : decide (t191 < t186) = true := decide_eq_true c51
              clear c51
              simp only [Option.some.injEq, Prod.mk.injEq] at H
              obtain ⟨rfl, rfl⟩ := H
              go_wp2_with (first | ((with_reducible refine gate_callee (f := 38) rfl ?_); refine goesL_ (some 124) rfl rfl Tryd.func38 (by kernel_rfl) rfl #[.int .i64 x6_2, .int .i64 t185] rfl (by (try simp only [List.map_toArray, List.map_cons, List.map_nil]); first | done | rfl | (simp only [List.length_drop, List.length_take]; rfl)) ?_; (with_reducible refine (warderref03_month.calls x6_2 t185 t191 _ A50.out).mono ?_); rintro e w52 ⟨rfl, hb⟩; refine ⟨_, rfl, ?_⟩; have n0_ := Aside0.mk (below_step (by repeat (first | (with_reducible first | exact HB.out | apply below_alloc | apply pw_below_drewN | apply below_drew1) | exact HB.out)) hb); clear HB; have HB := n0_; clear n0_; (try clear hb); (try clear hb2); (try clear hk); (try clear hi)))
              go_ret2
              exact ⟨by first | rfl | (simp [errW_none, errW_some] <;> rfl) | (simp [*, errW_none, errW_some] <;> rfl), by repeat (first | (with_reducible first | exact HB.out | apply below_alloc | apply pw_below_drewN | apply below_drew1) | exact HB.out)⟩
            · rw [if_neg c51] at H
              have c51b0 : decide (t191 < t186) = false := decide_eq_false c51
              clear c51
              replace H := Option.bind_eq_some_iff.mp H
              obtain ⟨t192, A530, H⟩ := H
              replace H : (warderref03_Time.l0 kj36 x6_2 t185 t187 t188 t189 (wrap64 ((wrap64 (t192 + t186)) - 1)) 1) = some (r1, r2) := H
              have A53 := Aside0.mk A530
              clear A530
              have H' := Aside0.mk H
              clear H
              go_wp2_with (first | ((with_reducible refine gate_callee (f := 38) rfl ?_); refine goesL_ (some 124) rfl rfl Tryd.func38 (by kernel_rfl) rfl #[.int .i64 x6_2, .int .i64 t185] rfl (by (try simp only [List.map_toArray, List.map_cons, List.map_nil]); first | done | rfl | (simp only [List.length_drop, List.length_take]; rfl)) ?_; (with_reducible refine (warderref03_month.calls x6_2 t185 t191 _ A50.out).mono ?_); rintro e w54 ⟨rfl, hb⟩; refine ⟨_, rfl, ?_⟩; have n0_ := Aside0.mk (below_step (by repeat (first | (with_reducible first | exact HB.out | apply below_alloc | apply pw_below_drewN | apply below_drew1) | exact HB.out)) hb); clear HB; have HB := n0_; clear n0_; (try clear hb); (try clear hb2); (try clear hk); (try clear hi)) | ((with_reducible refine gate_callee (f := 37) rfl ?_); refine goesL_ (some 127) rfl rfl Tryd.func37 (by kernel_rfl) rfl #[.int .i64 x6_2] rfl (by (try simp only [List.map_toArray, List.map_cons, List.map_nil]); first | done | rfl | (simp only [List.length_drop, List.length_take]; rfl)) ?_; (with_reducible refine (warderref03_days.calls x6_2 t192 _ A53.out).mono ?_); rintro e w' ⟨rfl, ⟨nd, rfl⟩⟩; refine ⟨_, rfl, ?_⟩))
              go_loopg [16, 17] kj36 (fun kq v16 v17 w' => ∃ (x16_3 : Int) (x17_3 : Int), v16 = .int .i64 x16_3 ∧ v17 = .int .i64 x17_3 ∧ Aside0 (warderref03_Time.l0 kq x6_2 t185 t187 t188 t189 x16_3 x17_3 = some (r1, r2)) ∧ Aside0 (kq ≤ kj36) ∧ Aside0 (Below w.heap.size w w'))
              case atStart => exact ⟨(wrap64 ((wrap64 (t192 + t186)) - 1)), (1), (by first | rfl | (simp; done) | (simp [*]; done)), (by first | rfl | (simp; done) | (simp [*]; done)), H', ⟨Nat.le_refl _⟩, ⟨by repeat (first | (with_reducible first | exact HB.out | apply below_alloc | apply pw_below_drewN | apply below_drew1) | exact HB.out)⟩⟩
              case round =>
                clear H'
                try clear c1
                try clear p1
                try clear q1
                try clear hx1
                try clear qi1
                try clear c2
                try clear p2
                try clear q2
                try clear c3
                try clear q3
                try clear c4
                try clear c5
                try clear c5b0
                try clear c5b1
                try clear c6
                try clear p6
                try clear c9
                try clear c9b0
                try clear c10
                try clear c11
                try clear c11b0
                try clear c11b1
                try clear c12
                try clear c12b0
                try clear c13
                try clear q13
                try clear c14
                try clear q14
                try clear c15
                try clear c15b0
                try clear c15b1
                try clear c16
                try clear c16b0
                try clear c17
                try clear q17
                try clear c18
                try clear q18
                try clear p19
                try clear q19
                try clear hx19
                try clear qi19
                try clear c20
                try clear c20b0
                try clear c20b1
                try clear c21
                try clear c24
                try clear c24b0
                try clear c24b1
                try clear c25
                try clear c25b0
                try clear c26
                try clear q26
                try clear c27
                try clear c27b0
                try clear c28
                try clear q28
                try clear c29
                try clear c29b0
                try clear c30
                try clear q30
                try clear c31
                try clear q31
                try clear c37
                try clear c38
                try clear c39
                try clear c39b0
                try clear c39b1
                try clear c40
                try clear c40b0
                try clear c40b1
                try clear c41
                try clear c41b0
                try clear c42
                try clear c42b0
                try clear c43
                try clear c43b0
                try clear c44
                try clear c44b0
                try clear c45
                try clear c45b0
                try clear c46
                try clear c46b0
                try clear c47
                try clear c47b0
                try clear c48
                try clear c48b0
                try clear c49
                try clear c51
                try clear c51b0
                try clear hx190_0
                try clear p1
                try clear p19
                try clear p190
                try clear p2
                try clear p6
                try clear q1
                try clear q13
                try clear q14
                try clear q17
                try clear q18
                try clear q19
                try clear q190
                try clear q2
                try clear q26
                try clear q28
                try clear q3
                try clear q30
                try clear q31
                obtain ⟨x16_3, x17_3, rfl, rfl, HA, HK3, HB⟩ := hrel
                cases gk with
                | zero => exact absurd HA.out (by simp [warderref03_Time.l0])
                | succ k3 =>
                  have H := HA.out
                  clear HA
                  simp only [warderref03_Time.l0] at H
                  by_cases c55 : x17_3 < t185
                  · rw [if_pos c55] at H
                    have c55b0 : decide (x17_3 < t185) = true := decide_eq_true c55
                    clear c55
                    replace H := Option.bind_eq_some_iff.mp H
                    obtain ⟨t193, A560, H⟩ := H
                    replace H : (warderref03_Time.l0 k3 x6_2 t185 t187 t188 t189 (wrap64 (x16_3 + t193)) (wrap64 (x17_3 + 1))) = some (r1, r2) := H
                    have A56 := Aside0.mk A560
                    clear A560
                    have H' := Aside0.mk H
                    clear H
                    go_wp2_with (first | ((with_reducible refine gate_callee (f := 38) rfl ?_); refine goesL_ (some 139) rfl rfl Tryd.func38 (by kernel_rfl) rfl #[.int .i64 x6_2, .int .i64 x17_3] rfl (by (try simp only [List.map_toArray, List.map_cons, List.map_nil]); first | done | rfl | (simp only [List.length_drop, List.length_take]; rfl)) ?_; (with_reducible refine (warderref03_month.calls x6_2 x17_3 t193 _ A56.out).mono ?_); rintro e w57 ⟨rfl, hb⟩; refine ⟨_, rfl, ?_⟩; have n0_ := Aside0.mk (below_step (by repeat (first | (with_reducible first | exact HB.out | apply below_alloc | apply pw_below_drewN | apply below_drew1) | exact HB.out)) hb); clear HB; have HB := n0_; clear n0_; (try clear hb); (try clear hb2); (try clear hk); (try clear hi)))
                    go_roundg k3
                    case measure => have := HJ2.out; have := HJ36.out; have := HK3.out; omega
                    case rel => exact ⟨(wrap64 (x16_3 + t193)), (wrap64 (x17_3 + 1)), (by first | rfl | (simp; done) | (simp [*]; done)), (by first | rfl | (simp; done) | (simp [*]; done)), H', ⟨by have := HJ2.out; have := HJ36.out; have := HK3.out; omega⟩, ⟨by repeat (first | (with_reducible first | exact HB.out | apply below_alloc | apply pw_below_drewN | apply below_drew1) | exact HB.out)⟩⟩
                  · rw [if_neg c55] at H
                    have c55b0 : decide (x17_3 < t185) = false := decide_eq_false c55
                    clear c55
                    simp only [Option.some.injEq, Prod.mk.injEq] at H
                    obtain ⟨rfl, rfl⟩ := H
                    go_wp2
                    go_ret2
                    exact ⟨by first | rfl | (simp [errW_none, errW_some] <;> rfl) | (simp [*, errW_none, errW_some] <;> rfl), by repeat (first | (with_reducible first | exact HB.out | apply below_alloc | apply pw_below_drewN | apply below_drew1) | exact HB.out)⟩

end Go.Proofs.YtgpghjmoapffcaaDoor.XT
