-- printed by wip/xprint.py (a scratch copy of the kit's print, with contracts by hand)
import Derived.Test.YtgpghjmoapffcaaDoorXT0
import Derived.Test.YtgpghjmoapffcaaDoorXT1
namespace Go.Proofs.YtgpghjmoapffcaaDoor.XT
open Go.RowKit Go.Proofs.YtgpghjmoapffcaaDoorW.PrintWords Go.Proofs.YtgpghjmoapffcaaDoorW.PrintLast Go.Proofs.YtgpghjmoapffcaaDoorW.PrintMore
attribute [local go_sem] max2_int min2_int max_two min_two max_three min_three max_four min_four   -- for this text's walks alone
set_option linter.unusedVariables false
set_option linter.unusedSimpArgs false

/-! ### warderref03_PutTime: function 18 -/
mutual
def warderref03_PutTime.j0 : Nat → Int → Bool → Option (Int × List Int × Int)
  | 0, _, _ => none
  | k + 1, x0, x16 => if x16 = true then (some (0, ([] : List Int), 32)) else (warderref03_PutTime.l0 k (Int.tmod (wrap64 ((Int.tmod x0 86400) + 86400)) 86400) (wrap64 (Int.tdiv (wrap64 (x0 - (Int.tmod (wrap64 ((Int.tmod x0 86400) + 86400)) 86400))) 86400)) 1950)
def warderref03_PutTime.l0 : Nat → Int → Int → Int → Option (Int × List Int × Int)
  | 0, _, _, _ => none
  | k + 1, x5, x6, x7 => (warderref03_days.f (wrap64 (x7 + 1))).bind fun t112 => (if t112 ≤ x6 then (warderref03_PutTime.l0 k x5 x6 (wrap64 (x7 + 1))) else ((warderref03_days.f x7).bind fun t113 => (warderref03_PutTime.l1 k x5 (wrap64 (x6 - t113)) x7 1)))
def warderref03_PutTime.l1 : Nat → Int → Int → Int → Int → Option (Int × List Int × Int)
  | 0, _, _, _, _ => none
  | k + 1, x5, x6, x7, x8 => (warderref03_month.f x7 x8).bind fun t114 => (if x6 ≥ t114 then ((warderref03_month.f x7 x8).bind fun t115 => (warderref03_PutTime.l1 k x5 (wrap64 (x6 - t115)) x7 (wrap64 (x8 + 1)))) else ((warderref03_two.f (wrap64 (Int.tdiv x7 100))).bind fun t116 => ((warderref03_two.f (Int.tmod x7 100)).bind fun t119 => (if t116.length + t119.length < 140737488355328 then (if x7 < 2050 then ((warderref03_two.f (Int.tmod x7 100)).bind fun t125 => (warderref03_PutTime.j3 k x5 x6 x8 23 t125)) else (warderref03_PutTime.j3 k x5 x6 x8 24 (t116 ++ t119))) else (none)))))
def warderref03_PutTime.j3 : Nat → Int → Int → Int → Int → List Int → Option (Int × List Int × Int)
  | 0, _, _, _, _, _ => none
  | k + 1, x5, x6, x8, x9, x10 => (warderref03_two.f x8).bind fun t128 => (if x10.length + t128.length < 140737488355328 then ((some (x10 ++ t128 : List Int)).bind fun y131 => ((warderref03_two.f (wrap64 (x6 + 1))).bind fun t134 => (if y131.length + t134.length < 140737488355328 then ((some (y131 ++ t134 : List Int)).bind fun y137 => ((warderref03_two.f (wrap64 (Int.tdiv x5 3600))).bind fun t140 => (if y137.length + t140.length < 140737488355328 then ((some (y137 ++ t140 : List Int)).bind fun y143 => ((warderref03_two.f (Int.tmod (wrap64 (Int.tdiv x5 60)) 60)).bind fun t146 => (if y143.length + t146.length < 140737488355328 then ((some (y143 ++ t146 : List Int)).bind fun y149 => ((warderref03_two.f (Int.tmod x5 60)).bind fun t152 => (if y149.length + t152.length < 140737488355328 then ((some (y149 ++ t152 : List Int)).bind fun y155 => (if y155.length < 140737488355328 then (some (x9, (y155 ++ [90]), 0)) else (none))) else (none)))) else (none)))) else (none)))) else (none)))) else (none))
end
def warderref03_PutTime.f (k : Nat) (a0 : Int) : Option (Int × List Int × Int) := if a0 < (-631152000) then (warderref03_PutTime.j0 k a0 true) else (warderref03_PutTime.j0 k a0 (decide (a0 > 253402300799)))
theorem warderref03_PutTime.mono_l : ∀ k, (∀ y0 y1, LeO (warderref03_PutTime.j0 k y0 y1) (warderref03_PutTime.j0 (k + 1) y0 y1)) ∧ (∀ y0 y1 y2, LeO (warderref03_PutTime.l0 k y0 y1 y2) (warderref03_PutTime.l0 (k + 1) y0 y1 y2)) ∧ (∀ y0 y1 y2 y3, LeO (warderref03_PutTime.l1 k y0 y1 y2 y3) (warderref03_PutTime.l1 (k + 1) y0 y1 y2 y3)) ∧ (∀ y0 y1 y2 y3 y4, LeO (warderref03_PutTime.j3 k y0 y1 y2 y3 y4) (warderref03_PutTime.j3 (k + 1) y0 y1 y2 y3 y4))
  | 0 => ⟨fun _ _ r h => by simp [warderref03_PutTime.j0] at h, fun _ _ _ r h => by simp [warderref03_PutTime.l0] at h, fun _ _ _ _ r h => by simp [warderref03_PutTime.l1] at h, fun _ _ _ _ _ r h => by simp [warderref03_PutTime.j3] at h⟩
  | k + 1 => by
    obtain ⟨ih0, ih1, ih2, ih3⟩ := warderref03_PutTime.mono_l k
    refine ⟨?_, ?_, ?_, ?_⟩
    · intro y0 y1
      unfold warderref03_PutTime.j0
      repeat' first
      | (with_reducible exact ih0 _ _)
      | (with_reducible exact ih1 _ _ _)
      | (with_reducible exact ih2 _ _ _ _)
      | (with_reducible exact ih3 _ _ _ _ _)
      | (with_reducible exact LeO.refl _)
      | (with_reducible exact LeO.none _)
      | (with_reducible refine LeO.ite ?_ ?_)
      | (with_reducible refine LeO.bind ?_ (fun _ => ?_))
      | exact ih0 _ _
      | exact ih1 _ _ _
      | exact ih2 _ _ _ _
      | exact ih3 _ _ _ _ _
      | exact LeO.none _
      | refine LeO.ite ?_ ?_
      | refine LeO.bind ?_ (fun _ => ?_)
    · intro y0 y1 y2
      unfold warderref03_PutTime.l0
      repeat' first
      | (with_reducible exact ih0 _ _)
      | (with_reducible exact ih1 _ _ _)
      | (with_reducible exact ih2 _ _ _ _)
      | (with_reducible exact ih3 _ _ _ _ _)
      | (with_reducible exact LeO.refl _)
      | (with_reducible exact LeO.none _)
      | (with_reducible refine LeO.ite ?_ ?_)
      | (with_reducible refine LeO.bind ?_ (fun _ => ?_))
      | exact ih0 _ _
      | exact ih1 _ _ _
      | exact ih2 _ _ _ _
      | exact ih3 _ _ _ _ _
      | exact LeO.none _
      | refine LeO.ite ?_ ?_
      | refine LeO.bind ?_ (fun _ => ?_)
    · intro y0 y1 y2 y3
      unfold warderref03_PutTime.l1
      repeat' first
      | (with_reducible exact ih0 _ _)
      | (with_reducible exact ih1 _ _ _)
      | (with_reducible exact ih2 _ _ _ _)
      | (with_reducible exact ih3 _ _ _ _ _)
      | (with_reducible exact LeO.refl _)
      | (with_reducible exact LeO.none _)
      | (with_reducible refine LeO.ite ?_ ?_)
      | (with_reducible refine LeO.bind ?_ (fun _ => ?_))
      | exact ih0 _ _
      | exact ih1 _ _ _
      | exact ih2 _ _ _ _
      | exact ih3 _ _ _ _ _
      | exact LeO.none _
      | refine LeO.ite ?_ ?_
      | refine LeO.bind ?_ (fun _ => ?_)
    · intro y0 y1 y2 y3 y4
      unfold warderref03_PutTime.j3
      repeat' first
      | (with_reducible exact ih0 _ _)
      | (with_reducible exact ih1 _ _ _)
      | (with_reducible exact ih2 _ _ _ _)
      | (with_reducible exact ih3 _ _ _ _ _)
      | (with_reducible exact LeO.refl _)
      | (with_reducible exact LeO.none _)
      | (with_reducible refine LeO.ite ?_ ?_)
      | (with_reducible refine LeO.bind ?_ (fun _ => ?_))
      | exact ih0 _ _
      | exact ih1 _ _ _
      | exact ih2 _ _ _ _
      | exact ih3 _ _ _ _ _
      | exact LeO.none _
      | refine LeO.ite ?_ ?_
      | refine LeO.bind ?_ (fun _ => ?_)
theorem warderref03_PutTime.mono : ∀ a0 k, LeO (warderref03_PutTime.f k a0) (warderref03_PutTime.f (k + 1) a0) := by
  intro a0 k
  obtain ⟨ih0, ih1, ih2, ih3⟩ := warderref03_PutTime.mono_l k
  unfold warderref03_PutTime.f
  repeat' first
      | (with_reducible exact ih0 _ _)
      | (with_reducible exact ih1 _ _ _)
      | (with_reducible exact ih2 _ _ _ _)
      | (with_reducible exact ih3 _ _ _ _ _)
      | (with_reducible exact LeO.refl _)
      | (with_reducible exact LeO.none _)
      | (with_reducible refine LeO.ite ?_ ?_)
      | (with_reducible refine LeO.bind ?_ (fun _ => ?_))
      | exact ih0 _ _
      | exact ih1 _ _ _
      | exact ih2 _ _ _ _
      | exact ih3 _ _ _ _ _
      | exact LeO.none _
      | refine LeO.ite ?_ ?_
      | refine LeO.bind ?_ (fun _ => ?_)
set_option maxHeartbeats 8000000 in
set_option maxRecDepth 100000 in
theorem warderref03_PutTime.calls (k : Nat) (a0 : Int) (r1 : Int) (r2 : List Int) (r3 : Int) (w : World) (h : warderref03_PutTime.f k a0 = some (r1, r2, r3)) :
    Calls Tryd.prog 18 #[.int .i64 a0] w fun e w' => ∃ v1_ : Value, e = .returned (.tuple #[.int .u8 r1, v1_, .int .i64 r3]) ∧ Kd.R (Kd.int .u8) 5 w' w.heap.size (fun _ => True) v1_ r2 ∧ Below w.heap.size w w' := by
  have HB := Aside0.mk (Below.refl w.heap.size w)
  have H : (if a0 < (-631152000) then (warderref03_PutTime.j0 k a0 true) else (warderref03_PutTime.j0 k a0 (decide (a0 > 253402300799)))) = some (r1, r2, r3) := h
  clear h
  have HC2 := Aside0.mk H
  clear H
  go_enter Tryd.func18, Tryd.ntmps18
  go_upto_region 1 with (fail)
  go_cut [16] (fun v16 wc => ∃ (kq : Nat) (x16_1 : Bool), v16 = .bool x16_1 ∧ Aside0 (warderref03_PutTime.j0 kq a0 x16_1 = some (r1, r2, r3)) ∧ Aside0 (kq ≤ k) ∧ Aside0 (Below w.heap.size w wc))
  case first =>
    have H := HC2.out
    clear HC2
    by_cases c3 : a0 < (-631152000)
    · rw [if_pos c3] at H
      have c3b0 : decide (a0 < (-631152000)) = true := decide_eq_true c3
      clear c3
      (first | rw [c3b0] | (simp only [i64_w, i32_w]; rw [c3b0]) | skip)
      have H' := Aside0.mk H
      clear H
      go_wp2
      go_meet
      case rel => exact ⟨_, (true), (by first | rfl | (simp; done) | (simp [*]; done)), H', ⟨by first | omega | exact Nat.le_refl _⟩, ⟨by repeat (first | (with_reducible first | exact HB.out | apply below_alloc | apply pw_below_drewN | apply below_drew1) | exact HB.out)⟩⟩
    · rw [if_neg c3] at H
      have c3b0 : decide (a0 < (-631152000)) = false := decide_eq_false c3
      clear c3
      (first | rw [c3b0] | (simp only [i64_w, i32_w]; rw [c3b0]) | skip)
      have H' := Aside0.mk H
      clear H
      go_wp2
      go_meet
      case rel => exact ⟨_, (decide (a0 > 253402300799)), (by first | rfl | (simp; done) | (simp [*]; done)), H', ⟨by first | omega | exact Nat.le_refl _⟩, ⟨by repeat (first | (with_reducible first | exact HB.out | apply below_alloc | apply pw_below_drewN | apply below_drew1) | exact HB.out)⟩⟩
  case rest =>
    clear HC2
    try clear c1
    try clear p2
    try clear c3
    try clear c3b0
    obtain ⟨kq, x16_1, rfl, HA, HJ1, HB⟩ := hcut
    cases kq with
    | zero => exact absurd HA.out (by simp [warderref03_PutTime.j0])
    | succ kj1 =>
      have H := HA.out
      clear HA
      simp only [warderref03_PutTime.j0] at H
      by_cases c4 : x16_1 = true
      · subst c4
        have H1 : (some (0, ([] : List Int), 32)) = some (r1, r2, r3) := by rw [if_pos rfl] at H; exact H
        clear H
        have H := H1
        clear H1
        simp only [Option.some.injEq, Prod.mk.injEq] at H
        obtain ⟨rfl, rfl, rfl⟩ := H
        go_wp2
        go_ret3
        exact ⟨_, by first | rfl | (simp [errW_none, errW_some] <;> rfl) | (simp [*, errW_none, errW_some] <;> rfl), by first | exact Kd.R_nil _ _ _ _ _ | exact Kd.N_nil _ _ _ _ _ | exact Kd.V_nil _ _ _ _ _ | exact Kd.Q_nil _ _ _ _ _ | exact Kd.S_nil _ _ _ _ _, by repeat (first | (with_reducible first | exact HB.out | apply below_alloc | apply pw_below_drewN | apply below_drew1) | exact HB.out)⟩
      · replace c4 := Bool.eq_false_iff.mpr c4
        subst c4
        have H1 : (warderref03_PutTime.l0 kj1 (Int.tmod (wrap64 ((Int.tmod a0 86400) + 86400)) 86400) (wrap64 (Int.tdiv (wrap64 (a0 - (Int.tmod (wrap64 ((Int.tmod a0 86400) + 86400)) 86400))) 86400)) 1950) = some (r1, r2, r3) := by rw [if_neg (show ¬ (false = true) by decide)] at H; exact H
        clear H
        have H := H1
        clear H1
        have H' := Aside0.mk H
        clear H
        go_wp2
        go_loopg [7] kj1 (fun kq v7 w' => ∃ (x7_2 : Int), v7 = .int .i64 x7_2 ∧ Aside0 (warderref03_PutTime.l0 kq (Int.tmod (wrap64 ((Int.tmod a0 86400) + 86400)) 86400) (wrap64 (Int.tdiv (wrap64 (a0 - (Int.tmod (wrap64 ((Int.tmod a0 86400) + 86400)) 86400))) 86400)) x7_2 = some (r1, r2, r3)) ∧ Aside0 (kq ≤ kj1) ∧ Aside0 (Below w.heap.size w w'))
        case atStart => exact ⟨(1950), (by first | rfl | (simp; done) | (simp [*]; done)), H', ⟨Nat.le_refl _⟩, ⟨by repeat (first | (with_reducible first | exact HB.out | apply below_alloc | apply pw_below_drewN | apply below_drew1) | exact HB.out)⟩⟩
        case round =>
          clear H'
          try clear c1
          try clear p2
          try clear c3
          try clear c3b0
          try clear c4
          try clear p2
          obtain ⟨x7_2, rfl, HA, HK2, HB⟩ := hrel
          cases gk with
          | zero => exact absurd HA.out (by simp [warderref03_PutTime.l0])
          | succ k2 =>
            have H := HA.out
            clear HA
            simp only [warderref03_PutTime.l0] at H
            replace H := Option.bind_eq_some_iff.mp H
            obtain ⟨t112, A50, H⟩ := H
            replace H : (if t112 ≤ (wrap64 (Int.tdiv (wrap64 (a0 - (Int.tmod (wrap64 ((Int.tmod a0 86400) + 86400)) 86400))) 86400)) then (warderref03_PutTime.l0 k2 (Int.tmod (wrap64 ((Int.tmod a0 86400) + 86400)) 86400) (wrap64 (Int.tdiv (wrap64 (a0 - (Int.tmod (wrap64 ((Int.tmod a0 86400) + 86400)) 86400))) 86400)) (wrap64 (x7_2 + 1))) else ((warderref03_days.f x7_2).bind fun t113 => (warderref03_PutTime.l1 k2 (Int.tmod (wrap64 ((Int.tmod a0 86400) + 86400)) 86400) (wrap64 ((wrap64 (Int.tdiv (wrap64 (a0 - (Int.tmod (wrap64 ((Int.tmod a0 86400) + 86400)) 86400))) 86400)) - t113)) x7_2 1))) = some (r1, r2, r3) := H
            have A5 := Aside0.mk A50
            clear A50
            by_cases c6 : t112 ≤ (wrap64 (Int.tdiv (wrap64 (a0 - (Int.tmod (wrap64 ((Int.tmod a0 86400) + 86400)) 86400))) 86400))
            · rw [if_pos c6] at H
              have c6b0 : decide (t112 ≤ (wrap64 (Int.tdiv (wrap64 (a0 - (Int.tmod (wrap64 ((Int.tmod a0 86400) + 86400)) 86400))) 86400))) = true := decide_eq_true c6
              clear c6
              have H' := Aside0.mk H
              clear H
              go_wp2_with (first | ((with_reducible refine gate_callee (f := 37) rfl ?_); refine goesL_ (some 27) rfl rfl Tryd.func37 (by kernel_rfl) rfl #[.int .i64 (wrap64 (x7_2 + 1))] rfl (by (try simp only [List.map_toArray, List.map_cons, List.map_nil]); first | done | rfl | (simp only [List.length_drop, List.length_take]; rfl)) ?_; (with_reducible refine (warderref03_days.calls (wrap64 (x7_2 + 1)) t112 _ A5.out).mono ?_); rintro e w' ⟨rfl, ⟨nd, rfl⟩⟩; refine ⟨_, rfl, ?_⟩))
              go_roundg k2
              case measure => have := HJ1.out; have := HK2.out; omega
              case rel => exact ⟨(wrap64 (x7_2 + 1)), (by first | rfl | (simp; done) | (simp [*]; done)), H', ⟨by have := HJ1.out; have := HK2.out; omega⟩, ⟨by repeat (first | (with_reducible first | exact HB.out | apply below_alloc | apply pw_below_drewN | apply below_drew1) | exact HB.out)⟩⟩
            · rw [if_neg c6] at H
              have c6b0 : decide (t112 ≤ (wrap64 (Int.tdiv (wrap64 (a0 - (Int.tmod (wrap64 ((Int.tmod a0 86400) + 86400)) 86400))) 86400))) = false := decide_eq_false c6
              clear c6
              replace H := Option.bind_eq_some_iff.mp H
              obtain ⟨t113, A70, H⟩ := H
              replace H : (warderref03_PutTime.l1 k2 (Int.tmod (wrap64 ((Int.tmod a0 86400) + 86400)) 86400) (wrap64 ((wrap64 (Int.tdiv (wrap64 (a0 - (Int.tmod (wrap64 ((Int.tmod a0 86400) + 86400)) 86400))) 86400)) - t113)) x7_2 1) = some (r1, r2, r3) := H
              have A7 := Aside0.mk A70
              clear A70
              have H' := Aside0.mk H
              clear H
              go_wp2_with (first | ((with_reducible refine gate_callee (f := 37) rfl ?_); refine goesL_ (some 27) rfl rfl Tryd.func37 (by kernel_rfl) rfl #[.int .i64 (wrap64 (x7_2 + 1))] rfl (by (try simp only [List.map_toArray, List.map_cons, List.map_nil]); first | done | rfl | (simp only [List.length_drop, List.length_take]; rfl)) ?_; (with_reducible refine (warderref03_days.calls (wrap64 (x7_2 + 1)) t112 _ A5.out).mono ?_); rintro e w' ⟨rfl, ⟨nd, rfl⟩⟩; refine ⟨_, rfl, ?_⟩) | ((with_reducible refine gate_callee (f := 37) rfl ?_); refine goesL_ (some 34) rfl rfl Tryd.func37 (by kernel_rfl) rfl #[.int .i64 x7_2] rfl (by (try simp only [List.map_toArray, List.map_cons, List.map_nil]); first | done | rfl | (simp only [List.length_drop, List.length_take]; rfl)) ?_; (with_reducible refine (warderref03_days.calls x7_2 t113 _ A7.out).mono ?_); rintro e w' ⟨rfl, ⟨nd, rfl⟩⟩; refine ⟨_, rfl, ?_⟩))
              go_loopg [6, 8] k2 (fun kq v6 v8 w' => ∃ (x6_3 : Int) (x8_3 : Int), v6 = .int .i64 x6_3 ∧ v8 = .int .i64 x8_3 ∧ Aside0 (warderref03_PutTime.l1 kq (Int.tmod (wrap64 ((Int.tmod a0 86400) + 86400)) 86400) x6_3 x7_2 x8_3 = some (r1, r2, r3)) ∧ Aside0 (kq ≤ k2) ∧ Aside0 (Below w.heap.size w w'))
              case atStart => exact ⟨(wrap64 ((wrap64 (Int.tdiv (wrap64 (a0 - (Int.tmod (wrap64 ((Int.tmod a0 86400) + 86400)) 86400))) 86400)) - t113)), (1), (by first | rfl | (simp; done) | (simp [*]; done)), (by first | rfl | (simp; done) | (simp [*]; done)), H', ⟨Nat.le_refl _⟩, ⟨by repeat (first | (with_reducible first | exact HB.out | apply below_alloc | apply pw_below_drewN | apply below_drew1) | exact HB.out)⟩⟩
              case round =>
                clear H'
                try clear c1
                try clear p2
                try clear c3
                try clear c3b0
                try clear c4
                try clear c6
                try clear c6b0
                try clear p6
                try clear p2
                obtain ⟨x6_3, x8_3, rfl, rfl, HA, HK3, HB⟩ := hrel
                cases gk with
                | zero => exact absurd HA.out (by simp [warderref03_PutTime.l1])
                | succ k3 =>
                  have H := HA.out
                  clear HA
                  simp only [warderref03_PutTime.l1] at H
                  replace H := Option.bind_eq_some_iff.mp H
                  obtain ⟨t114, A80, H⟩ := H
                  replace H : (if x6_3 ≥ t114 then ((warderref03_month.f x7_2 x8_3).bind fun t115 => (warderref03_PutTime.l1 k3 (Int.tmod (wrap64 ((Int.tmod a0 86400) + 86400)) 86400) (wrap64 (x6_3 - t115)) x7_2 (wrap64 (x8_3 + 1)))) else ((warderref03_two.f (wrap64 (Int.tdiv x7_2 100))).bind fun t116 => ((warderref03_two.f (Int.tmod x7_2 100)).bind fun t119 => (if t116.length + t119.length < 140737488355328 then (if x7_2 < 2050 then ((warderref03_two.f (Int.tmod x7_2 100)).bind fun t125 => (warderref03_PutTime.j3 k3 (Int.tmod (wrap64 ((Int.tmod a0 86400) + 86400)) 86400) x6_3 x8_3 23 t125)) else (warderref03_PutTime.j3 k3 (Int.tmod (wrap64 ((Int.tmod a0 86400) + 86400)) 86400) x6_3 x8_3 24 (t116 ++ t119))) else (none))))) = some (r1, r2, r3) := H
                  have A8 := Aside0.mk A80
                  clear A80
                  by_cases c9 : x6_3 ≥ t114
                  · rw [if_pos c9] at H
                    have c9b0 : decide (t114 ≤ x6_3) = true := decide_eq_true c9
                    clear c9
                    replace H := Option.bind_eq_some_iff.mp H
                    obtain ⟨t115, A100, H⟩ := H
                    replace H : (warderref03_PutTime.l1 k3 (Int.tmod (wrap64 ((Int.tmod a0 86400) + 86400)) 86400) (wrap64 (x6_3 - t115)) x7_2 (wrap64 (x8_3 + 1))) = some (r1, r2, r3) := H
                    have A10 := Aside0.mk A100
                    clear A100
                    have H' := Aside0.mk H
                    clear H
                    go_wp2_with (first | ((with_reducible refine gate_callee (f := 38) rfl ?_); refine goesL_ (some 39) rfl rfl Tryd.func38 (by kernel_rfl) rfl #[.int .i64 x7_2, .int .i64 x8_3] rfl (by (try simp only [List.map_toArray, List.map_cons, List.map_nil]); first | done | rfl | (simp only [List.length_drop, List.length_take]; rfl)) ?_; (with_reducible refine (warderref03_month.calls x7_2 x8_3 t114 _ A8.out).mono ?_); rintro e w11 ⟨rfl, hb⟩; refine ⟨_, rfl, ?_⟩; have n0_ := Aside0.mk (below_step (by repeat (first | (with_reducible first | exact HB.out | apply below_alloc | apply pw_below_drewN | apply below_drew1) | exact HB.out)) hb); clear HB; have HB := n0_; clear n0_; (try clear hb); (try clear hb2); (try clear hk); (try clear hi)) | ((with_reducible refine gate_callee (f := 38) rfl ?_); refine goesL_ (some 44) rfl rfl Tryd.func38 (by kernel_rfl) rfl #[.int .i64 x7_2, .int .i64 x8_3] rfl (by (try simp only [List.map_toArray, List.map_cons, List.map_nil]); first | done | rfl | (simp only [List.length_drop, List.length_take]; rfl)) ?_; (with_reducible refine (warderref03_month.calls x7_2 x8_3 t115 _ A10.out).mono ?_); rintro e w12 ⟨rfl, hb⟩; refine ⟨_, rfl, ?_⟩; have n0_ := Aside0.mk (below_step (by repeat (first | (with_reducible first | exact HB.out | apply below_alloc | apply pw_below_drewN | apply below_drew1) | exact HB.out)) hb); clear HB; have HB := n0_; clear n0_; (try clear hb); (try clear hb2); (try clear hk); (try clear hi)))
                    go_roundg k3
                    case measure => have := HJ1.out; have := HK2.out; have := HK3.out; omega
                    case rel => exact ⟨(wrap64 (x6_3 - t115)), (wrap64 (x8_3 + 1)), (by first | rfl | (simp; done) | (simp [*]; done)), (by first | rfl | (simp; done) | (simp [*]; done)), H', ⟨by have := HJ1.out; have := HK2.out; have := HK3.out; omega⟩, ⟨by repeat (first | (with_reducible first | exact HB.out | apply below_alloc | apply pw_below_drewN | apply below_drew1) | exact HB.out)⟩⟩
                  · rw [if_neg c9] at H
                    have c9b0 : decide (t114 ≤ x6_3) = false := decide_eq_false c9
                    clear c9
                    replace H := Option.bind_eq_some_iff.mp H
                    obtain ⟨t116, A130, H⟩ := H
                    replace H : ((warderref03_two.f (Int.tmod x7_2 100)).bind fun t119 => (if t116.length + t119.length < 140737488355328 then (if x7_2 < 2050 then ((warderref03_two.f (Int.tmod x7_2 100)).bind fun t125 => (warderref03_PutTime.j3 k3 (Int.tmod (wrap64 ((Int.tmod a0 86400) + 86400)) 86400) x6_3 x8_3 23 t125)) else (warderref03_PutTime.j3 k3 (Int.tmod (wrap64 ((Int.tmod a0 86400) + 86400)) 86400) x6_3 x8_3 24 (t116 ++ t119))) else (none))) = some (r1, r2, r3) := H
                    have A13 := Aside0.mk A130
                    clear A130
                    replace H := Option.bind_eq_some_iff.mp H
                    obtain ⟨t119, A140, H⟩ := H
                    replace H : (if t116.length + t119.length < 140737488355328 then (if x7_2 < 2050 then ((warderref03_two.f (Int.tmod x7_2 100)).bind fun t125 => (warderref03_PutTime.j3 k3 (Int.tmod (wrap64 ((Int.tmod a0 86400) + 86400)) 86400) x6_3 x8_3 23 t125)) else (warderref03_PutTime.j3 k3 (Int.tmod (wrap64 ((Int.tmod a0 86400) + 86400)) 86400) x6_3 x8_3 24 (t116 ++ t119))) else (none)) = some (r1, r2, r3) := H
                    have A14 := Aside0.mk A140
                    clear A140
                    by_cases c15 : t116.length + t119.length < 140737488355328
                    · rw [if_pos c15] at H
                      have LMc15 := Aside0.mk c15
                      clear c15
                      obtain ⟨y122, hy122⟩ : ∃ y_ : List Int, y_ = (t116 ++ t119) := ⟨_, rfl⟩
                      replace H : (if x7_2 < 2050 then ((warderref03_two.f (Int.tmod x7_2 100)).bind fun t125 => (warderref03_PutTime.j3 k3 (Int.tmod (wrap64 ((Int.tmod a0 86400) + 86400)) 86400) x6_3 x8_3 23 t125)) else (warderref03_PutTime.j3 k3 (Int.tmod (wrap64 ((Int.tmod a0 86400) + 86400)) 86400) x6_3 x8_3 24 y122)) = some (r1, r2, r3) := by first | (rw [hy122]; with_reducible exact H) | (have H2_ := (Option.bind_some _ _).symm.trans H; rw [hy122]; with_reducible exact H2_) | (have H2_ := (Option.bind_some _ _).symm.trans H; with_reducible exact H2_) | with_reducible exact H | (rw [hy122]; exact H) | exact H
                      have Ny122 := Aside0.mk hy122
                      clear hy122
                      have HC16 := Aside0.mk H
                      clear H
                      go_upto_if 56 with (first | ((with_reducible refine gate_callee (f := 38) rfl ?_); refine goesL_ (some 39) rfl rfl Tryd.func38 (by kernel_rfl) rfl #[.int .i64 x7_2, .int .i64 x8_3] rfl (by (try simp only [List.map_toArray, List.map_cons, List.map_nil]); first | done | rfl | (simp only [List.length_drop, List.length_take]; rfl)) ?_; (with_reducible refine (warderref03_month.calls x7_2 x8_3 t114 _ A8.out).mono ?_); rintro e w17 ⟨rfl, hb⟩; refine ⟨_, rfl, ?_⟩; have n0_ := Aside0.mk (below_step (by repeat (first | (with_reducible first | exact HB.out | apply below_alloc | apply pw_below_drewN | apply below_drew1) | exact HB.out)) hb); clear HB; have HB := n0_; clear n0_; (try clear hb); (try clear hb2); (try clear hk); (try clear hi)) | ((with_reducible refine gate_callee (f := 39) rfl ?_); refine goesL_ (some 50) rfl rfl Tryd.func39 (by kernel_rfl) rfl #[.int .i64 (wrap64 (Int.tdiv x7_2 100))] rfl (by (try simp only [List.map_toArray, List.map_cons, List.map_nil]); first | done | rfl | (simp only [List.length_drop, List.length_take]; rfl)) ?_; (with_reducible refine (warderref03_two.calls (wrap64 (Int.tdiv x7_2 100)) t116 _ A13.out).mono ?_); rintro e w18 ⟨v117, rfl, ho0, hb⟩; refine ⟨_, rfl, ?_⟩; have n0_ := Aside0.mk (Kd.R_lower ho0 (below_size (by repeat (first | (with_reducible first | exact HB.out | apply below_alloc | apply pw_below_drewN | apply below_drew1) | exact HB.out)))); have n1_ := Aside0.mk (below_step (by repeat (first | (with_reducible first | exact HB.out | apply below_alloc | apply pw_below_drewN | apply below_drew1) | exact HB.out)) hb); clear HB; have HO118 := n0_; have HB := n1_; clear n0_ n1_; (try clear hb); (try clear hb2); (try clear hk); (try clear hi); (try clear ho0)) | ((with_reducible refine gate_callee (f := 39) rfl ?_); refine goesL_ (some 53) rfl rfl Tryd.func39 (by kernel_rfl) rfl #[.int .i64 (Int.tmod x7_2 100)] rfl (by (try simp only [List.map_toArray, List.map_cons, List.map_nil]); first | done | rfl | (simp only [List.length_drop, List.length_take]; rfl)) ?_; (with_reducible refine (warderref03_two.calls (Int.tmod x7_2 100) t119 _ A14.out).mono ?_); rintro e w19 ⟨v120, rfl, ho0, hb⟩; refine ⟨_, rfl, ?_⟩; have n0_ := Aside0.mk (Kd.R_elder' (by (with_reducible repeat (first | apply Kd.R_alloc | apply Kd.R_drewN | apply Kd.R_drew)); exact HO118.out) (Kd.R_base ho0) hb); have n1_ := Aside0.mk (Kd.R_lower (Kd.R_new' ho0 (Kd.R_lt (by (with_reducible repeat (first | apply Kd.R_alloc | apply Kd.R_drewN | apply Kd.R_drew)); exact HO118.out))) (below_size (by repeat (first | (with_reducible first | exact HB.out | apply below_alloc | apply pw_below_drewN | apply below_drew1) | exact HB.out)))); have n2_ := Aside0.mk (below_step (by repeat (first | (with_reducible first | exact HB.out | apply below_alloc | apply pw_below_drewN | apply below_drew1) | exact HB.out)) hb); clear HO118; clear HB; have HO118 := n0_; have HO121 := n1_; have HB := n2_; clear n0_ n1_ n2_; (try clear hb); (try clear hb2); (try clear hk); (try clear hi); (try clear ho0); obtain ⟨Ao21, co21, eo21⟩ := Kd.R_slice HO121.out; subst eo21) | ((with_reducible refine gate_builtin (b := .append) (xs := #[.tmp 50, .tmp 53]) rfl ?_); at_builtin; refine Kd.R_append_rows (Kd.int .u8) (w0 := w) w.heap.size rfl (.tmp 50) (.tmp 53) 22 5 (.int .u8 0) 1 rfl Tryd.underlying22 info5 rfl (by decide) (by omega) v117 t116 t119 _ _ _ (fun k_ => some k_ ≠ (.slice Ao21 t119.length co21 : Value).ownBlock) (fun _ => False) rfl rfl ?aO ?aR (fun _ _ h => h) (fun _ h => h.elim) ?aF ?aB ?aS ?aL ?_; (case aR => repeat (first | exact (Kd.R_reads' HO121.out).2.2 | (with_reducible refine Kd.C_alloc ?_ _) | (with_reducible refine Kd.C_drewN ?_ _) | (with_reducible refine Kd.C_drew ?_))); (case aB => exact (by repeat (first | (with_reducible first | exact HB.out | apply below_alloc | apply pw_below_drewN | apply below_drew1) | exact HB.out))); (case aF => exact (fun k_ hk => Kd.fresh' (Kd.R_lt (by (with_reducible repeat (first | apply Kd.R_alloc | apply Kd.R_drewN | apply Kd.R_drew)); exact HO121.out)) k_ hk)); (case aO => exact (by (with_reducible repeat (first | apply Kd.R_alloc | apply Kd.R_drewN | apply Kd.R_drew)); exact Kd.R_mono HO118.out (fun _ hk => hk.2))); (case aS => exact (below_size (by repeat (first | (with_reducible first | exact HB.out | apply below_alloc | apply pw_below_drewN | apply below_drew1) | exact HB.out)))); (case aL => have := LMc15.out; omega); intro v123 w20 ho hb hg hat; rw [← Ny122.out] at ho; have n0_ := Aside0.mk (Kd.R_after (ok := (fun _ => True)) (by (with_reducible repeat (first | apply Kd.R_alloc | apply Kd.R_drewN | apply Kd.R_drew)); exact HO121.out) hg hat); have n1_ := Aside0.mk (hb); have n2_ := Aside0.mk (ho); clear HO121; clear HB; clear HO118; have HO121 := n0_; have HB := n1_; have HO124 := n2_; clear n0_ n1_ n2_; clear ho hb hg hat))
                      (try simp only [Act.put, List.setIfInBounds_toArray, List.set_cons_zero, List.set_cons_succ])
                      go_cut [9, 10] (fun v9 v10 wc => ∃ (kq : Nat) (x9_15 : Int) (x10_15 : List Int), v9 = .int .u8 x9_15 ∧ Aside0 (warderref03_PutTime.j3 kq (Int.tmod (wrap64 ((Int.tmod a0 86400) + 86400)) 86400) x6_3 x8_3 x9_15 x10_15 = some (r1, r2, r3)) ∧ Aside0 (kq ≤ k3) ∧ Aside0 (Kd.R (Kd.int .u8) 5 wc w.heap.size (fun _ => True) v10 x10_15) ∧ Aside0 (Below w.heap.size w wc))
                      case first =>
                        have H := HC16.out
                        clear HC16
                        by_cases c22 : x7_2 < 2050
                        · rw [if_pos c22] at H
                          have c22b0 : decide (x7_2 < 2050) = true := decide_eq_true c22
                          clear c22
                          (first | rw [c22b0] | (simp only [i64_w, i32_w]; rw [c22b0]) | skip)
                          replace H := Option.bind_eq_some_iff.mp H
                          obtain ⟨t125, A230, H⟩ := H
                          replace H : (warderref03_PutTime.j3 k3 (Int.tmod (wrap64 ((Int.tmod a0 86400) + 86400)) 86400) x6_3 x8_3 23 t125) = some (r1, r2, r3) := H
                          have A23 := Aside0.mk A230
                          clear A230
                          have H' := Aside0.mk H
                          clear H
                          go_wp2_with (first | ((with_reducible refine gate_callee (f := 39) rfl ?_); refine goesL_ (some 59) rfl rfl Tryd.func39 (by kernel_rfl) rfl #[.int .i64 (Int.tmod x7_2 100)] rfl (by (try simp only [List.map_toArray, List.map_cons, List.map_nil]); first | done | rfl | (simp only [List.length_drop, List.length_take]; rfl)) ?_; (with_reducible refine (warderref03_two.calls (Int.tmod x7_2 100) t125 _ A23.out).mono ?_); rintro e w24 ⟨v126, rfl, ho0, hb⟩; refine ⟨_, rfl, ?_⟩; have n0_ := Aside0.mk (Kd.R_elder' (by (with_reducible repeat (first | apply Kd.R_alloc | apply Kd.R_drewN | apply Kd.R_drew)); exact HO121.out) (Kd.R_base ho0) hb); have n1_ := Aside0.mk (Kd.R_elder' (by (with_reducible repeat (first | apply Kd.R_alloc | apply Kd.R_drewN | apply Kd.R_drew)); exact HO124.out) (Kd.R_base ho0) hb); have n2_ := Aside0.mk (Kd.R_lower (Kd.R_new' (Kd.R_new' ho0 (Kd.R_lt (by (with_reducible repeat (first | apply Kd.R_alloc | apply Kd.R_drewN | apply Kd.R_drew)); exact HO121.out))) (Kd.R_lt (by (with_reducible repeat (first | apply Kd.R_alloc | apply Kd.R_drewN | apply Kd.R_drew)); exact HO124.out))) (below_size (by repeat (first | (with_reducible first | exact HB.out | apply below_alloc | apply pw_below_drewN | apply below_drew1) | exact HB.out)))); have n3_ := Aside0.mk (below_step (by repeat (first | (with_reducible first | exact HB.out | apply below_alloc | apply pw_below_drewN | apply below_drew1) | exact HB.out)) hb); clear HO121; clear HO124; clear HB; have HO121 := n0_; have HO124 := n1_; have HO127 := n2_; have HB := n3_; clear n0_ n1_ n2_ n3_; (try clear hb); (try clear hb2); (try clear hk); (try clear hi); (try clear ho0)))
                          go_meet
                          case rel => exact ⟨_, (23), (t125), (by first | rfl | (simp; done) | (simp [*]; done)), H', ⟨by have := HJ1.out; have := HK2.out; have := HK3.out; first | omega | exact Nat.le_refl _⟩, ⟨by (with_reducible repeat (first | apply Kd.R_alloc | apply Kd.R_drewN | apply Kd.R_drew)); exact Kd.R_mono HO127.out (fun _ hk => trivial)⟩, ⟨by repeat (first | (with_reducible first | exact HB.out | apply below_alloc | apply pw_below_drewN | apply below_drew1) | exact HB.out)⟩⟩
                        · rw [if_neg c22] at H
                          have c22b0 : decide (x7_2 < 2050) = false := decide_eq_false c22
                          clear c22
                          (first | rw [c22b0] | (simp only [i64_w, i32_w]; rw [c22b0]) | skip)
                          have H' := Aside0.mk H
                          clear H
                          go_wp2
                          go_meet
                          case rel => exact ⟨_, (24), (y122), (by first | rfl | (simp; done) | (simp [*]; done)), H', ⟨by have := HJ1.out; have := HK2.out; have := HK3.out; first | omega | exact Nat.le_refl _⟩, ⟨by (with_reducible repeat (first | apply Kd.R_alloc | apply Kd.R_drewN | apply Kd.R_drew)); exact Kd.R_mono HO124.out (fun _ hk => trivial)⟩, ⟨by repeat (first | (with_reducible first | exact HB.out | apply below_alloc | apply pw_below_drewN | apply below_drew1) | exact HB.out)⟩⟩
                      case rest =>
                        clear HC16
                        try clear c1
                        try clear c2
                        try clear p2
                        try clear c3
                        try clear c3b0
                        try clear c4
                        try clear c6
                        try clear c6b0
                        try clear p6
                        try clear c9
                        try clear c9b0
                        try clear c15
                        try clear c18
                        try clear c22
                        try clear c22b0
                        try clear p2
                        try clear p6
                        obtain ⟨kq, x9_15, x10_15, rfl, HA, HJ15, HO_10, HB⟩ := hcut
                        cases kq with
                        | zero => exact absurd HA.out (by simp [warderref03_PutTime.j3])
                        | succ kj15 =>
                          have H := HA.out
                          clear HA
                          simp only [warderref03_PutTime.j3] at H
                          replace H := Option.bind_eq_some_iff.mp H
                          obtain ⟨t128, A250, H⟩ := H
                          replace H : (if x10_15.length + t128.length < 140737488355328 then ((some (x10_15 ++ t128 : List Int)).bind fun y131 => ((warderref03_two.f (wrap64 (x6_3 + 1))).bind fun t134 => (if y131.length + t134.length < 140737488355328 then ((some (y131 ++ t134 : List Int)).bind fun y137 => ((warderref03_two.f (wrap64 (Int.tdiv (Int.tmod (wrap64 ((Int.tmod a0 86400) + 86400)) 86400) 3600))).bind fun t140 => (if y137.length + t140.length < 140737488355328 then ((some (y137 ++ t140 : List Int)).bind fun y143 => ((warderref03_two.f (Int.tmod (wrap64 (Int.tdiv (Int.tmod (wrap64 ((Int.tmod a0 86400) + 86400)) 86400) 60)) 60)).bind fun t146 => (if y143.length + t146.length < 140737488355328 then ((some (y143 ++ t146 : List Int)).bind fun y149 => ((warderref03_two.f (Int.tmod (Int.tmod (wrap64 ((Int.tmod a0 86400) + 86400)) 86400) 60)).bind fun t152 => (if y149.length + t152.length < 140737488355328 then ((some (y149 ++ t152 : List Int)).bind fun y155 => (if y155.length < 140737488355328 then (some (x9_15, (y155 ++ [90]), 0)) else (none))) else (none)))) else (none)))) else (none)))) else (none)))) else (none)) = some (r1, r2, r3) := H
                          have A25 := Aside0.mk A250
                          clear A250
                          by_cases c26 : x10_15.length + t128.length < 140737488355328
                          · rw [if_pos c26] at H
                            have LMc26 := Aside0.mk c26
                            clear c26
                            obtain ⟨y131, hy131⟩ : ∃ y_ : List Int, y_ = (x10_15 ++ t128) := ⟨_, rfl⟩
                            replace H : ((warderref03_two.f (wrap64 (x6_3 + 1))).bind fun t134 => (if y131.length + t134.length < 140737488355328 then ((some (y131 ++ t134 : List Int)).bind fun y137 => ((warderref03_two.f (wrap64 (Int.tdiv (Int.tmod (wrap64 ((Int.tmod a0 86400) + 86400)) 86400) 3600))).bind fun t140 => (if y137.length + t140.length < 140737488355328 then ((some (y137 ++ t140 : List Int)).bind fun y143 => ((warderref03_two.f (Int.tmod (wrap64 (Int.tdiv (Int.tmod (wrap64 ((Int.tmod a0 86400) + 86400)) 86400) 60)) 60)).bind fun t146 => (if y143.length + t146.length < 140737488355328 then ((some (y143 ++ t146 : List Int)).bind fun y149 => ((warderref03_two.f (Int.tmod (Int.tmod (wrap64 ((Int.tmod a0 86400) + 86400)) 86400) 60)).bind fun t152 => (if y149.length + t152.length < 140737488355328 then ((some (y149 ++ t152 : List Int)).bind fun y155 => (if y155.length < 140737488355328 then (some (x9_15, (y155 ++ [90]), 0)) else (none))) else (none)))) else (none)))) else (none)))) else (none))) = some (r1, r2, r3) := by first | (rw [hy131]; with_reducible exact H) | (have H2_ := (Option.bind_some _ _).symm.trans H; rw [hy131]; with_reducible exact H2_) | (have H2_ := (Option.bind_some _ _).symm.trans H; with_reducible exact H2_) | with_reducible exact H | (rw [hy131]; exact H) | exact H
                            have Ny131 := Aside0.mk hy131
                            clear hy131
                            replace H := Option.bind_eq_some_iff.mp H
                            obtain ⟨t134, A270, H⟩ := H
                            replace H : (if y131.length + t134.length < 140737488355328 then ((some (y131 ++ t134 : List Int)).bind fun y137 => ((warderref03_two.f (wrap64 (Int.tdiv (Int.tmod (wrap64 ((Int.tmod a0 86400) + 86400)) 86400) 3600))).bind fun t140 => (if y137.length + t140.length < 140737488355328 then ((some (y137 ++ t140 : List Int)).bind fun y143 => ((warderref03_two.f (Int.tmod (wrap64 (Int.tdiv (Int.tmod (wrap64 ((Int.tmod a0 86400) + 86400)) 86400) 60)) 60)).bind fun t146 => (if y143.length + t146.length < 140737488355328 then ((some (y143 ++ t146 : List Int)).bind fun y149 => ((warderref03_two.f (Int.tmod (Int.tmod (wrap64 ((Int.tmod a0 86400) + 86400)) 86400) 60)).bind fun t152 => (if y149.length + t152.length < 140737488355328 then ((some (y149 ++ t152 : List Int)).bind fun y155 => (if y155.length < 140737488355328 then (some (x9_15, (y155 ++ [90]), 0)) else (none))) else (none)))) else (none)))) else (none)))) else (none)) = some (r1, r2, r3) := H
                            have A27 := Aside0.mk A270
                            clear A270
                            by_cases c28 : y131.length + t134.length < 140737488355328
                            · rw [if_pos c28] at H
                              have LMc28 := Aside0.mk c28
                              clear c28
                              obtain ⟨y137, hy137⟩ : ∃ y_ : List Int, y_ = (y131 ++ t134) := ⟨_, rfl⟩
                              replace H : ((warderref03_two.f (wrap64 (Int.tdiv (Int.tmod (wrap64 ((Int.tmod a0 86400) + 86400)) 86400) 3600))).bind fun t140 => (if y137.length + t140.length < 140737488355328 then ((some (y137 ++ t140 : List Int)).bind fun y143 => ((warderref03_two.f (Int.tmod (wrap64 (Int.tdiv (Int.tmod (wrap64 ((Int.tmod a0 86400) + 86400)) 86400) 60)) 60)).bind fun t146 => (if y143.length + t146.length < 140737488355328 then ((some (y143 ++ t146 : List Int)).bind fun y149 => ((warderref03_two.f (Int.tmod (Int.tmod (wrap64 ((Int.tmod a0 86400) + 86400)) 86400) 60)).bind fun t152 => (if y149.length + t152.length < 140737488355328 then ((some (y149 ++ t152 : List Int)).bind fun y155 => (if y155.length < 140737488355328 then (some (x9_15, (y155 ++ [90]), 0)) else (none))) else (none)))) else (none)))) else (none))) = some (r1, r2, r3) := by first | (rw [hy137]; with_reducible exact H) | (have H2_ := (Option.bind_some _ _).symm.trans H; rw [hy137]; with_reducible exact H2_) | (have H2_ := (Option.bind_some _ _).symm.trans H; with_reducible exact H2_) | with_reducible exact H | (rw [hy137]; exact H) | exact H
                              have Ny137 := Aside0.mk hy137
                              clear hy137
                              replace H := Option.bind_eq_some_iff.mp H
                              obtain ⟨t140, A290, H⟩ := H
                              replace H : (if y137.length + t140.length < 140737488355328 then ((some (y137 ++ t140 : List Int)).bind fun y143 => ((warderref03_two.f (Int.tmod (wrap64 (Int.tdiv (Int.tmod (wrap64 ((Int.tmod a0 86400) + 86400)) 86400) 60)) 60)).bind fun t146 => (if y143.length + t146.length < 140737488355328 then ((some (y143 ++ t146 : List Int)).bind fun y149 => ((warderref03_two.f (Int.tmod (Int.tmod (wrap64 ((Int.tmod a0 86400) + 86400)) 86400) 60)).bind fun t152 => (if y149.length + t152.length < 140737488355328 then ((some (y149 ++ t152 : List Int)).bind fun y155 => (if y155.length < 140737488355328 then (some (x9_15, (y155 ++ [90]), 0)) else (none))) else (none)))) else (none)))) else (none)) = some (r1, r2, r3) := H
                              have A29 := Aside0.mk A290
                              clear A290
                              by_cases c30 : y137.length + t140.length < 140737488355328
                              · rw [if_pos c30] at H
                                have LMc30 := Aside0.mk c30
                                clear c30
                                obtain ⟨y143, hy143⟩ : ∃ y_ : List Int, y_ = (y137 ++ t140) := ⟨_, rfl⟩
                                replace H : ((warderref03_two.f (Int.tmod (wrap64 (Int.tdiv (Int.tmod (wrap64 ((Int.tmod a0 86400) + 86400)) 86400) 60)) 60)).bind fun t146 => (if y143.length + t146.length < 140737488355328 then ((some (y143 ++ t146 : List Int)).bind fun y149 => ((warderref03_two.f (Int.tmod (Int.tmod (wrap64 ((Int.tmod a0 86400) + 86400)) 86400) 60)).bind fun t152 => (if y149.length + t152.length < 140737488355328 then ((some (y149 ++ t152 : List Int)).bind fun y155 => (if y155.length < 140737488355328 then (some (x9_15, (y155 ++ [90]), 0)) else (none))) else (none)))) else (none))) = some (r1, r2, r3) := by first | (rw [hy143]; with_reducible exact H) | (have H2_ := (Option.bind_some _ _).symm.trans H; rw [hy143]; with_reducible exact H2_) | (have H2_ := (Option.bind_some _ _).symm.trans H; with_reducible exact H2_) | with_reducible exact H | (rw [hy143]; exact H) | exact H
                                have Ny143 := Aside0.mk hy143
                                clear hy143
                                replace H := Option.bind_eq_some_iff.mp H
                                obtain ⟨t146, A310, H⟩ := H
                                replace H : (if y143.length + t146.length < 140737488355328 then ((some (y143 ++ t146 : List Int)).bind fun y149 => ((warderref03_two.f (Int.tmod (Int.tmod (wrap64 ((Int.tmod a0 86400) + 86400)) 86400) 60)).bind fun t152 => (if y149.length + t152.length < 140737488355328 then ((some (y149 ++ t152 : List Int)).bind fun y155 => (if y155.length < 140737488355328 then (some (x9_15, (y155 ++ [90]), 0)) else (none))) else (none)))) else (none)) = some (r1, r2, r3) := H
                                have A31 := Aside0.mk A310
                                clear A310
                                by_cases c32 : y143.length + t146.length < 140737488355328
                                · rw [if_pos c32] at H
                                  have LMc32 := Aside0.mk c32
                                  clear c32
                                  obtain ⟨y149, hy149⟩ : ∃ y_ : List Int, y_ = (y143 ++ t146) := ⟨_, rfl⟩
                                  replace H : ((warderref03_two.f (Int.tmod (Int.tmod (wrap64 ((Int.tmod a0 86400) + 86400)) 86400) 60)).bind fun t152 => (if y149.length + t152.length < 140737488355328 then ((some (y149 ++ t152 : List Int)).bind fun y155 => (if y155.length < 140737488355328 then (some (x9_15, (y155 ++ [90]), 0)) else (none))) else (none))) = some (r1, r2, r3) := by first | (rw [hy149]; with_reducible exact H) | (have H2_ := (Option.bind_some _ _).symm.trans H; rw [hy149]; with_reducible exact H2_) | (have H2_ := (Option.bind_some _ _).symm.trans H; with_reducible exact H2_) | with_reducible exact H | (rw [hy149]; exact H) | exact H
                                  have Ny149 := Aside0.mk hy149
                                  clear hy149
                                  replace H := Option.bind_eq_some_iff.mp H
                                  obtain ⟨t152, A330, H⟩ := H
                                  replace H : (if y149.length + t152.length < 140737488355328 then ((some (y149 ++ t152 : List Int)).bind fun y155 => (if y155.length < 140737488355328 then (some (x9_15, (y155 ++ [90]), 0)) else (none))) else (none)) = some (r1, r2, r3) := H
                                  have A33 := Aside0.mk A330
                                  clear A330
                                  by_cases c34 : y149.length + t152.length < 140737488355328
                                  · rw [if_pos c34] at H
                                    have LMc34 := Aside0.mk c34
                                    clear c34
                                    obtain ⟨y155, hy155⟩ : ∃ y_ : List Int, y_ = (y149 ++ t152) := ⟨_, rfl⟩
                                    replace H : (if y155.length < 140737488355328 then (some (x9_15, (y155 ++ [90]), 0)) else (none)) = some (r1, r2, r3) := by first | (rw [hy155]; with_reducible exact H) | (have H2_ := (Option.bind_some _ _).symm.trans H; rw [hy155]; with_reducible exact H2_) | (have H2_ := (Option.bind_some _ _).symm.trans H; with_reducible exact H2_) | with_reducible exact H | (rw [hy155]; exact H) | exact H
                                    have Ny155 := Aside0.mk hy155
                                    clear hy155
                                    by_cases c35 : y155.length < 140737488355328
                                    · rw [if_pos c35] at H
                                      have LMc35 := Aside0.mk c35
                                      clear c35
                                      obtain ⟨y158, hy158⟩ : ∃ y_ : List Int, y_ = (y155 ++ [90]) := ⟨_, rfl⟩
                                      replace H : (some (x9_15, y158, 0)) = some (r1, r2, r3) := by first | (rw [hy158]; with_reducible exact H) | (have H2_ := (Option.bind_some _ _).symm.trans H; rw [hy158]; with_reducible exact H2_) | (have H2_ := (Option.bind_some _ _).symm.trans H; with_reducible exact H2_) | with_reducible exact H | (rw [hy158]; exact H) | exact H
                                      have Ny158 := Aside0.mk hy158
                                      clear hy158
                                      simp only [Option.some.injEq, Prod.mk.injEq] at H
                                      obtain ⟨rfl, rfl, rfl⟩ := H
                                      go_wp2_with (first | ((with_reducible refine gate_callee (f := 39) rfl ?_); refine goesL_ (some 62) rfl rfl Tryd.func39 (by kernel_rfl) rfl #[.int .i64 x8_3] rfl (by (try simp only [List.map_toArray, List.map_cons, List.map_nil]); first | done | rfl | (simp only [List.length_drop, List.length_take]; rfl)) ?_; (with_reducible refine (warderref03_two.calls x8_3 t128 _ A25.out).mono ?_); rintro e w36 ⟨v129, rfl, ho0, hb⟩; refine ⟨_, rfl, ?_⟩; have n0_ := Aside0.mk (Kd.R_elder' (by (with_reducible repeat (first | apply Kd.R_alloc | apply Kd.R_drewN | apply Kd.R_drew)); exact HO_10.out) (Kd.R_base ho0) hb); have n1_ := Aside0.mk (Kd.R_lower (Kd.R_new' ho0 (Kd.R_lt (by (with_reducible repeat (first | apply Kd.R_alloc | apply Kd.R_drewN | apply Kd.R_drew)); exact HO_10.out))) (below_size (by repeat (first | (with_reducible first | exact HB.out | apply below_alloc | apply pw_below_drewN | apply below_drew1) | exact HB.out)))); have n2_ := Aside0.mk (below_step (by repeat (first | (with_reducible first | exact HB.out | apply below_alloc | apply pw_below_drewN | apply below_drew1) | exact HB.out)) hb); clear HO_10; clear HB; have HO_10 := n0_; have HO130 := n1_; have HB := n2_; clear n0_ n1_ n2_; (try clear hb); (try clear hb2); (try clear hk); (try clear hi); (try clear ho0); obtain ⟨Ao38, co38, eo38⟩ := Kd.R_slice HO130.out; subst eo38) | ((with_reducible refine gate_builtin (b := .append) (xs := #[.tmp 60, .tmp 62]) rfl ?_); at_builtin; refine Kd.R_append_rows (Kd.int .u8) (w0 := w) w.heap.size rfl (.tmp 60) (.tmp 62) 22 5 (.int .u8 0) 1 rfl Tryd.underlying22 info5 rfl (by decide) (by omega) u10 x10_15 t128 _ _ _ (fun k_ => some k_ ≠ (.slice Ao38 t128.length co38 : Value).ownBlock) (fun _ => False) rfl rfl ?aO ?aR (fun _ _ h => h) (fun _ h => h.elim) ?aF ?aB ?aS ?aL ?_; (case aR => repeat (first | exact (Kd.R_reads' HO130.out).2.2 | (with_reducible refine Kd.C_alloc ?_ _) | (with_reducible refine Kd.C_drewN ?_ _) | (with_reducible refine Kd.C_drew ?_))); (case aB => exact (by repeat (first | (with_reducible first | exact HB.out | apply below_alloc | apply pw_below_drewN | apply below_drew1) | exact HB.out))); (case aF => exact (fun k_ hk => Kd.fresh' (Kd.R_lt (by (with_reducible repeat (first | apply Kd.R_alloc | apply Kd.R_drewN | apply Kd.R_drew)); exact HO130.out)) k_ hk)); (case aO => exact (by (with_reducible repeat (first | apply Kd.R_alloc | apply Kd.R_drewN | apply Kd.R_drew)); exact Kd.R_mono HO_10.out (fun _ hk => hk.2))); (case aS => exact (below_size (by repeat (first | (with_reducible first | exact HB.out | apply below_alloc | apply pw_below_drewN | apply below_drew1) | exact HB.out)))); (case aL => have := LMc26.out; omega); intro v132 w37 ho hb hg hat; rw [← Ny131.out] at ho; have n0_ := Aside0.mk (Kd.R_after (ok := (fun _ => True)) (by (with_reducible repeat (first | apply Kd.R_alloc | apply Kd.R_drewN | apply Kd.R_drew)); exact HO130.out) hg hat); have n1_ := Aside0.mk (hb); have n2_ := Aside0.mk (ho); clear HO130; clear HB; clear HO_10; have HO130 := n0_; have HB := n1_; have HO133 := n2_; clear n0_ n1_ n2_; clear ho hb hg hat) | ((with_reducible refine gate_callee (f := 39) rfl ?_); refine goesL_ (some 67) rfl rfl Tryd.func39 (by kernel_rfl) rfl #[.int .i64 (wrap64 (x6_3 + 1))] rfl (by (try simp only [List.map_toArray, List.map_cons, List.map_nil]); first | done | rfl | (simp only [List.length_drop, List.length_take]; rfl)) ?_; (with_reducible refine (warderref03_two.calls (wrap64 (x6_3 + 1)) t134 _ A27.out).mono ?_); rintro e w39 ⟨v135, rfl, ho0, hb⟩; refine ⟨_, rfl, ?_⟩; have n0_ := Aside0.mk (Kd.R_elder' (by (with_reducible repeat (first | apply Kd.R_alloc | apply Kd.R_drewN | apply Kd.R_drew)); exact HO130.out) (Kd.R_base ho0) hb); have n1_ := Aside0.mk (Kd.R_elder' (by (with_reducible repeat (first | apply Kd.R_alloc | apply Kd.R_drewN | apply Kd.R_drew)); exact HO133.out) (Kd.R_base ho0) hb); have n2_ := Aside0.mk (Kd.R_lower (Kd.R_new' (Kd.R_new' ho0 (Kd.R_lt (by (with_reducible repeat (first | apply Kd.R_alloc | apply Kd.R_drewN | apply Kd.R_drew)); exact HO130.out))) (Kd.R_lt (by (with_reducible repeat (first | apply Kd.R_alloc | apply Kd.R_drewN | apply Kd.R_drew)); exact HO133.out))) (below_size (by repeat (first | (with_reducible first | exact HB.out | apply below_alloc | apply pw_below_drewN | apply below_drew1) | exact HB.out)))); have n3_ := Aside0.mk (below_step (by repeat (first | (with_reducible first | exact HB.out | apply below_alloc | apply pw_below_drewN | apply below_drew1) | exact HB.out)) hb); clear HO130; clear HO133; clear HB; have HO130 := n0_; have HO133 := n1_; have HO136 := n2_; have HB := n3_; clear n0_ n1_ n2_ n3_; (try clear hb); (try clear hb2); (try clear hk); (try clear hi); (try clear ho0); obtain ⟨Ao41, co41, eo41⟩ := Kd.R_slice HO136.out; subst eo41) | ((with_reducible refine gate_builtin (b := .append) (xs := #[.tmp 64, .tmp 67]) rfl ?_); at_builtin; refine Kd.R_append_rows (Kd.int .u8) (w0 := w) w.heap.size rfl (.tmp 64) (.tmp 67) 22 5 (.int .u8 0) 1 rfl Tryd.underlying22 info5 rfl (by decide) (by omega) v132 y131 t134 _ _ _ (fun k_ => some k_ ≠ (.slice Ao38 t128.length co38 : Value).ownBlock ∧ some k_ ≠ (.slice Ao41 t134.length co41 : Value).ownBlock) (fun _ => False) rfl rfl ?aO ?aR (fun _ _ h => h) (fun _ h => h.elim) ?aF ?aB ?aS ?aL ?_; (case aR => repeat (first | exact (Kd.R_reads' HO136.out).2.2 | (with_reducible refine Kd.C_alloc ?_ _) | (with_reducible refine Kd.C_drewN ?_ _) | (with_reducible refine Kd.C_drew ?_))); (case aB => exact (by repeat (first | (with_reducible first | exact HB.out | apply below_alloc | apply pw_below_drewN | apply below_drew1) | exact HB.out))); (case aF => exact (fun k_ hk => ⟨Kd.fresh' (Kd.R_lt (by (with_reducible repeat (first | apply Kd.R_alloc | apply Kd.R_drewN | apply Kd.R_drew)); exact HO130.out)) k_ hk, Kd.fresh' (Kd.R_lt (by (with_reducible repeat (first | apply Kd.R_alloc | apply Kd.R_drewN | apply Kd.R_drew)); exact HO136.out)) k_ hk⟩)); (case aO => exact (by (with_reducible repeat (first | apply Kd.R_alloc | apply Kd.R_drewN | apply Kd.R_drew)); exact HO133.out)); (case aS => exact (below_size (by repeat (first | (with_reducible first | exact HB.out | apply below_alloc | apply pw_below_drewN | apply below_drew1) | exact HB.out)))); (case aL => have := LMc28.out; omega); intro v138 w40 ho hb hg hat; rw [← Ny137.out] at ho; have n0_ := Aside0.mk (Kd.R_after (ok := (fun k_ => some k_ ≠ (.slice Ao41 t134.length co41 : Value).ownBlock)) (by (with_reducible repeat (first | apply Kd.R_alloc | apply Kd.R_drewN | apply Kd.R_drew)); exact Kd.R_mono HO130.out (fun _ hk => ⟨hk.2, hk.1.2⟩)) hg hat); have n1_ := Aside0.mk (Kd.R_after (ok := (fun k_ => some k_ ≠ (.slice Ao38 t128.length co38 : Value).ownBlock)) (by (with_reducible repeat (first | apply Kd.R_alloc | apply Kd.R_drewN | apply Kd.R_drew)); exact Kd.R_mono HO136.out (fun _ hk => ⟨hk.1.2, hk.2⟩)) hg hat); have n2_ := Aside0.mk (hb); have n3_ := Aside0.mk (ho); clear HO130; clear HO136; clear HB; clear HO133; have HO130 := n0_; have HO136 := n1_; have HB := n2_; have HO139 := n3_; clear n0_ n1_ n2_ n3_; clear ho hb hg hat) | ((with_reducible refine gate_callee (f := 39) rfl ?_); refine goesL_ (some 72) rfl rfl Tryd.func39 (by kernel_rfl) rfl #[.int .i64 (wrap64 (Int.tdiv (Int.tmod (wrap64 ((Int.tmod a0 86400) + 86400)) 86400) 3600))] rfl (by (try simp only [List.map_toArray, List.map_cons, List.map_nil]); first | done | rfl | (simp only [List.length_drop, List.length_take]; rfl)) ?_; (with_reducible refine (warderref03_two.calls (wrap64 (Int.tdiv (Int.tmod (wrap64 ((Int.tmod a0 86400) + 86400)) 86400) 3600)) t140 _ A29.out).mono ?_); rintro e w42 ⟨v141, rfl, ho0, hb⟩; refine ⟨_, rfl, ?_⟩; have n0_ := Aside0.mk (Kd.R_elder' (by (with_reducible repeat (first | apply Kd.R_alloc | apply Kd.R_drewN | apply Kd.R_drew)); exact HO130.out) (Kd.R_base ho0) hb); have n1_ := Aside0.mk (Kd.R_elder' (by (with_reducible repeat (first | apply Kd.R_alloc | apply Kd.R_drewN | apply Kd.R_drew)); exact HO136.out) (Kd.R_base ho0) hb); have n2_ := Aside0.mk (Kd.R_elder' (by (with_reducible repeat (first | apply Kd.R_alloc | apply Kd.R_drewN | apply Kd.R_drew)); exact HO139.out) (Kd.R_base ho0) hb); have n3_ := Aside0.mk (Kd.R_lower (Kd.R_new' (Kd.R_new' (Kd.R_new' ho0 (Kd.R_lt (by (with_reducible repeat (first | apply Kd.R_alloc | apply Kd.R_drewN | apply Kd.R_drew)); exact HO130.out))) (Kd.R_lt (by (with_reducible repeat (first | apply Kd.R_alloc | apply Kd.R_drewN | apply Kd.R_drew)); exact HO136.out))) (Kd.R_lt (by (with_reducible repeat (first | apply Kd.R_alloc | apply Kd.R_drewN | apply Kd.R_drew)); exact HO139.out))) (below_size (by repeat (first | (with_reducible first | exact HB.out | apply below_alloc | apply pw_below_drewN | apply below_drew1) | exact HB.out)))); have n4_ := Aside0.mk (below_step (by repeat (first | (with_reducible first | exact HB.out | apply below_alloc | apply pw_below_drewN | apply below_drew1) | exact HB.out)) hb); clear HO130; clear HO136; clear HO139; clear HB; have HO130 := n0_; have HO136 := n1_; have HO139 := n2_; have HO142 := n3_; have HB := n4_; clear n0_ n1_ n2_ n3_ n4_; (try clear hb); (try clear hb2); (try clear hk); (try clear hi); (try clear ho0); obtain ⟨Ao44, co44, eo44⟩ := Kd.R_slice HO142.out; subst eo44) | ((with_reducible refine gate_builtin (b := .append) (xs := #[.tmp 69, .tmp 72]) rfl ?_); at_builtin; refine Kd.R_append_rows (Kd.int .u8) (w0 := w) w.heap.size rfl (.tmp 69) (.tmp 72) 22 5 (.int .u8 0) 1 rfl Tryd.underlying22 info5 rfl (by decide) (by omega) v138 y137 t140 _ _ _ (fun k_ => some k_ ≠ (.slice Ao38 t128.length co38 : Value).ownBlock ∧ some k_ ≠ (.slice Ao41 t134.length co41 : Value).ownBlock ∧ some k_ ≠ (.slice Ao44 t140.length co44 : Value).ownBlock) (fun _ => False) rfl rfl ?aO ?aR (fun _ _ h => h) (fun _ h => h.elim) ?aF ?aB ?aS ?aL ?_; (case aR => repeat (first | exact (Kd.R_reads' HO142.out).2.2 | (with_reducible refine Kd.C_alloc ?_ _) | (with_reducible refine Kd.C_drewN ?_ _) | (with_reducible refine Kd.C_drew ?_))); (case aB => exact (by repeat (first | (with_reducible first | exact HB.out | apply below_alloc | apply pw_below_drewN | apply below_drew1) | exact HB.out))); (case aF => exact (fun k_ hk => ⟨Kd.fresh' (Kd.R_lt (by (with_reducible repeat (first | apply Kd.R_alloc | apply Kd.R_drewN | apply Kd.R_drew)); exact HO130.out)) k_ hk, Kd.fresh' (Kd.R_lt (by (with_reducible repeat (first | apply Kd.R_alloc | apply Kd.R_drewN | apply Kd.R_drew)); exact HO136.out)) k_ hk, Kd.fresh' (Kd.R_lt (by (with_reducible repeat (first | apply Kd.R_alloc | apply Kd.R_drewN | apply Kd.R_drew)); exact HO142.out)) k_ hk⟩)); (case aO => exact (by (with_reducible repeat (first | apply Kd.R_alloc | apply Kd.R_drewN | apply Kd.R_drew)); exact Kd.R_mono HO139.out (fun _ hk => ⟨hk.1.1, ⟨hk.1.2, hk.2⟩⟩))); (case aS => exact (below_size (by repeat (first | (with_reducible first | exact HB.out | apply below_alloc | apply pw_below_drewN | apply below_drew1) | exact HB.out)))); (case aL => have := LMc30.out; omega); intro v144 w43 ho hb hg hat; rw [← Ny143.out] at ho; have n0_ := Aside0.mk (Kd.R_after (ok := (fun k_ => some k_ ≠ (.slice Ao41 t134.length co41 : Value).ownBlock ∧ some k_ ≠ (.slice Ao44 t140.length co44 : Value).ownBlock)) (by (with_reducible repeat (first | apply Kd.R_alloc | apply Kd.R_drewN | apply Kd.R_drew)); exact Kd.R_mono HO130.out (fun _ hk => ⟨⟨hk.1.1, hk.2⟩, hk.1.2⟩)) hg hat); have n1_ := Aside0.mk (Kd.R_after (ok := (fun k_ => some k_ ≠ (.slice Ao38 t128.length co38 : Value).ownBlock ∧ some k_ ≠ (.slice Ao44 t140.length co44 : Value).ownBlock)) (by (with_reducible repeat (first | apply Kd.R_alloc | apply Kd.R_drewN | apply Kd.R_drew)); exact Kd.R_mono HO136.out (fun _ hk => ⟨⟨hk.1.1, hk.2⟩, hk.1.2⟩)) hg hat); have n2_ := Aside0.mk (Kd.R_after (ok := (fun k_ => some k_ ≠ (.slice Ao38 t128.length co38 : Value).ownBlock ∧ some k_ ≠ (.slice Ao41 t134.length co41 : Value).ownBlock)) (by (with_reducible repeat (first | apply Kd.R_alloc | apply Kd.R_drewN | apply Kd.R_drew)); exact Kd.R_mono HO142.out (fun _ hk => ⟨⟨hk.1.1.2, hk.1.2⟩, hk.2⟩)) hg hat); have n3_ := Aside0.mk (hb); have n4_ := Aside0.mk (ho); clear HO130; clear HO136; clear HO142; clear HB; clear HO139; have HO130 := n0_; have HO136 := n1_; have HO142 := n2_; have HB := n3_; have HO145 := n4_; clear n0_ n1_ n2_ n3_ n4_; clear ho hb hg hat) | ((with_reducible refine gate_callee (f := 39) rfl ?_); refine goesL_ (some 78) rfl rfl Tryd.func39 (by kernel_rfl) rfl #[.int .i64 (Int.tmod (wrap64 (Int.tdiv (Int.tmod (wrap64 ((Int.tmod a0 86400) + 86400)) 86400) 60)) 60)] rfl (by (try simp only [List.map_toArray, List.map_cons, List.map_nil]); first | done | rfl | (simp only [List.length_drop, List.length_take]; rfl)) ?_; (with_reducible refine (warderref03_two.calls (Int.tmod (wrap64 (Int.tdiv (Int.tmod (wrap64 ((Int.tmod a0 86400) + 86400)) 86400) 60)) 60) t146 _ A31.out).mono ?_); rintro e w45 ⟨v147, rfl, ho0, hb⟩; refine ⟨_, rfl, ?_⟩; have n0_ := Aside0.mk (Kd.R_elder' (by (with_reducible repeat (first | apply Kd.R_alloc | apply Kd.R_drewN | apply Kd.R_drew)); exact HO130.out) (Kd.R_base ho0) hb); have n1_ := Aside0.mk (Kd.R_elder' (by (with_reducible repeat (first | apply Kd.R_alloc | apply Kd.R_drewN | apply Kd.R_drew)); exact HO136.out) (Kd.R_base ho0) hb); have n2_ := Aside0.mk (Kd.R_elder' (by (with_reducible repeat (first | apply Kd.R_alloc | apply Kd.R_drewN | apply Kd.R_drew)); exact HO142.out) (Kd.R_base ho0) hb); have n3_ := Aside0.mk (Kd.R_elder' (by (with_reducible repeat (first | apply Kd.R_alloc | apply Kd.R_drewN | apply Kd.R_drew)); exact HO145.out) (Kd.R_base ho0) hb); have n4_ := Aside0.mk (Kd.R_lower (Kd.R_new' (Kd.R_new' (Kd.R_new' (Kd.R_new' ho0 (Kd.R_lt (by (with_reducible repeat (first | apply Kd.R_alloc | apply Kd.R_drewN | apply Kd.R_drew)); exact HO130.out))) (Kd.R_lt (by (with_reducible repeat (first | apply Kd.R_alloc | apply Kd.R_drewN | apply Kd.R_drew)); exact HO136.out))) (Kd.R_lt (by (with_reducible repeat (first | apply Kd.R_alloc | apply Kd.R_drewN | apply Kd.R_drew)); exact HO142.out))) (Kd.R_lt (by (with_reducible repeat (first | apply Kd.R_alloc | apply Kd.R_drewN | apply Kd.R_drew)); exact HO145.out))) (below_size (by repeat (first | (with_reducible first | exact HB.out | apply below_alloc | apply pw_below_drewN | apply below_drew1) | exact HB.out)))); have n5_ := Aside0.mk (below_step (by repeat (first | (with_reducible first | exact HB.out | apply below_alloc | apply pw_below_drewN | apply below_drew1) | exact HB.out)) hb); clear HO130; clear HO136; clear HO142; clear HO145; clear HB; have HO130 := n0_; have HO136 := n1_; have HO142 := n2_; have HO145 := n3_; have HO148 := n4_; have HB := n5_; clear n0_ n1_ n2_ n3_ n4_ n5_; (try clear hb); (try clear hb2); (try clear hk); (try clear hi); (try clear ho0); obtain ⟨Ao47, co47, eo47⟩ := Kd.R_slice HO148.out; subst eo47) | ((with_reducible refine gate_builtin (b := .append) (xs := #[.tmp 74, .tmp 78]) rfl ?_); at_builtin; refine Kd.R_append_rows (Kd.int .u8) (w0 := w) w.heap.size rfl (.tmp 74) (.tmp 78) 22 5 (.int .u8 0) 1 rfl Tryd.underlying22 info5 rfl (by decide) (by omega) v144 y143 t146 _ _ _ (fun k_ => some k_ ≠ (.slice Ao38 t128.length co38 : Value).ownBlock ∧ some k_ ≠ (.slice Ao41 t134.length co41 : Value).ownBlock ∧ some k_ ≠ (.slice Ao44 t140.length co44 : Value).ownBlock ∧ some k_ ≠ (.slice Ao47 t146.length co47 : Value).ownBlock) (fun _ => False) rfl rfl ?aO ?aR (fun _ _ h => h) (fun _ h => h.elim) ?aF ?aB ?aS ?aL ?_; (case aR => repeat (first | exact (Kd.R_reads' HO148.out).2.2 | (with_reducible refine Kd.C_alloc ?_ _) | (with_reducible refine Kd.C_drewN ?_ _) | (with_reducible refine Kd.C_drew ?_))); (case aB => exact (by repeat (first | (with_reducible first | exact HB.out | apply below_alloc | apply pw_below_drewN | apply below_drew1) | exact HB.out))); (case aF => exact (fun k_ hk => ⟨Kd.fresh' (Kd.R_lt (by (with_reducible repeat (first | apply Kd.R_alloc | apply Kd.R_drewN | apply Kd.R_drew)); exact HO130.out)) k_ hk, Kd.fresh' (Kd.R_lt (by (with_reducible repeat (first | apply Kd.R_alloc | apply Kd.R_drewN | apply Kd.R_drew)); exact HO136.out)) k_ hk, Kd.fresh' (Kd.R_lt (by (with_reducible repeat (first | apply Kd.R_alloc | apply Kd.R_drewN | apply Kd.R_drew)); exact HO142.out)) k_ hk, Kd.fresh' (Kd.R_lt (by (with_reducible repeat (first | apply Kd.R_alloc | apply Kd.R_drewN | apply Kd.R_drew)); exact HO148.out)) k_ hk⟩)); (case aO => exact (by (with_reducible repeat (first | apply Kd.R_alloc | apply Kd.R_drewN | apply Kd.R_drew)); exact Kd.R_mono HO145.out (fun _ hk => ⟨hk.1.1, ⟨hk.1.2.1, ⟨hk.1.2.2, hk.2⟩⟩⟩))); (case aS => exact (below_size (by repeat (first | (with_reducible first | exact HB.out | apply below_alloc | apply pw_below_drewN | apply below_drew1) | exact HB.out)))); (case aL => have := LMc32.out; omega); intro v150 w46 ho hb hg hat; rw [← Ny149.out] at ho; have n0_ := Aside0.mk (Kd.R_after (ok := (fun k_ => some k_ ≠ (.slice Ao41 t134.length co41 : Value).ownBlock ∧ some k_ ≠ (.slice Ao44 t140.length co44 : Value).ownBlock ∧ some k_ ≠ (.slice Ao47 t146.length co47 : Value).ownBlock)) (by (with_reducible repeat (first | apply Kd.R_alloc | apply Kd.R_drewN | apply Kd.R_drew)); exact Kd.R_mono HO130.out (fun _ hk => ⟨⟨hk.1.1.1, ⟨hk.1.1.2, hk.2⟩⟩, hk.1.2⟩)) hg hat); have n1_ := Aside0.mk (Kd.R_after (ok := (fun k_ => some k_ ≠ (.slice Ao38 t128.length co38 : Value).ownBlock ∧ some k_ ≠ (.slice Ao44 t140.length co44 : Value).ownBlock ∧ some k_ ≠ (.slice Ao47 t146.length co47 : Value).ownBlock)) (by (with_reducible repeat (first | apply Kd.R_alloc | apply Kd.R_drewN | apply Kd.R_drew)); exact Kd.R_mono HO136.out (fun _ hk => ⟨⟨hk.1.1.1, ⟨hk.1.1.2, hk.2⟩⟩, hk.1.2⟩)) hg hat); have n2_ := Aside0.mk (Kd.R_after (ok := (fun k_ => some k_ ≠ (.slice Ao38 t128.length co38 : Value).ownBlock ∧ some k_ ≠ (.slice Ao41 t134.length co41 : Value).ownBlock ∧ some k_ ≠ (.slice Ao47 t146.length co47 : Value).ownBlock)) (by (with_reducible repeat (first | apply Kd.R_alloc | apply Kd.R_drewN | apply Kd.R_drew)); exact Kd.R_mono HO142.out (fun _ hk => ⟨⟨hk.1.1.1, ⟨hk.1.1.2, hk.2⟩⟩, hk.1.2⟩)) hg hat); have n3_ := Aside0.mk (Kd.R_after (ok := (fun k_ => some k_ ≠ (.slice Ao38 t128.length co38 : Value).ownBlock ∧ some k_ ≠ (.slice Ao41 t134.length co41 : Value).ownBlock ∧ some k_ ≠ (.slice Ao44 t140.length co44 : Value).ownBlock)) (by (with_reducible repeat (first | apply Kd.R_alloc | apply Kd.R_drewN | apply Kd.R_drew)); exact Kd.R_mono HO148.out (fun _ hk => ⟨⟨hk.1.1.1.2, ⟨hk.1.1.2, hk.1.2⟩⟩, hk.2⟩)) hg hat); have n4_ := Aside0.mk (hb); have n5_ := Aside0.mk (ho); clear HO130; clear HO136; clear HO142; clear HO148; clear HB; clear HO145; have HO130 := n0_; have HO136 := n1_; have HO142 := n2_; have HO148 := n3_; have HB := n4_; have HO151 := n5_; clear n0_ n1_ n2_ n3_ n4_ n5_; clear ho hb hg hat) | ((with_reducible refine gate_callee (f := 39) rfl ?_); refine goesL_ (some 83) rfl rfl Tryd.func39 (by kernel_rfl) rfl #[.int .i64 (Int.tmod (wrap64 ((Int.tmod a0 86400) + 86400)) 60)] rfl (by (try simp only [List.map_toArray, List.map_cons, List.map_nil]); first | done | rfl | (simp only [List.length_drop, List.length_take]; rfl)) ?_; (with_reducible refine (warderref03_two.calls (Int.tmod (wrap64 ((Int.tmod a0 86400) + 86400)) 60) t152 _ ((congrArg warderref03_two.f (Int.tmod_tmod_of_dvd _ (by decide))).symm.trans A33.out)).mono ?_); rintro e w48 ⟨v153, rfl, ho0, hb⟩; refine ⟨_, rfl, ?_⟩; have n0_ := Aside0.mk (Kd.R_elder' (by (with_reducible repeat (first | apply Kd.R_alloc | apply Kd.R_drewN | apply Kd.R_drew)); exact HO130.out) (Kd.R_base ho0) hb); have n1_ := Aside0.mk (Kd.R_elder' (by (with_reducible repeat (first | apply Kd.R_alloc | apply Kd.R_drewN | apply Kd.R_drew)); exact HO136.out) (Kd.R_base ho0) hb); have n2_ := Aside0.mk (Kd.R_elder' (by (with_reducible repeat (first | apply Kd.R_alloc | apply Kd.R_drewN | apply Kd.R_drew)); exact HO142.out) (Kd.R_base ho0) hb); have n3_ := Aside0.mk (Kd.R_elder' (by (with_reducible repeat (first | apply Kd.R_alloc | apply Kd.R_drewN | apply Kd.R_drew)); exact HO148.out) (Kd.R_base ho0) hb); have n4_ := Aside0.mk (Kd.R_elder' (by (with_reducible repeat (first | apply Kd.R_alloc | apply Kd.R_drewN | apply Kd.R_drew)); exact HO151.out) (Kd.R_base ho0) hb); have n5_ := Aside0.mk (Kd.R_lower (Kd.R_new' (Kd.R_new' (Kd.R_new' (Kd.R_new' (Kd.R_new' ho0 (Kd.R_lt (by (with_reducible repeat (first | apply Kd.R_alloc | apply Kd.R_drewN | apply Kd.R_drew)); exact HO130.out))) (Kd.R_lt (by (with_reducible repeat (first | apply Kd.R_alloc | apply Kd.R_drewN | apply Kd.R_drew)); exact HO136.out))) (Kd.R_lt (by (with_reducible repeat (first | apply Kd.R_alloc | apply Kd.R_drewN | apply Kd.R_drew)); exact HO142.out))) (Kd.R_lt (by (with_reducible repeat (first | apply Kd.R_alloc | apply Kd.R_drewN | apply Kd.R_drew)); exact HO148.out))) (Kd.R_lt (by (with_reducible repeat (first | apply Kd.R_alloc | apply Kd.R_drewN | apply Kd.R_drew)); exact HO151.out))) (below_size (by repeat (first | (with_reducible first | exact HB.out | apply below_alloc | apply pw_below_drewN | apply below_drew1) | exact HB.out)))); have n6_ := Aside0.mk (below_step (by repeat (first | (with_reducible first | exact HB.out | apply below_alloc | apply pw_below_drewN | apply below_drew1) | exact HB.out)) hb); clear HO130; clear HO136; clear HO142; clear HO148; clear HO151; clear HB; have HO130 := n0_; have HO136 := n1_; have HO142 := n2_; have HO148 := n3_; have HO151 := n4_; have HO154 := n5_; have HB := n6_; clear n0_ n1_ n2_ n3_ n4_ n5_ n6_; (try clear hb); (try clear hb2); (try clear hk); (try clear hi); (try clear ho0); obtain ⟨Ao50, co50, eo50⟩ := Kd.R_slice HO154.out; subst eo50) | ((with_reducible refine gate_builtin (b := .append) (xs := #[.tmp 80, .tmp 83]) rfl ?_); at_builtin; refine Kd.R_append_rows (Kd.int .u8) (w0 := w) w.heap.size rfl (.tmp 80) (.tmp 83) 22 5 (.int .u8 0) 1 rfl Tryd.underlying22 info5 rfl (by decide) (by omega) v150 y149 t152 _ _ _ (fun k_ => some k_ ≠ (.slice Ao38 t128.length co38 : Value).ownBlock ∧ some k_ ≠ (.slice Ao41 t134.length co41 : Value).ownBlock ∧ some k_ ≠ (.slice Ao44 t140.length co44 : Value).ownBlock ∧ some k_ ≠ (.slice Ao47 t146.length co47 : Value).ownBlock ∧ some k_ ≠ (.slice Ao50 t152.length co50 : Value).ownBlock) (fun _ => False) rfl rfl ?aO ?aR (fun _ _ h => h) (fun _ h => h.elim) ?aF ?aB ?aS ?aL ?_; (case aR => repeat (first | exact (Kd.R_reads' HO154.out).2.2 | (with_reducible refine Kd.C_alloc ?_ _) | (with_reducible refine Kd.C_drewN ?_ _) | (with_reducible refine Kd.C_drew ?_))); (case aB => exact (by repeat (first | (with_reducible first | exact HB.out | apply below_alloc | apply pw_below_drewN | apply below_drew1) | exact HB.out))); (case aF => exact (fun k_ hk => ⟨Kd.fresh' (Kd.R_lt (by (with_reducible repeat (first | apply Kd.R_alloc | apply Kd.R_drewN | apply Kd.R_drew)); exact HO130.out)) k_ hk, Kd.fresh' (Kd.R_lt (by (with_reducible repeat (first | apply Kd.R_alloc | apply Kd.R_drewN | apply Kd.R_drew)); exact HO136.out)) k_ hk, Kd.fresh' (Kd.R_lt (by (with_reducible repeat (first | apply Kd.R_alloc | apply Kd.R_drewN | apply Kd.R_drew)); exact HO142.out)) k_ hk, Kd.fresh' (Kd.R_lt (by (with_reducible repeat (first | apply Kd.R_alloc | apply Kd.R_drewN | apply Kd.R_drew)); exact HO148.out)) k_ hk, Kd.fresh' (Kd.R_lt (by (with_reducible repeat (first | apply Kd.R_alloc | apply Kd.R_drewN | apply Kd.R_drew)); exact HO154.out)) k_ hk⟩)); (case aO => exact (by (with_reducible repeat (first | apply Kd.R_alloc | apply Kd.R_drewN | apply Kd.R_drew)); exact Kd.R_mono HO151.out (fun _ hk => ⟨hk.1.1, ⟨hk.1.2.1, ⟨hk.1.2.2.1, ⟨hk.1.2.2.2, hk.2⟩⟩⟩⟩))); (case aS => exact (below_size (by repeat (first | (with_reducible first | exact HB.out | apply below_alloc | apply pw_below_drewN | apply below_drew1) | exact HB.out)))); (case aL => have := LMc34.out; omega); intro v156 w49 ho hb hg hat; rw [← Ny155.out] at ho; have n0_ := Aside0.mk (Kd.R_after (ok := (fun k_ => some k_ ≠ (.slice Ao41 t134.length co41 : Value).ownBlock ∧ some k_ ≠ (.slice Ao44 t140.length co44 : Value).ownBlock ∧ some k_ ≠ (.slice Ao47 t146.length co47 : Value).ownBlock ∧ some k_ ≠ (.slice Ao50 t152.length co50 : Value).ownBlock)) (by (with_reducible repeat (first | apply Kd.R_alloc | apply Kd.R_drewN | apply Kd.R_drew)); exact Kd.R_mono HO130.out (fun _ hk => ⟨⟨hk.1.1.1, ⟨hk.1.1.2.1, ⟨hk.1.1.2.2, hk.2⟩⟩⟩, hk.1.2⟩)) hg hat); have n1_ := Aside0.mk (Kd.R_after (ok := (fun k_ => some k_ ≠ (.slice Ao38 t128.length co38 : Value).ownBlock ∧ some k_ ≠ (.slice Ao44 t140.length co44 : Value).ownBlock ∧ some k_ ≠ (.slice Ao47 t146.length co47 : Value).ownBlock ∧ some k_ ≠ (.slice Ao50 t152.length co50 : Value).ownBlock)) (by (with_reducible repeat (first | apply Kd.R_alloc | apply Kd.R_drewN | apply Kd.R_drew)); exact Kd.R_mono HO136.out (fun _ hk => ⟨⟨hk.1.1.1, ⟨hk.1.1.2.1, ⟨hk.1.1.2.2, hk.2⟩⟩⟩, hk.1.2⟩)) hg hat); have n2_ := Aside0.mk (Kd.R_after (ok := (fun k_ => some k_ ≠ (.slice Ao38 t128.length co38 : Value).ownBlock ∧ some k_ ≠ (.slice Ao41 t134.length co41 : Value).ownBlock ∧ some k_ ≠ (.slice Ao47 t146.length co47 : Value).ownBlock ∧ some k_ ≠ (.slice Ao50 t152.length co50 : Value).ownBlock)) (by (with_reducible repeat (first | apply Kd.R_alloc | apply Kd.R_drewN | apply Kd.R_drew)); exact Kd.R_mono HO142.out (fun _ hk => ⟨⟨hk.1.1.1, ⟨hk.1.1.2.1, ⟨hk.1.1.2.2, hk.2⟩⟩⟩, hk.1.2⟩)) hg hat); have n3_ := Aside0.mk (Kd.R_after (ok := (fun k_ => some k_ ≠ (.slice Ao38 t128.length co38 : Value).ownBlock ∧ some k_ ≠ (.slice Ao41 t134.length co41 : Value).ownBlock ∧ some k_ ≠ (.slice Ao44 t140.length co44 : Value).ownBlock ∧ some k_ ≠ (.slice Ao50 t152.length co50 : Value).ownBlock)) (by (with_reducible repeat (first | apply Kd.R_alloc | apply Kd.R_drewN | apply Kd.R_drew)); exact Kd.R_mono HO148.out (fun _ hk => ⟨⟨hk.1.1.1, ⟨hk.1.1.2.1, ⟨hk.1.1.2.2, hk.2⟩⟩⟩, hk.1.2⟩)) hg hat); have n4_ := Aside0.mk (Kd.R_after (ok := (fun k_ => some k_ ≠ (.slice Ao38 t128.length co38 : Value).ownBlock ∧ some k_ ≠ (.slice Ao41 t134.length co41 : Value).ownBlock ∧ some k_ ≠ (.slice Ao44 t140.length co44 : Value).ownBlock ∧ some k_ ≠ (.slice Ao47 t146.length co47 : Value).ownBlock)) (by (with_reducible repeat (first | apply Kd.R_alloc | apply Kd.R_drewN | apply Kd.R_drew)); exact Kd.R_mono HO154.out (fun _ hk => ⟨⟨hk.1.1.1.1.2, ⟨hk.1.1.1.2, ⟨hk.1.1.2, hk.1.2⟩⟩⟩, hk.2⟩)) hg hat); have n5_ := Aside0.mk (hb); have n6_ := Aside0.mk (ho); clear HO130; clear HO136; clear HO142; clear HO148; clear HO154; clear HB; clear HO151; have HO130 := n0_; have HO136 := n1_; have HO142 := n2_; have HO148 := n3_; have HO154 := n4_; have HB := n5_; have HO157 := n6_; clear n0_ n1_ n2_ n3_ n4_ n5_ n6_; clear ho hb hg hat) | ((with_reducible refine gate_builtin (b := .append) (xs := #[.tmp 86, .tmp 87]) rfl ?_); at_builtin; refine Kd.R_append (Kd.int .u8) (w0 := w) w.heap.size rfl (.tmp 86) (.tmp 87) 22 5 (.int .u8 0) 1 rfl Tryd.underlying22 info5 rfl (by decide) (by omega) v156 y155 90 [.int .u8 90] (fun k_ => some k_ ≠ (.slice Ao38 t128.length co38 : Value).ownBlock ∧ some k_ ≠ (.slice Ao41 t134.length co41 : Value).ownBlock ∧ some k_ ≠ (.slice Ao44 t140.length co44 : Value).ownBlock ∧ some k_ ≠ (.slice Ao47 t146.length co47 : Value).ownBlock ∧ some k_ ≠ (.slice Ao50 t152.length co50 : Value).ownBlock) (fun _ => False) rfl rfl ?aP (fun _ hk => hk.elim) ?aF ?aO ?aB ?aS ?aL ?_; (case aP => exact rfl); (case aB => exact (by repeat (first | (with_reducible first | exact HB.out | apply below_alloc | apply pw_below_drewN | apply below_drew1) | exact HB.out))); (case aF => exact (fun k_ hk => ⟨Kd.fresh' (Kd.R_lt (by (with_reducible repeat (first | apply Kd.R_alloc | apply Kd.R_drewN | apply Kd.R_drew)); exact HO130.out)) k_ hk, Kd.fresh' (Kd.R_lt (by (with_reducible repeat (first | apply Kd.R_alloc | apply Kd.R_drewN | apply Kd.R_drew)); exact HO136.out)) k_ hk, Kd.fresh' (Kd.R_lt (by (with_reducible repeat (first | apply Kd.R_alloc | apply Kd.R_drewN | apply Kd.R_drew)); exact HO142.out)) k_ hk, Kd.fresh' (Kd.R_lt (by (with_reducible repeat (first | apply Kd.R_alloc | apply Kd.R_drewN | apply Kd.R_drew)); exact HO148.out)) k_ hk, Kd.fresh' (Kd.R_lt (by (with_reducible repeat (first | apply Kd.R_alloc | apply Kd.R_drewN | apply Kd.R_drew)); exact HO154.out)) k_ hk⟩)); (case aO => exact (by (with_reducible repeat (first | apply Kd.R_alloc | apply Kd.R_drewN | apply Kd.R_drew)); exact HO157.out)); (case aS => exact (below_size (by repeat (first | (with_reducible first | exact HB.out | apply below_alloc | apply pw_below_drewN | apply below_drew1) | exact HB.out)))); (case aL => have := LMc35.out; omega); intro v159 w51 ho hb hg hat; rw [← Ny158.out] at ho; have n0_ := Aside0.mk (Kd.R_after (ok := (fun k_ => some k_ ≠ (.slice Ao41 t134.length co41 : Value).ownBlock ∧ some k_ ≠ (.slice Ao44 t140.length co44 : Value).ownBlock ∧ some k_ ≠ (.slice Ao47 t146.length co47 : Value).ownBlock ∧ some k_ ≠ (.slice Ao50 t152.length co50 : Value).ownBlock)) (by (with_reducible repeat (first | apply Kd.R_alloc | apply Kd.R_drewN | apply Kd.R_drew)); exact HO130.out) hg hat); have n1_ := Aside0.mk (Kd.R_after (ok := (fun k_ => some k_ ≠ (.slice Ao38 t128.length co38 : Value).ownBlock ∧ some k_ ≠ (.slice Ao44 t140.length co44 : Value).ownBlock ∧ some k_ ≠ (.slice Ao47 t146.length co47 : Value).ownBlock ∧ some k_ ≠ (.slice Ao50 t152.length co50 : Value).ownBlock)) (by (with_reducible repeat (first | apply Kd.R_alloc | apply Kd.R_drewN | apply Kd.R_drew)); exact HO136.out) hg hat); have n2_ := Aside0.mk (Kd.R_after (ok := (fun k_ => some k_ ≠ (.slice Ao38 t128.length co38 : Value).ownBlock ∧ some k_ ≠ (.slice Ao41 t134.length co41 : Value).ownBlock ∧ some k_ ≠ (.slice Ao47 t146.length co47 : Value).ownBlock ∧ some k_ ≠ (.slice Ao50 t152.length co50 : Value).ownBlock)) (by (with_reducible repeat (first | apply Kd.R_alloc | apply Kd.R_drewN | apply Kd.R_drew)); exact HO142.out) hg hat); have n3_ := Aside0.mk (Kd.R_after (ok := (fun k_ => some k_ ≠ (.slice Ao38 t128.length co38 : Value).ownBlock ∧ some k_ ≠ (.slice Ao41 t134.length co41 : Value).ownBlock ∧ some k_ ≠ (.slice Ao44 t140.length co44 : Value).ownBlock ∧ some k_ ≠ (.slice Ao50 t152.length co50 : Value).ownBlock)) (by (with_reducible repeat (first | apply Kd.R_alloc | apply Kd.R_drewN | apply Kd.R_drew)); exact HO148.out) hg hat); have n4_ := Aside0.mk (Kd.R_after (ok := (fun k_ => some k_ ≠ (.slice Ao38 t128.length co38 : Value).ownBlock ∧ some k_ ≠ (.slice Ao41 t134.length co41 : Value).ownBlock ∧ some k_ ≠ (.slice Ao44 t140.length co44 : Value).ownBlock ∧ some k_ ≠ (.slice Ao47 t146.length co47 : Value).ownBlock)) (by (with_reducible repeat (first | apply Kd.R_alloc | apply Kd.R_drewN | apply Kd.R_drew)); exact HO154.out) hg hat); have n5_ := Aside0.mk (hb); have n6_ := Aside0.mk (ho); clear HO130; clear HO136; clear HO142; clear HO148; clear HO154; clear HB; clear HO157; have HO130 := n0_; have HO136 := n1_; have HO142 := n2_; have HO148 := n3_; have HO154 := n4_; have HB := n5_; have HO160 := n6_; clear n0_ n1_ n2_ n3_ n4_ n5_ n6_; clear ho hb hg hat))
                                      go_ret3
                                      exact ⟨_, by first | rfl | (simp [errW_none, errW_some] <;> rfl) | (simp [*, errW_none, errW_some] <;> rfl), by (with_reducible repeat (first | apply Kd.R_alloc | apply Kd.R_drewN | apply Kd.R_drew)); exact Kd.R_mono HO160.out (fun _ hk => trivial), by repeat (first | (with_reducible first | exact HB.out | apply below_alloc | apply pw_below_drewN | apply below_drew1) | exact HB.out)⟩
                                    · rw [if_neg c35] at H
                                      exact absurd H (by simp)
                                  · rw [if_neg c34] at H
                                    exact absurd H (by simp)
                                · rw [if_neg c32] at H
                                  exact absurd H (by simp)
                              · rw [if_neg c30] at H
                                exact absurd H (by simp)
                            · rw [if_neg c28] at H
                              exact absurd H (by simp)
                          · rw [if_neg c26] at H
                            exact absurd H (by simp)
                    · rw [if_neg c15] at H
                      exact absurd H (by simp)

/-! ### texts_Time: function 19 (by hand) -/
def texts_Time.f (a0 : Int) (l1 : List Int) : Option (Int × Int) := Tm.time texts_PutTime.f a0 l1
theorem texts_Time.calls (a0 : Int) (A1 : Option Addr) (c1 : Nat) (l1 : List Int) (r1 : Int) (r2 : Int) (w : World) (hr1 : Kd.C (Kd.int .u8) w A1 l1.length l1) (hc1 : l1.length ≤ c1) (h : texts_Time.f a0 l1 = some (r1, r2)) :
    Calls Tryd.prog 19 #[.int .u8 a0, .slice A1 l1.length c1] w fun e w' => e = .returned (.tuple #[.int .i64 r1, .int .i64 r2]) ∧ Below w.heap.size w w' := by
  unfold texts_Time.f Tm.time at h
  have hpf : ∀ (a r1 : Int) (r2 : List Int) (r3 : Int) (W : World), texts_PutTime.f a = some (r1, r2, r3) → Calls Tryd.prog 17 #[.int .i64 a] W fun e w' => ∃ v1_ : Value, e = .returned (.tuple #[.int .u8 r1, v1_, .int .i64 r3]) ∧ Kd.V (Kd.int .u8) 5 w' W.heap.size (fun k_ => W.heap.size ≤ k_) v1_ r2 ∧ Below W.heap.size W w' := fun a r1 r2 r3 W h => texts_PutTime.calls a r1 r2 r3 W h
  by_cases h1 : a0 = 23 ∧ l1.length = 13
  · rw [if_pos h1] at h
    obtain ⟨rfl, hl⟩ := h1
    rw [hl] at hc1
    by_cases h2 : rd l1 0 < 53
    · rw [if_pos h2] at h
      have hw := Tm.walk23a texts_PutTime.f hpf A1 c1 l1 hc1 hl h2 (r1, r2) w hr1 h
      rw [hl]
      exact hw
    · rw [if_neg h2] at h
      have hw := Tm.walk23b texts_PutTime.f hpf A1 c1 l1 hc1 hl h2 (r1, r2) w hr1 h
      rw [hl]
      exact hw
  · rw [if_neg h1] at h
    by_cases h2 : a0 = 24 ∧ l1.length = 15
    · rw [if_pos h2] at h
      obtain ⟨rfl, hl⟩ := h2
      rw [hl] at hc1
      have hw := Tm.walk24 texts_PutTime.f hpf A1 c1 l1 hc1 hl (r1, r2) w hr1 h
      rw [hl]
      exact hw
    · rw [if_neg h2] at h
      cases h
      exact Tm.walkBad a0 A1 c1 l1 w hr1 h1 h2

/-! ### warderref03_number: function 42 -/
def warderref03_number.f (l0 : List Int) (a1 : Int) : Option (Int) := if 0 ≤ a1 then (if a1 < (l0.length : Int) then (if (rd l0 a1) < 48 then (some (-1)) else (if (rd l0 a1) > 57 then (some (-1)) else (if 0 ≤ (wrap64 (a1 + 1)) then (if (wrap64 (a1 + 1)) < (l0.length : Int) then (if (rd l0 (wrap64 (a1 + 1))) < 48 then (some (-1)) else (if (rd l0 (wrap64 (a1 + 1))) > 57 then (some (-1)) else (some ((10 * (((rd l0 a1) - 48) % 256)) + (((rd l0 (wrap64 (a1 + 1))) - 48) % 256))))) else (none)) else (none)))) else (none)) else (none)
set_option maxHeartbeats 8000000 in
set_option maxRecDepth 100000 in
theorem warderref03_number.calls (A0 : Option Addr) (c0 : Nat) (l0 : List Int) (a1 : Int) (r : Int) (w : World) (hr0 : Kd.C (Kd.int .u8) w A0 l0.length l0) (hc0 : l0.length ≤ c0) (h : warderref03_number.f l0 a1 = some r) :
    Calls Tryd.prog 42 #[.slice A0 l0.length c0, .int .i64 a1] w fun e w' => e = .returned (.int .i64 r) ∧ Drawn0 w w' := by
  have HR0 := Aside0.mk hr0
  have HC0 := Aside0.mk hc0
  clear hr0 hc0
  have H : (if 0 ≤ a1 then (if a1 < (l0.length : Int) then (if (rd l0 a1) < 48 then (some (-1)) else (if (rd l0 a1) > 57 then (some (-1)) else (if 0 ≤ (wrap64 (a1 + 1)) then (if (wrap64 (a1 + 1)) < (l0.length : Int) then (if (rd l0 (wrap64 (a1 + 1))) < 48 then (some (-1)) else (if (rd l0 (wrap64 (a1 + 1))) > 57 then (some (-1)) else (some ((10 * (((rd l0 a1) - 48) % 256)) + (((rd l0 (wrap64 (a1 + 1))) - 48) % 256))))) else (none)) else (none)))) else (none)) else (none)) = some r := h
  clear h
  by_cases c3 : 0 ≤ a1
  · rw [if_pos c3] at H
    have c3b0 : decide (0 ≤ a1) = true := decide_eq_true c3
    clear c3
    by_cases c4 : a1 < (l0.length : Int)
    · rw [if_pos c4] at H
      have c4b0 : decide (a1 < (l0.length : Int)) = true := decide_eq_true c4
      clear c4
      by_cases c5 : (rd l0 a1) < 48
      · rw [if_pos c5] at H
        have c5b0 : decide ((rd l0 a1) < 48) = true := decide_eq_true c5
        clear c5
        obtain rfl := Option.some.inj H
        have p161 : 0 ≤ (a1 : Int) := of_decide_eq_true (by first | (with_reducible assumption) | assumption)
        have q161 : a1 < (l0.length : Int) := of_decide_eq_true (by first | (with_reducible assumption) | assumption)
        obtain ⟨ad161, e161, hx161_0⟩ := Kd.at_int HR0.out a1 p161 q161
        cases e161
        replace p161 := eq_true p161
        replace q161 := eq_true q161
        go_enter Tryd.func42, Tryd.ntmps42
        go_wp2
        repeat (go_quiet (fail); try go_wp2)
        go_ret
        exact ⟨by first | rfl | (simp; done) | (simp [*]; done), by repeat (first | exact Drawn0.refl _ | apply Drawn0.step)⟩
      · rw [if_neg c5] at H
        have c5b0 : decide ((rd l0 a1) < 48) = false := decide_eq_false c5
        clear c5
        by_cases c6 : (rd l0 a1) > 57
        · rw [if_pos c6] at H
          have c6b0 : decide (57 < (rd l0 a1)) = true := decide_eq_true c6
          clear c6
          obtain rfl := Option.some.inj H
          have p161 : 0 ≤ (a1 : Int) := of_decide_eq_true (by first | (with_reducible assumption) | assumption)
          have q161 : a1 < (l0.length : Int) := of_decide_eq_true (by first | (with_reducible assumption) | assumption)
          obtain ⟨ad161, e161, hx161_0⟩ := Kd.at_int HR0.out a1 p161 q161
          cases e161
          replace p161 := eq_true p161
          replace q161 := eq_true q161
          have p162 : 0 ≤ (a1 : Int) := of_decide_eq_true (by first | (with_reducible assumption) | assumption)
          have q162 : a1 < (l0.length : Int) := of_decide_eq_true (by first | (with_reducible assumption) | assumption)
          obtain ⟨ad162, e162, hx162_0⟩ := Kd.at_int HR0.out a1 p162 q162
          obtain rfl : ad161 = ad162 := (by injection e162)
          replace p162 := eq_true p162
          replace q162 := eq_true q162
          go_enter Tryd.func42, Tryd.ntmps42
          go_wp2
          repeat (go_quiet (fail); try go_wp2)
          go_ret
          exact ⟨by first | rfl | (simp; done) | (simp [*]; done), by repeat (first | exact Drawn0.refl _ | apply Drawn0.step)⟩
        · rw [if_neg c6] at H
          have c6b0 : decide (57 < (rd l0 a1)) = false := decide_eq_false c6
          clear c6
          obtain ⟨ji7, hji7⟩ : ∃ j_ : Int, (wrap64 (a1 + 1)) = j_ := ⟨_, rfl⟩
          replace H : (if 0 ≤ (ji7) then (if (ji7) < (l0.length : Int) then (if (rd l0 (ji7)) < 48 then (some (-1)) else (if (rd l0 (ji7)) > 57 then (some (-1)) else (some ((10 * (((rd l0 a1) - 48) % 256)) + (((rd l0 (ji7)) - 48) % 256))))) else (none)) else (none)) = some r := by first | (rw [hji7] at H; exact H) | (simp only [hji7] at H ⊢; exact H)
          have hji7w : (IntKind.i64.wrap (a1 + 1)) = ji7 := (i64_w _).trans hji7
          by_cases c8 : 0 ≤ (ji7)
          · rw [if_pos c8] at H
            have c8b0 : decide (0 ≤ (ji7)) = true := decide_eq_true c8
            clear c8
            by_cases c9 : (ji7) < (l0.length : Int)
            · rw [if_pos c9] at H
              have c9b0 : decide ((ji7) < (l0.length : Int)) = true := decide_eq_true c9
              clear c9
              by_cases c10 : (rd l0 (ji7)) < 48
              · rw [if_pos c10] at H
                have c10b0 : decide ((rd l0 (ji7)) < 48) = true := decide_eq_true c10
                clear c10
                obtain rfl := Option.some.inj H
                have p161 : 0 ≤ (a1 : Int) := of_decide_eq_true (by first | (with_reducible assumption) | assumption)
                have q161 : a1 < (l0.length : Int) := of_decide_eq_true (by first | (with_reducible assumption) | assumption)
                obtain ⟨ad161, e161, hx161_0⟩ := Kd.at_int HR0.out a1 p161 q161
                cases e161
                replace p161 := eq_true p161
                replace q161 := eq_true q161
                have p162 : 0 ≤ (a1 : Int) := of_decide_eq_true (by first | (with_reducible assumption) | assumption)
                have q162 : a1 < (l0.length : Int) := of_decide_eq_true (by first | (with_reducible assumption) | assumption)
                obtain ⟨ad162, e162, hx162_0⟩ := Kd.at_int HR0.out a1 p162 q162
                obtain rfl : ad161 = ad162 := (by injection e162)
                replace p162 := eq_true p162
                replace q162 := eq_true q162
                have p163 : 0 ≤ ((ji7) : Int) := of_decide_eq_true (by first | (with_reducible assumption) | assumption)
                have q163 : (ji7) < (l0.length : Int) := of_decide_eq_true (by first | (with_reducible assumption) | assumption)
                obtain ⟨ad163, e163, hx163_0⟩ := Kd.at_int HR0.out (ji7) p163 q163
                obtain rfl : ad161 = ad163 := (by injection e163)
                replace p163 := eq_true p163
                replace q163 := eq_true q163
                go_enter Tryd.func42, Tryd.ntmps42
                go_wp2
                repeat (go_quiet (fail); try go_wp2)
                go_ret
                exact ⟨by first | rfl | (simp; done) | (simp only [← hji7] <;> (first | rfl | simp)) | (simp [*]; done), by repeat (first | exact Drawn0.refl _ | apply Drawn0.step)⟩
              · rw [if_neg c10] at H
                have c10b0 : decide ((rd l0 (ji7)) < 48) = false := decide_eq_false c10
                clear c10
                by_cases c11 : (rd l0 (ji7)) > 57
                · rw [if_pos c11] at H
                  have c11b0 : decide (57 < (rd l0 (ji7))) = true := decide_eq_true c11
                  clear c11
                  obtain rfl := Option.some.inj H
                  have p161 : 0 ≤ (a1 : Int) := of_decide_eq_true (by first | (with_reducible assumption) | assumption)
                  have q161 : a1 < (l0.length : Int) := of_decide_eq_true (by first | (with_reducible assumption) | assumption)
                  obtain ⟨ad161, e161, hx161_0⟩ := Kd.at_int HR0.out a1 p161 q161
                  cases e161
                  replace p161 := eq_true p161
                  replace q161 := eq_true q161
                  have p162 : 0 ≤ (a1 : Int) := of_decide_eq_true (by first | (with_reducible assumption) | assumption)
                  have q162 : a1 < (l0.length : Int) := of_decide_eq_true (by first | (with_reducible assumption) | assumption)
                  obtain ⟨ad162, e162, hx162_0⟩ := Kd.at_int HR0.out a1 p162 q162
                  obtain rfl : ad161 = ad162 := (by injection e162)
                  replace p162 := eq_true p162
                  replace q162 := eq_true q162
                  have p163 : 0 ≤ ((ji7) : Int) := of_decide_eq_true (by first | (with_reducible assumption) | assumption)
                  have q163 : (ji7) < (l0.length : Int) := of_decide_eq_true (by first | (with_reducible assumption) | assumption)
                  obtain ⟨ad163, e163, hx163_0⟩ := Kd.at_int HR0.out (ji7) p163 q163
                  obtain rfl : ad161 = ad163 := (by injection e163)
                  replace p163 := eq_true p163
                  replace q163 := eq_true q163
                  have p164 : 0 ≤ ((ji7) : Int) := of_decide_eq_true (by first | (with_reducible assumption) | assumption)
                  have q164 : (ji7) < (l0.length : Int) := of_decide_eq_true (by first | (with_reducible assumption) | assumption)
                  obtain ⟨ad164, e164, hx164_0⟩ := Kd.at_int HR0.out (ji7) p164 q164
                  obtain rfl : ad161 = ad164 := (by injection e164)
                  replace p164 := eq_true p164
                  replace q164 := eq_true q164
                  go_enter Tryd.func42, Tryd.ntmps42
                  go_wp2
                  repeat (go_quiet (fail); try go_wp2)
                  go_ret
                  exact ⟨by first | rfl | (simp; done) | (simp only [← hji7] <;> (first | rfl | simp)) | (simp [*]; done), by repeat (first | exact Drawn0.refl _ | apply Drawn0.step)⟩
                · rw [if_neg c11] at H
                  have c11b0 : decide (57 < (rd l0 (ji7))) = false := decide_eq_false c11
                  clear c11
                  obtain rfl := Option.some.inj H
                  have p161 : 0 ≤ (a1 : Int) := of_decide_eq_true (by first | (with_reducible assumption) | assumption)
                  have q161 : a1 < (l0.length : Int) := of_decide_eq_true (by first | (with_reducible assumption) | assumption)
                  obtain ⟨ad161, e161, hx161_0⟩ := Kd.at_int HR0.out a1 p161 q161
                  cases e161
                  replace p161 := eq_true p161
                  replace q161 := eq_true q161
                  have p162 : 0 ≤ (a1 : Int) := of_decide_eq_true (by first | (with_reducible assumption) | assumption)
                  have q162 : a1 < (l0.length : Int) := of_decide_eq_true (by first | (with_reducible assumption) | assumption)
                  obtain ⟨ad162, e162, hx162_0⟩ := Kd.at_int HR0.out a1 p162 q162
                  obtain rfl : ad161 = ad162 := (by injection e162)
                  replace p162 := eq_true p162
                  replace q162 := eq_true q162
                  have p163 : 0 ≤ ((ji7) : Int) := of_decide_eq_true (by first | (with_reducible assumption) | assumption)
                  have q163 : (ji7) < (l0.length : Int) := of_decide_eq_true (by first | (with_reducible assumption) | assumption)
                  obtain ⟨ad163, e163, hx163_0⟩ := Kd.at_int HR0.out (ji7) p163 q163
                  obtain rfl : ad161 = ad163 := (by injection e163)
                  replace p163 := eq_true p163
                  replace q163 := eq_true q163
                  have p164 : 0 ≤ ((ji7) : Int) := of_decide_eq_true (by first | (with_reducible assumption) | assumption)
                  have q164 : (ji7) < (l0.length : Int) := of_decide_eq_true (by first | (with_reducible assumption) | assumption)
                  obtain ⟨ad164, e164, hx164_0⟩ := Kd.at_int HR0.out (ji7) p164 q164
                  obtain rfl : ad161 = ad164 := (by injection e164)
                  replace p164 := eq_true p164
                  replace q164 := eq_true q164
                  have p165 : 0 ≤ (a1 : Int) := of_decide_eq_true (by first | (with_reducible assumption) | assumption)
                  have q165 : a1 < (l0.length : Int) := of_decide_eq_true (by first | (with_reducible assumption) | assumption)
                  obtain ⟨ad165, e165, hx165_0⟩ := Kd.at_int HR0.out a1 p165 q165
                  obtain rfl : ad161 = ad165 := (by injection e165)
                  replace p165 := eq_true p165
                  replace q165 := eq_true q165
                  have p166 : 0 ≤ ((ji7) : Int) := of_decide_eq_true (by first | (with_reducible assumption) | assumption)
                  have q166 : (ji7) < (l0.length : Int) := of_decide_eq_true (by first | (with_reducible assumption) | assumption)
                  obtain ⟨ad166, e166, hx166_0⟩ := Kd.at_int HR0.out (ji7) p166 q166
                  obtain rfl : ad161 = ad166 := (by injection e166)
                  replace p166 := eq_true p166
                  replace q166 := eq_true q166
                  go_enter Tryd.func42, Tryd.ntmps42
                  go_wp2
                  repeat (go_quiet (fail); try go_wp2)
                  go_ret
                  exact ⟨by first | rfl | (simp; done) | (simp only [← hji7] <;> (first | rfl | simp)) | (simp [*]; done), by repeat (first | exact Drawn0.refl _ | apply Drawn0.step)⟩
            · rw [if_neg c9] at H
              exact absurd H (by simp)
          · rw [if_neg c8] at H
            exact absurd H (by simp)
    · rw [if_neg c4] at H
      exact absurd H (by simp)
  · rw [if_neg c3] at H
    exact absurd H (by simp)

end Go.Proofs.YtgpghjmoapffcaaDoor.XT
