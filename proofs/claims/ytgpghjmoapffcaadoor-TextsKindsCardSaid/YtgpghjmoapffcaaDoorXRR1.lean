-- printed by wip/xprint.py (a scratch copy of the kit's print, with contracts by hand)
import Derived.Test.YtgpghjmoapffcaaDoorXRR0
namespace Go.Proofs.YtgpghjmoapffcaaDoor.XRR
open Go.RowKit Go.Proofs.YtgpghjmoapffcaaDoorW.PrintWords Go.Proofs.YtgpghjmoapffcaaDoorW.PrintLast Go.Proofs.YtgpghjmoapffcaaDoorW.PrintMore
attribute [local go_sem] max2_int min2_int max_two min_two max_three min_three max_four min_four   -- for this text's walks alone
set_option linter.unusedVariables false
set_option linter.unusedSimpArgs false

/-! ### utf8_Valid: function 22 (by hand) -/
def utf8_Valid.f (l1 : List Int) : Option (Bool) := none
theorem utf8_Valid.calls (A1 : Option Addr) (c1 : Nat) (l1 : List Int) (r : Bool) (w : World) (hr1 : Kd.C (Kd.int .u8) w A1 l1.length l1) (hc1 : l1.length ≤ c1) (h : utf8_Valid.f l1 = some r) :
    Calls Tryd.prog 22 #[.slice A1 l1.length c1] w fun e w' => e = .returned (.bool r) ∧ Below w.heap.size w w' := by
  unfold utf8_Valid.f at h
  cases h

/-! ### warderref03_printable: function 27 -/
mutual
def warderref03_printable.j0 : Nat → Int → Bool → Option (Bool)
  | 0, _, _ => none
  | k + 1, x0, x30 => if x30 = true then (some true) else (warderref03_printable.l0 k x0 (⟨#[39, 40, 41, 43, 44, 45, 46, 47, 58, 61, 63]⟩ : ByteArray) 0)
def warderref03_printable.l0 : Nat → Int → ByteArray → Int → Option (Bool)
  | 0, _, _, _ => none
  | k + 1, x0, x3, x4 => if x4 < (x3.size : Int) then (if 0 ≤ x4 then (if (bt x3 x4) = x0 then (some true) else (warderref03_printable.l0 k x0 x3 (wrap64 (x4 + 1)))) else (none)) else (some false)
end
def warderref03_printable.f (k : Nat) (a0 : Int) : Option (Bool) := if a0 ≥ 65 then (if a0 ≤ 90 then (warderref03_printable.j0 k a0 true) else (if a0 ≥ 97 then (if a0 ≤ 122 then (warderref03_printable.j0 k a0 true) else (if a0 ≥ 48 then (if a0 ≤ 57 then (warderref03_printable.j0 k a0 true) else (warderref03_printable.j0 k a0 (a0 == 32))) else (warderref03_printable.j0 k a0 (a0 == 32)))) else (if a0 ≥ 48 then (if a0 ≤ 57 then (warderref03_printable.j0 k a0 true) else (warderref03_printable.j0 k a0 (a0 == 32))) else (warderref03_printable.j0 k a0 (a0 == 32))))) else (if a0 ≥ 97 then (if a0 ≤ 122 then (warderref03_printable.j0 k a0 true) else (if a0 ≥ 48 then (if a0 ≤ 57 then (warderref03_printable.j0 k a0 true) else (warderref03_printable.j0 k a0 (a0 == 32))) else (warderref03_printable.j0 k a0 (a0 == 32)))) else (if a0 ≥ 48 then (if a0 ≤ 57 then (warderref03_printable.j0 k a0 true) else (warderref03_printable.j0 k a0 (a0 == 32))) else (warderref03_printable.j0 k a0 (a0 == 32))))
theorem warderref03_printable.mono_l : ∀ k, (∀ y0 y1, LeO (warderref03_printable.j0 k y0 y1) (warderref03_printable.j0 (k + 1) y0 y1)) ∧ (∀ y0 y1 y2, LeO (warderref03_printable.l0 k y0 y1 y2) (warderref03_printable.l0 (k + 1) y0 y1 y2))
  | 0 => ⟨fun _ _ r h => by simp [warderref03_printable.j0] at h, fun _ _ _ r h => by simp [warderref03_printable.l0] at h⟩
  | k + 1 => by
    obtain ⟨ih0, ih1⟩ := warderref03_printable.mono_l k
    refine ⟨?_, ?_⟩
    · intro y0 y1
      unfold warderref03_printable.j0
      repeat' first
      | (with_reducible exact ih0 _ _)
      | (with_reducible exact ih1 _ _ _)
      | (with_reducible exact LeO.refl _)
      | (with_reducible exact LeO.none _)
      | (with_reducible refine LeO.ite ?_ ?_)
      | (with_reducible refine LeO.bind ?_ (fun _ => ?_))
      | exact ih0 _ _
      | exact ih1 _ _ _
      | exact LeO.none _
      | refine LeO.ite ?_ ?_
      | refine LeO.bind ?_ (fun _ => ?_)
    · intro y0 y1 y2
      unfold warderref03_printable.l0
      repeat' first
      | (with_reducible exact ih0 _ _)
      | (with_reducible exact ih1 _ _ _)
      | (with_reducible exact LeO.refl _)
      | (with_reducible exact LeO.none _)
      | (with_reducible refine LeO.ite ?_ ?_)
      | (with_reducible refine LeO.bind ?_ (fun _ => ?_))
      | exact ih0 _ _
      | exact ih1 _ _ _
      | exact LeO.none _
      | refine LeO.ite ?_ ?_
      | refine LeO.bind ?_ (fun _ => ?_)
theorem warderref03_printable.mono : ∀ a0 k, LeO (warderref03_printable.f k a0) (warderref03_printable.f (k + 1) a0) := by
  intro a0 k
  obtain ⟨ih0, ih1⟩ := warderref03_printable.mono_l k
  unfold warderref03_printable.f
  repeat' first
      | (with_reducible exact ih0 _ _)
      | (with_reducible exact ih1 _ _ _)
      | (with_reducible exact LeO.refl _)
      | (with_reducible exact LeO.none _)
      | (with_reducible refine LeO.ite ?_ ?_)
      | (with_reducible refine LeO.bind ?_ (fun _ => ?_))
      | exact ih0 _ _
      | exact ih1 _ _ _
      | exact LeO.none _
      | refine LeO.ite ?_ ?_
      | refine LeO.bind ?_ (fun _ => ?_)
set_option maxHeartbeats 8000000 in
set_option maxRecDepth 100000 in
theorem warderref03_printable.calls (k : Nat) (a0 : Int) (r : Bool) (w : World) (h : warderref03_printable.f k a0 = some r) :
    Calls Tryd.prog 27 #[.int .u8 a0] w fun e w' => e = .returned (.bool r) ∧ Drawn0 w w' := by
  have H : (if a0 ≥ 65 then (if a0 ≤ 90 then (warderref03_printable.j0 k a0 true) else (if a0 ≥ 97 then (if a0 ≤ 122 then (warderref03_printable.j0 k a0 true) else (if a0 ≥ 48 then (if a0 ≤ 57 then (warderref03_printable.j0 k a0 true) else (warderref03_printable.j0 k a0 (a0 == 32))) else (warderref03_printable.j0 k a0 (a0 == 32)))) else (if a0 ≥ 48 then (if a0 ≤ 57 then (warderref03_printable.j0 k a0 true) else (warderref03_printable.j0 k a0 (a0 == 32))) else (warderref03_printable.j0 k a0 (a0 == 32))))) else (if a0 ≥ 97 then (if a0 ≤ 122 then (warderref03_printable.j0 k a0 true) else (if a0 ≥ 48 then (if a0 ≤ 57 then (warderref03_printable.j0 k a0 true) else (warderref03_printable.j0 k a0 (a0 == 32))) else (warderref03_printable.j0 k a0 (a0 == 32)))) else (if a0 ≥ 48 then (if a0 ≤ 57 then (warderref03_printable.j0 k a0 true) else (warderref03_printable.j0 k a0 (a0 == 32))) else (warderref03_printable.j0 k a0 (a0 == 32))))) = some r := h
  clear h
  have HC2 := Aside0.mk H
  clear H
  go_enter Tryd.func27, Tryd.ntmps27
  go_upto_region 1 with (fail)
  go_cut [30] (fun v30 wc => ∃ (kq : Nat) (x30_1 : Bool), v30 = .bool x30_1 ∧ Aside0 (warderref03_printable.j0 kq a0 x30_1 = some r) ∧ Aside0 (kq ≤ k) ∧ Drawn0 w wc)
  case first =>
    have H := HC2.out
    clear HC2
    by_cases c3 : a0 ≥ 65
    · rw [if_pos c3] at H
      have c3b0 : decide (65 ≤ a0) = true := decide_eq_true c3
      clear c3
      (first | rw [c3b0] | (simp only [i64_w, i32_w]; rw [c3b0]) | skip)
      by_cases c4 : a0 ≤ 90
      · rw [if_pos c4] at H
        have c4b0 : decide (a0 ≤ 90) = true := decide_eq_true c4
        clear c4
        have H' := Aside0.mk H
        clear H
        go_wp2
        go_meet
        case rel => exact ⟨_, (true), (by first | rfl | (simp; done) | (simp [*]; done)), H', ⟨by first | omega | exact Nat.le_refl _⟩, by repeat (first | exact Drawn0.refl _ | apply Drawn0.step)⟩
      · rw [if_neg c4] at H
        have c4b0 : decide (a0 ≤ 90) = false := decide_eq_false c4
        clear c4
        by_cases c5 : a0 ≥ 97
        · rw [if_pos c5] at H
          have c5b0 : decide (97 ≤ a0) = true := decide_eq_true c5
          clear c5
          by_cases c6 : a0 ≤ 122
          · rw [if_pos c6] at H
            have c6b0 : decide (a0 ≤ 122) = true := decide_eq_true c6
            clear c6
            have H' := Aside0.mk H
            clear H
            go_wp2
            go_meet
            case rel => exact ⟨_, (true), (by first | rfl | (simp; done) | (simp [*]; done)), H', ⟨by first | omega | exact Nat.le_refl _⟩, by repeat (first | exact Drawn0.refl _ | apply Drawn0.step)⟩
          · rw [if_neg c6] at H
            have c6b0 : decide (a0 ≤ 122) = false := decide_eq_false c6
            clear c6
            by_cases c7 : a0 ≥ 48
            · rw [if_pos c7] at H
              have c7b0 : decide (48 ≤ a0) = true := decide_eq_true c7
              clear c7
              by_cases c8 : a0 ≤ 57
              · rw [if_pos c8] at H
                have c8b0 : decide (a0 ≤ 57) = true := decide_eq_true c8
                clear c8
                have H' := Aside0.mk H
                clear H
                go_wp2
                go_meet
                case rel => exact ⟨_, (true), (by first | rfl | (simp; done) | (simp [*]; done)), H', ⟨by first | omega | exact Nat.le_refl _⟩, by repeat (first | exact Drawn0.refl _ | apply Drawn0.step)⟩
              · rw [if_neg c8] at H
                have c8b0 : decide (a0 ≤ 57) = false := decide_eq_false c8
                clear c8
                have H' := Aside0.mk H
                clear H
                go_wp2
                go_meet
                case rel => exact ⟨_, ((a0 == 32)), (by first | rfl | (simp; done) | (simp [*]; done)), H', ⟨by first | omega | exact Nat.le_refl _⟩, by repeat (first | exact Drawn0.refl _ | apply Drawn0.step)⟩
            · rw [if_neg c7] at H
              have c7b0 : decide (48 ≤ a0) = false := decide_eq_false c7
              clear c7
              have H' := Aside0.mk H
              clear H
              go_wp2
              go_meet
              case rel => exact ⟨_, ((a0 == 32)), (by first | rfl | (simp; done) | (simp [*]; done)), H', ⟨by first | omega | exact Nat.le_refl _⟩, by repeat (first | exact Drawn0.refl _ | apply Drawn0.step)⟩
        · rw [if_neg c5] at H
          have c5b0 : decide (97 ≤ a0) = false := decide_eq_false c5
          clear c5
          by_cases c9 : a0 ≥ 48
          · rw [if_pos c9] at H
            have c9b0 : decide (48 ≤ a0) = true := decide_eq_true c9
            clear c9
            by_cases c10 : a0 ≤ 57
            · rw [if_pos c10] at H
              have c10b0 : decide (a0 ≤ 57) = true := decide_eq_true c10
              clear c10
              have H' := Aside0.mk H
              clear H
              go_wp2
              go_meet
              case rel => exact ⟨_, (true), (by first | rfl | (simp; done) | (simp [*]; done)), H', ⟨by first | omega | exact Nat.le_refl _⟩, by repeat (first | exact Drawn0.refl _ | apply Drawn0.step)⟩
            · rw [if_neg c10] at H
              have c10b0 : decide (a0 ≤ 57) = false := decide_eq_false c10
              clear c10
              have H' := Aside0.mk H
              clear H
              go_wp2
              go_meet
              case rel => exact ⟨_, ((a0 == 32)), (by first | rfl | (simp; done) | (simp [*]; done)), H', ⟨by first | omega | exact Nat.le_refl _⟩, by repeat (first | exact Drawn0.refl _ | apply Drawn0.step)⟩
          · rw [if_neg c9] at H
            have c9b0 : decide (48 ≤ a0) = false := decide_eq_false c9
            clear c9
            have H' := Aside0.mk H
            clear H
            go_wp2
            go_meet
            case rel => exact ⟨_, ((a0 == 32)), (by first | rfl | (simp; done) | (simp [*]; done)), H', ⟨by first | omega | exact Nat.le_refl _⟩, by repeat (first | exact Drawn0.refl _ | apply Drawn0.step)⟩
    · rw [if_neg c3] at H
      have c3b0 : decide (65 ≤ a0) = false := decide_eq_false c3
      clear c3
      (first | rw [c3b0] | (simp only [i64_w, i32_w]; rw [c3b0]) | skip)
      by_cases c11 : a0 ≥ 97
      · rw [if_pos c11] at H
        have c11b0 : decide (97 ≤ a0) = true := decide_eq_true c11
        clear c11
        by_cases c12 : a0 ≤ 122
        · rw [if_pos c12] at H
          have c12b0 : decide (a0 ≤ 122) = true := decide_eq_true c12
          clear c12
          have H' := Aside0.mk H
          clear H
          go_wp2
          go_meet
          case rel => exact ⟨_, (true), (by first | rfl | (simp; done) | (simp [*]; done)), H', ⟨by first | omega | exact Nat.le_refl _⟩, by repeat (first | exact Drawn0.refl _ | apply Drawn0.step)⟩
        · rw [if_neg c12] at H
          have c12b0 : decide (a0 ≤ 122) = false := decide_eq_false c12
          clear c12
          by_cases c13 : a0 ≥ 48
          · rw [if_pos c13] at H
            have c13b0 : decide (48 ≤ a0) = true := decide_eq_true c13
            clear c13
            by_cases c14 : a0 ≤ 57
            · rw [if_pos c14] at H
              have c14b0 : decide (a0 ≤ 57) = true := decide_eq_true c14
              clear c14
              have H' := Aside0.mk H
              clear H
              go_wp2
              go_meet
              case rel => exact ⟨_, (true), (by first | rfl | (simp; done) | (simp [*]; done)), H', ⟨by first | omega | exact Nat.le_refl _⟩, by repeat (first | exact Drawn0.refl _ | apply Drawn0.step)⟩
            · rw [if_neg c14] at H
              have c14b0 : decide (a0 ≤ 57) = false := decide_eq_false c14
              clear c14
              have H' := Aside0.mk H
              clear H
              go_wp2
              go_meet
              case rel => exact ⟨_, ((a0 == 32)), (by first | rfl | (simp; done) | (simp [*]; done)), H', ⟨by first | omega | exact Nat.le_refl _⟩, by repeat (first | exact Drawn0.refl _ | apply Drawn0.step)⟩
          · rw [if_neg c13] at H
            have c13b0 : decide (48 ≤ a0) = false := decide_eq_false c13
            clear c13
            have H' := Aside0.mk H
            clear H
            go_wp2
            go_meet
            case rel => exact ⟨_, ((a0 == 32)), (by first | rfl | (simp; done) | (simp [*]; done)), H', ⟨by first | omega | exact Nat.le_refl _⟩, by repeat (first | exact Drawn0.refl _ | apply Drawn0.step)⟩
      · rw [if_neg c11] at H
        have c11b0 : decide (97 ≤ a0) = false := decide_eq_false c11
        clear c11
        by_cases c15 : a0 ≥ 48
        · rw [if_pos c15] at H
          have c15b0 : decide (48 ≤ a0) = true := decide_eq_true c15
          clear c15
          by_cases c16 : a0 ≤ 57
          · rw [if_pos c16] at H
            have c16b0 : decide (a0 ≤ 57) = true := decide_eq_true c16
            clear c16
            have H' := Aside0.mk H
            clear H
            go_wp2
            go_meet
            case rel => exact ⟨_, (true), (by first | rfl | (simp; done) | (simp [*]; done)), H', ⟨by first | omega | exact Nat.le_refl _⟩, by repeat (first | exact Drawn0.refl _ | apply Drawn0.step)⟩
          · rw [if_neg c16] at H
            have c16b0 : decide (a0 ≤ 57) = false := decide_eq_false c16
            clear c16
            have H' := Aside0.mk H
            clear H
            go_wp2
            go_meet
            case rel => exact ⟨_, ((a0 == 32)), (by first | rfl | (simp; done) | (simp [*]; done)), H', ⟨by first | omega | exact Nat.le_refl _⟩, by repeat (first | exact Drawn0.refl _ | apply Drawn0.step)⟩
        · rw [if_neg c15] at H
          have c15b0 : decide (48 ≤ a0) = false := decide_eq_false c15
          clear c15
          have H' := Aside0.mk H
          clear H
          go_wp2
          go_meet
          case rel => exact ⟨_, ((a0 == 32)), (by first | rfl | (simp; done) | (simp [*]; done)), H', ⟨by first | omega | exact Nat.le_refl _⟩, by repeat (first | exact Drawn0.refl _ | apply Drawn0.step)⟩
  case rest =>
    clear HC2
    try clear c1
    try clear c2
    try clear p2
    try clear c3
    try clear c3b0
    try clear c4
    try clear c4b0
    try clear c5
    try clear c5b0
    try clear c6
    try clear c6b0
    try clear c7
    try clear c7b0
    try clear c8
    try clear c8b0
    try clear c9
    try clear c9b0
    try clear c10
    try clear c10b0
    try clear c11
    try clear c11b0
    try clear c12
    try clear c12b0
    try clear c13
    try clear c13b0
    try clear c14
    try clear c14b0
    try clear c15
    try clear c15b0
    try clear c16
    try clear c16b0
    obtain ⟨kq, x30_1, rfl, HA, HJ1, ⟨mc1, rfl⟩⟩ := hcut
    cases kq with
    | zero => exact absurd HA.out (by simp [warderref03_printable.j0])
    | succ kj1 =>
      have H := HA.out
      clear HA
      simp only [warderref03_printable.j0] at H
      by_cases c17 : x30_1 = true
      · subst c17
        have H1 : (some true) = some r := by rw [if_pos rfl] at H; exact H
        clear H
        have H := H1
        clear H1
        obtain rfl := Option.some.inj H
        go_wp2
        go_ret
        exact ⟨by first | rfl | (simp; done) | (simp [*]; done), by repeat (first | exact Drawn0.refl _ | apply Drawn0.step)⟩
      · replace c17 := Bool.eq_false_iff.mpr c17
        subst c17
        have H1 : (warderref03_printable.l0 kj1 a0 (⟨#[39, 40, 41, 43, 44, 45, 46, 47, 58, 61, 63]⟩ : ByteArray) 0) = some r := by rw [if_neg (show ¬ (false = true) by decide)] at H; exact H
        clear H
        have H := H1
        clear H1
        have H' := Aside0.mk H
        clear H
        go_wp2
        go_loopg [4] kj1 (fun kq v4 w' => ∃ (x4_2 : Int), v4 = .int .i64 x4_2 ∧ Aside0 (warderref03_printable.l0 kq a0 (⟨#[39, 40, 41, 43, 44, 45, 46, 47, 58, 61, 63]⟩ : ByteArray) x4_2 = some r) ∧ Aside0 (kq ≤ kj1) ∧ Drawn0 w w')
        case atStart => exact ⟨(0), (by first | rfl | (simp; done) | (simp [*]; done)), H', ⟨Nat.le_refl _⟩, by repeat (first | exact Drawn0.refl _ | apply Drawn0.step)⟩
        case round =>
          clear H'
          try clear c1
          try clear c2
          try clear p2
          try clear c3
          try clear c3b0
          try clear c4
          try clear c4b0
          try clear c5
          try clear c5b0
          try clear c6
          try clear c6b0
          try clear c7
          try clear c7b0
          try clear c8
          try clear c8b0
          try clear c9
          try clear c9b0
          try clear c10
          try clear c10b0
          try clear c11
          try clear c11b0
          try clear c12
          try clear c12b0
          try clear c13
          try clear c13b0
          try clear c14
          try clear c14b0
          try clear c15
          try clear c15b0
          try clear c16
          try clear c16b0
          try clear c17
          try clear p2
          obtain ⟨x4_2, rfl, HA, HK2, ⟨m2, rfl⟩⟩ := hrel
          cases gk with
          | zero => exact absurd HA.out (by simp [warderref03_printable.l0])
          | succ k2 =>
            have H := HA.out
            clear HA
            simp only [warderref03_printable.l0] at H
            by_cases c18 : x4_2 < ((⟨#[39, 40, 41, 43, 44, 45, 46, 47, 58, 61, 63]⟩ : ByteArray).size : Int)
            · rw [if_pos c18] at H
              have c18b0 : decide (x4_2 < ((⟨#[39, 40, 41, 43, 44, 45, 46, 47, 58, 61, 63]⟩ : ByteArray).size : Int)) = true := decide_eq_true c18
              have c18z_ : decide (x4_2 < 11) = true := c18b0
              clear c18
              by_cases c19 : 0 ≤ x4_2
              · rw [if_pos c19] at H
                have c19b0 : decide (0 ≤ x4_2) = true := decide_eq_true c19
                clear c19
                by_cases c21 : (bt (⟨#[39, 40, 41, 43, 44, 45, 46, 47, 58, 61, 63]⟩ : ByteArray) x4_2) = a0
                · rw [if_pos c21] at H
                  have c21b0 : ((bt (⟨#[39, 40, 41, 43, 44, 45, 46, 47, 58, 61, 63]⟩ : ByteArray) x4_2) == a0) = true := beq_iff_eq.mpr c21
                  have c21b1 : ((bt (⟨#[39, 40, 41, 43, 44, 45, 46, 47, 58, 61, 63]⟩ : ByteArray) x4_2) != a0) = false := bne_eq_false_iff_eq.mpr c21
                  clear c21
                  obtain rfl := Option.some.inj H
                  have p20 : 0 ≤ (x4_2 : Int) := of_decide_eq_true (by first | (with_reducible assumption) | assumption)
                  have q20 : x4_2 < (11 : Int) := of_decide_eq_true (by first | (with_reducible assumption) | assumption)
                  have hx20 := bt_at (⟨#[39, 40, 41, 43, 44, 45, 46, 47, 58, 61, 63]⟩ : ByteArray) x4_2
                  replace p20 := eq_true p20
                  replace q20 := eq_true q20
                  go_wp2
                  go_ret
                  exact ⟨by first | rfl | (simp; done) | (simp [*]; done), by repeat (first | exact Drawn0.refl _ | apply Drawn0.step)⟩
                · rw [if_neg c21] at H
                  have c21b0 : ((bt (⟨#[39, 40, 41, 43, 44, 45, 46, 47, 58, 61, 63]⟩ : ByteArray) x4_2) == a0) = false := beq_eq_false_iff_ne.mpr c21
                  have c21b1 : ((bt (⟨#[39, 40, 41, 43, 44, 45, 46, 47, 58, 61, 63]⟩ : ByteArray) x4_2) != a0) = true := bne_iff_ne.mpr c21
                  have H' := Aside0.mk H
                  clear H
                  have p20 : 0 ≤ (x4_2 : Int) := of_decide_eq_true (by first | (with_reducible assumption) | assumption)
                  have q20 : x4_2 < (11 : Int) := of_decide_eq_true (by first | (with_reducible assumption) | assumption)
                  have hx20 := bt_at (⟨#[39, 40, 41, 43, 44, 45, 46, 47, 58, 61, 63]⟩ : ByteArray) x4_2
                  replace p20 := eq_true p20
                  replace q20 := eq_true q20
                  go_wp2
                  go_roundg k2
                  case measure => have := HJ1.out; have := HK2.out; omega
                  case rel => exact ⟨(wrap64 (x4_2 + 1)), (by first | rfl | (simp; done) | (simp [*]; done)), H', ⟨by have := HJ1.out; have := HK2.out; omega⟩, by repeat (first | exact Drawn0.refl _ | apply Drawn0.step)⟩
              · rw [if_neg c19] at H
                exact absurd H (by simp)
            · rw [if_neg c18] at H
              have c18b0 : decide (x4_2 < ((⟨#[39, 40, 41, 43, 44, 45, 46, 47, 58, 61, 63]⟩ : ByteArray).size : Int)) = false := decide_eq_false c18
              have c18z_ : decide (x4_2 < 11) = false := c18b0
              clear c18
              obtain rfl := Option.some.inj H
              go_wp2
              go_ret
              exact ⟨by first | rfl | (simp; done) | (simp [*]; done), by repeat (first | exact Drawn0.refl _ | apply Drawn0.step)⟩

end Go.Proofs.YtgpghjmoapffcaaDoor.XRR
