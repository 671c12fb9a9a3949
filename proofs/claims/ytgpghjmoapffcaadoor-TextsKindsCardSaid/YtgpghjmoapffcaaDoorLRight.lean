/- The laws TextsRight and TextsKinds, walked: they are true, under utf8's two tables as they are laid. -/
import Derived.Test.YtgpghjmoapffcaaDoorRight2
import Derived.Test.YtgpghjmoapffcaaDoorXY1
import Derived.Test.YtgpghjmoapffcaaDoorOpn
import Derived.Deep.DeepMust
set_option linter.unusedVariables false
set_option linter.unusedSimpArgs false
namespace Go.Proofs.YtgpghjmoapffcaaDoor
open Go.RowKit Go.Proofs.YtgpghjmoapffcaaDoorW.PrintWords
namespace LR
theorem headc (W : World) : Calls Tryd.prog 12 #[] W fun e w' => e = .returned (.bool true) ∧ Below W.heap.size W w' := XY.warderlaw03_head.calls true W rfl
theorem ge_of_pr (x : Int) (h : Rt.pr x = true) : Rt.ge x = true := by
  simp only [Rt.pr, Rt.ge, Bool.or_eq_true, decide_eq_true_eq] at *
  omega
theorem ia_of_ge (x : Int) (h : Rt.ge x = true) : Rt.ia x = true := by
  simp only [Rt.ia, Rt.ge, decide_eq_true_eq] at *
  omega
theorem fn19 (l : List Int) (h : Rt.fn 19 l = true) : Rt.fn 27 l = true := by
  have h1 : l.all Rt.pr = true := h
  show l.all Rt.ge = true
  rw [List.all_eq_true] at *
  exact fun x hx => ge_of_pr x (h1 x hx)
theorem fn27 (l : List Int) (h : Rt.fn 27 l = true) : Rt.fn 22 l = true := by
  have h1 : l.all Rt.ge = true := h
  show l.all Rt.ia = true
  rw [List.all_eq_true] at *
  exact fun x hx => ia_of_ge x (h1 x hx)
theorem fn22 (l : List Int) (h : Rt.fn 22 l = true) : Rt.fn 12 l = true := by
  have h1 : l.all Rt.ia = true := h
  show Lib.validD (strOfNums l).data.toList = true
  rw [List.all_eq_true] at h1
  have h2 := Lib.validD_ascii (strOfNums l).data.toList.length (strOfNums l).data.toList (by
    intro b hb
    rw [List.take_length, strOfNums_data, List.mem_map] at hb
    obtain ⟨x, hx, rfl⟩ := hb
    have h3 := h1 x hx
    simp only [Rt.ia, decide_eq_true_eq] at h3
    rw [UInt8.toNat_ofNat']
    omega)
  rw [h2, List.drop_length]
  exact Lib.validD_nil
set_option maxHeartbeats 4000000 in
set_option maxRecDepth 100000 in
theorem right (t : Int) (A : Option Addr) (c : Nat) (l : List Int) (w : World) (hC : Kd.C (Kd.int .u8) w A l.length l) (hc : l.length ≤ c) (hb : ∀ x ∈ l, 0 ≤ x ∧ x < 256) (hT : Lib.Utf8Tabs 0 1 w) :
    Calls Tryd.prog 3 #[.int .u8 t, .slice A l.length c] w fun e w' => e = .returned (.bool true) ∧ Below w.heap.size w w' := by
  have R1 := Aside0.mk (fun w1 (h : Below w.heap.size w w1) => Rt.right t A c l w1 (Kd.C_below hC h) hc hb (Utf8Tabs_below hT h))
  have R2 := Aside0.mk (fun w1 (h : Below w.heap.size w w1) => Rt.ref t A c l w1 (Kd.C_below hC h) hc hb (Utf8Tabs_below hT h))
  clear hC hT hb
  generalize Rt.fn t l = v at *
  have hvv : (v == v) = true := by cases v <;> rfl
  go_enter Tryd.func3, Tryd.ntmps3
  go_wp2_with (go_at_call 12; go_must (refine (headc _).mono ?_))
  rintro e w1 ⟨rfl, hb1⟩
  have HB1 := Aside0.mk hb1
  clear hb1
  go_wp2_with (go_at_call 13; go_must (refine (R1.out _ HB1.out).mono ?_))
  rintro e w2 ⟨rfl, hb2⟩
  have HB2 := Aside0.mk (below_step HB1.out hb2)
  clear hb2
  go_wp2_with (go_at_call 14; go_must (refine (R2.out _ HB2.out).mono ?_))
  rintro e w3 ⟨rfl, hb3⟩
  have HB3 := Aside0.mk (below_step HB2.out hb3)
  clear hb3
  go_wp2
  go_ret
  exact ⟨rfl, HB3.out⟩
set_option maxHeartbeats 8000000 in
set_option maxRecDepth 100000 in
theorem kinds (A : Option Addr) (c : Nat) (l : List Int) (w : World) (hC : Kd.C (Kd.int .u8) w A l.length l) (hc : l.length ≤ c) (hb : ∀ x ∈ l, 0 ≤ x ∧ x < 256) (hT : Lib.Utf8Tabs 0 1 w) :
    Calls Tryd.prog 7 #[.slice A l.length c] w fun e w' => e = .returned (.bool true) ∧ Below w.heap.size w w' := by
  have R := fun t w1 (h : Below w.heap.size w w1) => Rt.right t A c l w1 (Kd.C_below hC h) hc hb (Utf8Tabs_below hT h)
  have R12 := Aside0.mk (R 12)
  have R19 := Aside0.mk (R 19)
  have R22 := Aside0.mk (R 22)
  have R27 := Aside0.mk (R 27)
  have R4 := Aside0.mk (R 4)
  have h1 := fn19 l
  have h2 := fn27 l
  have h3 := fn22 l
  have h4 : Rt.fn 4 l = false := rfl
  rw [h4] at R4
  clear R hC hT hb h4
  generalize Rt.fn 12 l = v12 at *
  generalize Rt.fn 19 l = v19 at *
  generalize Rt.fn 22 l = v22 at *
  generalize Rt.fn 27 l = v27 at *
  have hk : (v19 = true ∧ v27 = true ∧ v22 = true ∧ v12 = true) ∨ (v19 = false ∧ v27 = true ∧ v22 = true ∧ v12 = true) ∨ (v19 = false ∧ v27 = false ∧ v22 = true ∧ v12 = true) ∨ (v19 = false ∧ v27 = false ∧ v22 = false ∧ v12 = true) ∨ (v19 = false ∧ v27 = false ∧ v22 = false ∧ v12 = false) := by
    revert h1 h2 h3
    cases v19 <;> cases v27 <;> cases v22 <;> cases v12 <;> simp
  clear h1 h2 h3
  rcases hk with ⟨rfl, rfl, rfl, rfl⟩ | ⟨rfl, rfl, rfl, rfl⟩ | ⟨rfl, rfl, rfl, rfl⟩ | ⟨rfl, rfl, rfl, rfl⟩ | ⟨rfl, rfl, rfl, rfl⟩
  all_goals
    go_enter Tryd.func7, Tryd.ntmps7
    go_wp2_with (go_at_call 12; go_must (refine (headc _).mono ?_))
    rintro e w1 ⟨rfl, hb1⟩
    have HB1 := Aside0.mk hb1
    clear hb1
    go_wp2_with (go_at_call 13; go_must (refine (R19.out _ HB1.out).mono ?_))
    rintro e w2 ⟨rfl, hb2⟩
    have HB2 := Aside0.mk (below_step HB1.out hb2)
    clear hb2
    go_wp2_with (go_at_call 13; go_must (refine (R27.out _ HB2.out).mono ?_))
    rintro e w3 ⟨rfl, hb3⟩
    have HB3 := Aside0.mk (below_step HB2.out hb3)
    clear hb3
    go_wp2_with (go_at_call 13; go_must (refine (R22.out _ HB3.out).mono ?_))
    rintro e w4 ⟨rfl, hb4⟩
    have HB4 := Aside0.mk (below_step HB3.out hb4)
    clear hb4
    go_wp2_with (go_at_call 13; go_must (refine (R12.out _ HB4.out).mono ?_))
    rintro e w5 ⟨rfl, hb5⟩
    have HB5 := Aside0.mk (below_step HB4.out hb5)
    clear hb5
    go_wp2_with (go_at_call 13; go_must (refine (R4.out _ HB5.out).mono ?_))
    rintro e w6 ⟨rfl, hb6⟩
    have HB6 := Aside0.mk (below_step HB5.out hb6)
    clear hb6
    go_wp2
    go_ret
    exact ⟨rfl, HB6.out⟩
end LR
theorem textsRight.law (w : World) (t : Int) (A : Option Addr) (c : Nat) (l : List Int) (_ : 0 ≤ t ∧ t < 256) (hC : Kd.C (Kd.int .u8) w A l.length l) (hc : l.length ≤ c) (hb : ∀ x ∈ l, 0 ≤ x ∧ x < 256) (hT : Lib.Utf8Tabs 0 1 w) :
    Calls Tryd.prog 3 #[.int .u8 t, .slice A l.length c] w fun e w' => e = .returned (.bool true) ∧ Below w.heap.size w w' := LR.right t A c l w hC hc hb hT
theorem textsKinds.law (w : World) (A : Option Addr) (c : Nat) (l : List Int) (hC : Kd.C (Kd.int .u8) w A l.length l) (hc : l.length ≤ c) (hb : ∀ x ∈ l, 0 ≤ x ∧ x < 256) (hT : Lib.Utf8Tabs 0 1 w) :
    Calls Tryd.prog 7 #[.slice A l.length c] w fun e w' => e = .returned (.bool true) ∧ Below w.heap.size w w' := LR.kinds A c l w hC hc hb hT
end Go.Proofs.YtgpghjmoapffcaaDoor
