-- printed by wip/xprint.py (a scratch copy of the kit's print, with contracts by hand)
import Derived.Test.YtalcfnhcenpniaaXK0
import Derived.Test.YtalcfnhcenpniaaXK1
import Derived.Test.YtalcfnhcenpniaaXK4
namespace Go.Proofs.Ytalcfnhcenpniaa.XK
open Go.RowKit Go.Proofs.YtalcfnhcenpniaaW.PrintWords Go.Proofs.YtalcfnhcenpniaaW.PrintLast Go.Proofs.YtalcfnhcenpniaaW.PrintMore
attribute [local go_sem] max2_int min2_int max_two min_two max_three min_three max_four min_four   -- for this text's walks alone
set_option linter.unusedVariables false
set_option linter.unusedSimpArgs false

/-! ### warderlaw21_PrincsKnown: function 7 -/
def warderlaw21_PrincsKnown.f (l0 : List (S45)) (a1_0 : ByteArray) (l1_1 : List ByteArray) (a2 : Int) : Option (Bool) := (warderlaw21_head.f).bind fun t119 => (if (l0.length : Int) > 500 then (some t119) else ((some (([(⟨(⟨a1_0, l1_1⟩ : S43), a2⟩ : S45)] : List (S45)) : List (S45))).bind fun y120 => (if y120.length + l0.length < 2932031007402 then ((princs_Lookup.f (y120 ++ l0) a1_0 l1_1).bind fun bt126 => ((some (([] : List (S45)) : List (S45))).bind fun y128 => (if y128.length + l0.length < 2932031007402 then ((some (y128 ++ l0 : List (S45))).bind fun y131 => ((some (([(⟨(⟨a1_0, l1_1⟩ : S43), a2⟩ : S45)] : List (S45)) : List (S45))).bind fun y134 => (if y131.length + y134.length < 2932031007402 then ((princs_Lookup.f (y131 ++ y134) a1_0 l1_1).bind fun bt140 => ((princs_Lookup.f l0 a1_0 l1_1).bind fun bt142 => ((princs_Lookup.f ([] : List (S45)) a1_0 l1_1).bind fun bt144 => (if t119 = true then (if bt126.2 = true then (if bt126.1 = a2 then (if bt140.2 = true then (if bt144.2 = true then (some false) else (if bt142.2 = true then (if bt140.1 = bt142.1 then (some true) else (some false)) else (if bt140.1 = a2 then (some (bt142.1 == (-1))) else (some false)))) else (some false)) else (some false)) else (some false)) else (some false))))) else (none)))) else (none)))) else (none))))
def warderlaw21_PrincsKnown.T6 : Bool × List (List Nat × List Nat) := (true, [([], []), ([], []), ([0, 1], [0, 1]), ([], []), ([], []), ([3, 4], [3, 4]), ([5], [5]), ([2, 6, 2], [2, 6]), ([], []), ([7, 8, 7], [7, 8]), ([9], [9]), ([10], [10]), ([10], [10]), ([11, 9, 0, 1, 2, 3, 4, 5, 6, 7, 8, 9, 10, 11], [11]), ([12, 13, 0, 1, 2, 3, 4, 5, 6, 7, 8, 9, 10, 11, 12, 13], [12])])
def warderlaw21_PrincsKnown.B6 : List Nat := [0, 0, 3, 0, 0, 24, 56, 127, 0, 511, 1023, 2047, 2047, 4095, 16383]
theorem warderlaw21_PrincsKnown.tab6 : rtab .any (opsOf Try.f7 6) = warderlaw21_PrincsKnown.T6 := by kernel_rfl
theorem warderlaw21_PrincsKnown.bits6 : waitsOk warderlaw21_PrincsKnown.T6.2 warderlaw21_PrincsKnown.B6 = true := by kernel_rfl
set_option maxHeartbeats 8000000 in
set_option maxRecDepth 100000 in
theorem warderlaw21_PrincsKnown.calls (P0_ : Nat → Prop) (A0 : Option Addr) (c0 : Nat) (l0 : List (S45)) (a1_0 : ByteArray) (P1_1_ : Nat → Prop) (A1_1 : Option Addr) (c1_1 : Nat) (l1_1 : List ByteArray) (a2 : Int) (r : Bool) (w : World) (hs0 : Kd.V k45 45 w w.heap.size (fun k_ => P0_ k_) (.slice A0 l0.length c0) l0) (hs1_1 : Kd.V Kd.string 9 w w.heap.size (fun k_ => P1_1_ k_) (.slice A1_1 l1_1.length c1_1) l1_1) (hrt : r = true) (h : warderlaw21_PrincsKnown.f l0 a1_0 l1_1 a2 = some r) :
    Calls Try.prog 7 #[.slice A0 l0.length c0, .agg #[.string a1_0, .slice A1_1 l1_1.length c1_1], .int .i64 a2] w fun e w' => e = .returned (.bool r) ∧ Below w.heap.size w w' := by
  have hu43 := Try.underlying43
  have hu45 := Try.underlying45
  have HO0 := Aside0.mk (show Kd.V k45 45 w w.heap.size (fun k_ => ((P0_ k_ ∨ P1_1_ k_) ∨ w.heap.size ≤ k_)) (.slice A0 l0.length c0) l0 from Kd.V_mono hs0 (fun k_ hk => .inl (.inl hk)))
  have HO1_1 := Aside0.mk (show Kd.V Kd.string 9 w w.heap.size (fun k_ => ((P0_ k_ ∨ P1_1_ k_) ∨ w.heap.size ≤ k_)) (.slice A1_1 l1_1.length c1_1) l1_1 from Kd.V_mono hs1_1 (fun k_ hk => .inl (.inr hk)))
  have HB := Aside0.mk (Below.refl w.heap.size w)
  have H : ((warderlaw21_head.f).bind fun t119 => (if (l0.length : Int) > 500 then (some t119) else ((some (([(⟨(⟨a1_0, l1_1⟩ : S43), a2⟩ : S45)] : List (S45)) : List (S45))).bind fun y120 => (if y120.length + l0.length < 2932031007402 then ((princs_Lookup.f (y120 ++ l0) a1_0 l1_1).bind fun bt126 => ((some (([] : List (S45)) : List (S45))).bind fun y128 => (if y128.length + l0.length < 2932031007402 then ((some (y128 ++ l0 : List (S45))).bind fun y131 => ((some (([(⟨(⟨a1_0, l1_1⟩ : S43), a2⟩ : S45)] : List (S45)) : List (S45))).bind fun y134 => (if y131.length + y134.length < 2932031007402 then ((princs_Lookup.f (y131 ++ y134) a1_0 l1_1).bind fun bt140 => ((princs_Lookup.f l0 a1_0 l1_1).bind fun bt142 => ((princs_Lookup.f ([] : List (S45)) a1_0 l1_1).bind fun bt144 => (if t119 = true then (if bt126.2 = true then (if bt126.1 = a2 then (if bt140.2 = true then (if bt144.2 = true then (some false) else (if bt142.2 = true then (if bt140.1 = bt142.1 then (some true) else (some false)) else (if bt140.1 = a2 then (some (bt142.1 == (-1))) else (some false)))) else (some false)) else (some false)) else (some false)) else (some false))))) else (none)))) else (none)))) else (none))))) = some r := h
  clear h
  replace H := Option.bind_eq_some_iff.mp H
  obtain ⟨t119, A40, H⟩ := H
  replace H : (if (l0.length : Int) > 500 then (some t119) else ((some (([(⟨(⟨a1_0, l1_1⟩ : S43), a2⟩ : S45)] : List (S45)) : List (S45))).bind fun y120 => (if y120.length + l0.length < 2932031007402 then ((princs_Lookup.f (y120 ++ l0) a1_0 l1_1).bind fun bt126 => ((some (([] : List (S45)) : List (S45))).bind fun y128 => (if y128.length + l0.length < 2932031007402 then ((some (y128 ++ l0 : List (S45))).bind fun y131 => ((some (([(⟨(⟨a1_0, l1_1⟩ : S43), a2⟩ : S45)] : List (S45)) : List (S45))).bind fun y134 => (if y131.length + y134.length < 2932031007402 then ((princs_Lookup.f (y131 ++ y134) a1_0 l1_1).bind fun bt140 => ((princs_Lookup.f l0 a1_0 l1_1).bind fun bt142 => ((princs_Lookup.f ([] : List (S45)) a1_0 l1_1).bind fun bt144 => (if t119 = true then (if bt126.2 = true then (if bt126.1 = a2 then (if bt140.2 = true then (if bt144.2 = true then (some false) else (if bt142.2 = true then (if bt140.1 = bt142.1 then (some true) else (some false)) else (if bt140.1 = a2 then (some (bt142.1 == (-1))) else (some false)))) else (some false)) else (some false)) else (some false)) else (some false))))) else (none)))) else (none)))) else (none)))) = some r := H
  have A4 := Aside0.mk A40
  clear A40
  by_cases c5 : (l0.length : Int) > 500
  · rw [if_pos c5] at H
    have c5b0 : decide (500 < (l0.length : Int)) = true := decide_eq_true c5
    have c5b1 : decide (500 < l0.length) = true := decide_eq_true (by omega)
    clear c5
    obtain rfl := Option.some.inj H
    go_enter Try.func7, Try.ntmps7
    go_wp2_with (first | ((with_reducible refine gate_dst (N := 4) rfl ?_); refine box_event ?hg (N := 4) ?hd (cs := #[.string a1_0, .slice A1_1 l1_1.length c1_1]) (t := 43) ?hr ?_; (case hd => rfl); (case hg => rfl); (case hr => first | (go_simp; done) | (go_simp; rfl)); intro gb118 hg w6 hbox hb; have n0_ := Aside0.mk (Kd.V_below (Kd.V_elderB (by (with_reducible repeat (first | apply Kd.V_alloc | apply Kd.V_drewN | apply Kd.V_drew)); exact HO0.out) gb118 (Nat.le_of_eq hg.symm)) hb); have n1_ := Aside0.mk (Kd.V_below (Kd.V_elderB (by (with_reducible repeat (first | apply Kd.V_alloc | apply Kd.V_drewN | apply Kd.V_drew)); exact HO1_1.out) gb118 (Nat.le_of_eq hg.symm)) hb); have n2_ := Aside0.mk (below_step (by repeat (first | (with_reducible first | exact HB.out | apply below_alloc | apply pw_below_drewN | apply below_drew1) | exact HB.out)) hb); have n3_ := Aside0.mk (hbox); have n4_ := Aside0.mk ((by rw [hg]; exact (below_size (by repeat (first | (with_reducible first | exact HB.out | apply below_alloc | apply pw_below_drewN | apply below_drew1) | exact HB.out))) : w.heap.size ≤ gb118)); have n5_ := Aside0.mk ((by rw [hg]; exact (below_size (by repeat (first | (with_reducible first | exact HB.out | apply below_alloc | apply pw_below_drewN | apply below_drew1) | exact HB.out))) : w.heap.size ≤ gb118)); clear HO0; clear HO1_1; clear HB; have HO0 := n0_; have HO1_1 := n1_; have HB := n2_; have BK118 := n3_; have GW118 := n4_; have GE118 := n5_; clear n0_ n1_ n2_ n3_ n4_ n5_; clear hb hbox hg) | ((with_reducible refine gate_callee (f := 18) rfl ?_); refine goesL_ (some 17) rfl rfl Try.func18 (by kernel_rfl) rfl #[] rfl (by (try simp only [List.map_toArray, List.map_cons, List.map_nil]); first | done | rfl | (simp only [List.length_drop, List.length_take]; rfl)) ?_; (with_reducible refine (warderlaw21_head.calls  t119 _ A4.out).mono ?_); rintro e w7 ⟨rfl, hb⟩; refine ⟨_, rfl, ?_⟩; have n0_ := Aside0.mk (Kd.V_below (by (with_reducible repeat (first | apply Kd.V_alloc | apply Kd.V_drewN | apply Kd.V_drew)); exact HO0.out) hb); have n1_ := Aside0.mk (Kd.V_below (by (with_reducible repeat (first | apply Kd.V_alloc | apply Kd.V_drewN | apply Kd.V_drew)); exact HO1_1.out) hb); have n2_ := Aside0.mk (blk_below (g := gb118) (o := .cells #[.string a1_0, .slice A1_1 l1_1.length c1_1] 43 (0, 0)) (by (with_reducible repeat (first | refine blk_drewN ?_ _ | refine blk_drew ?_ | refine blk_alloc ?_ _)); exact BK118.out) hb); have n3_ := Aside0.mk (below_step (by repeat (first | (with_reducible first | exact HB.out | apply below_alloc | apply pw_below_drewN | apply below_drew1 | refine below_set ?_ GE118.out) | exact HB.out)) hb); clear HO0; clear HO1_1; clear BK118; clear HB; have HO0 := n0_; have HO1_1 := n1_; have BK118 := n2_; have HB := n3_; clear n0_ n1_ n2_ n3_; (try clear hb); (try clear hb2); (try clear hk); (try clear hi)))
    go_ret
    exact ⟨by first | rfl | (simp [errW_none, errW_some] <;> rfl) | (simp [*, errW_none, errW_some] <;> rfl), by repeat (first | (with_reducible first | exact HB.out | apply below_alloc | apply pw_below_drewN | apply below_drew1 | refine below_set ?_ GE118.out) | exact HB.out)⟩
  · rw [if_neg c5] at H
    have c5b0 : decide (500 < (l0.length : Int)) = false := decide_eq_false c5
    have c5b1 : decide (500 < l0.length) = false := decide_eq_false (by omega)
    clear c5
    obtain ⟨y120, hy120⟩ : ∃ y_ : List (S45), y_ = (([(⟨(⟨a1_0, l1_1⟩ : S43), a2⟩ : S45)] : List (S45))) := ⟨_, rfl⟩
    replace H : (if y120.length + l0.length < 2932031007402 then ((princs_Lookup.f (y120 ++ l0) a1_0 l1_1).bind fun bt126 => ((some (([] : List (S45)) : List (S45))).bind fun y128 => (if y128.length + l0.length < 2932031007402 then ((some (y128 ++ l0 : List (S45))).bind fun y131 => ((some (([(⟨(⟨a1_0, l1_1⟩ : S43), a2⟩ : S45)] : List (S45)) : List (S45))).bind fun y134 => (if y131.length + y134.length < 2932031007402 then ((princs_Lookup.f (y131 ++ y134) a1_0 l1_1).bind fun bt140 => ((princs_Lookup.f l0 a1_0 l1_1).bind fun bt142 => ((princs_Lookup.f ([] : List (S45)) a1_0 l1_1).bind fun bt144 => (if t119 = true then (if bt126.2 = true then (if bt126.1 = a2 then (if bt140.2 = true then (if bt144.2 = true then (some false) else (if bt142.2 = true then (if bt140.1 = bt142.1 then (some true) else (some false)) else (if bt140.1 = a2 then (some (bt142.1 == (-1))) else (some false)))) else (some false)) else (some false)) else (some false)) else (some false))))) else (none)))) else (none)))) else (none)) = some r := by first | (rw [hy120]; with_reducible exact H) | (have H2_ := (Option.bind_some _ _).symm.trans H; rw [hy120]; with_reducible exact H2_) | (have H2_ := (Option.bind_some _ _).symm.trans H; with_reducible exact H2_) | with_reducible exact H | (rw [hy120]; exact H) | exact H
    have Ny120 := Aside0.mk hy120
    clear hy120
    by_cases c8 : y120.length + l0.length < 2932031007402
    · rw [if_pos c8] at H
      have LMc8 := Aside0.mk c8
      clear c8
      obtain ⟨y123, hy123⟩ : ∃ y_ : List (S45), y_ = (y120 ++ l0) := ⟨_, rfl⟩
      replace H : ((princs_Lookup.f y123 a1_0 l1_1).bind fun bt126 => ((some (([] : List (S45)) : List (S45))).bind fun y128 => (if y128.length + l0.length < 2932031007402 then ((some (y128 ++ l0 : List (S45))).bind fun y131 => ((some (([(⟨(⟨a1_0, l1_1⟩ : S43), a2⟩ : S45)] : List (S45)) : List (S45))).bind fun y134 => (if y131.length + y134.length < 2932031007402 then ((princs_Lookup.f (y131 ++ y134) a1_0 l1_1).bind fun bt140 => ((princs_Lookup.f l0 a1_0 l1_1).bind fun bt142 => ((princs_Lookup.f ([] : List (S45)) a1_0 l1_1).bind fun bt144 => (if t119 = true then (if bt126.2 = true then (if bt126.1 = a2 then (if bt140.2 = true then (if bt144.2 = true then (some false) else (if bt142.2 = true then (if bt140.1 = bt142.1 then (some true) else (some false)) else (if bt140.1 = a2 then (some (bt142.1 == (-1))) else (some false)))) else (some false)) else (some false)) else (some false)) else (some false))))) else (none)))) else (none)))) = some r := by first | (rw [hy123]; with_reducible exact H) | (have H2_ := (Option.bind_some _ _).symm.trans H; rw [hy123]; with_reducible exact H2_) | (have H2_ := (Option.bind_some _ _).symm.trans H; with_reducible exact H2_) | with_reducible exact H | (rw [hy123]; exact H) | exact H
      have Ny123 := Aside0.mk hy123
      clear hy123
      replace H := Option.bind_eq_some_iff.mp H
      obtain ⟨⟨t126, t127⟩, A90, H⟩ := H
      replace H : ((some (([] : List (S45)) : List (S45))).bind fun y128 => (if y128.length + l0.length < 2932031007402 then ((some (y128 ++ l0 : List (S45))).bind fun y131 => ((some (([(⟨(⟨a1_0, l1_1⟩ : S43), a2⟩ : S45)] : List (S45)) : List (S45))).bind fun y134 => (if y131.length + y134.length < 2932031007402 then ((princs_Lookup.f (y131 ++ y134) a1_0 l1_1).bind fun bt140 => ((princs_Lookup.f l0 a1_0 l1_1).bind fun bt142 => ((princs_Lookup.f ([] : List (S45)) a1_0 l1_1).bind fun bt144 => (if t119 = true then (if t127 = true then (if t126 = a2 then (if bt140.2 = true then (if bt144.2 = true then (some false) else (if bt142.2 = true then (if bt140.1 = bt142.1 then (some true) else (some false)) else (if bt140.1 = a2 then (some (bt142.1 == (-1))) else (some false)))) else (some false)) else (some false)) else (some false)) else (some false))))) else (none)))) else (none))) = some r := H
      have A9 := Aside0.mk A90
      clear A90
      obtain ⟨y128, hy128⟩ : ∃ y_ : List (S45), y_ = (([] : List (S45))) := ⟨_, rfl⟩
      replace H : (if y128.length + l0.length < 2932031007402 then ((some (y128 ++ l0 : List (S45))).bind fun y131 => ((some (([(⟨(⟨a1_0, l1_1⟩ : S43), a2⟩ : S45)] : List (S45)) : List (S45))).bind fun y134 => (if y131.length + y134.length < 2932031007402 then ((princs_Lookup.f (y131 ++ y134) a1_0 l1_1).bind fun bt140 => ((princs_Lookup.f l0 a1_0 l1_1).bind fun bt142 => ((princs_Lookup.f ([] : List (S45)) a1_0 l1_1).bind fun bt144 => (if t119 = true then (if t127 = true then (if t126 = a2 then (if bt140.2 = true then (if bt144.2 = true then (some false) else (if bt142.2 = true then (if bt140.1 = bt142.1 then (some true) else (some false)) else (if bt140.1 = a2 then (some (bt142.1 == (-1))) else (some false)))) else (some false)) else (some false)) else (some false)) else (some false))))) else (none)))) else (none)) = some r := by first | (rw [hy128]; with_reducible exact H) | (have H2_ := (Option.bind_some _ _).symm.trans H; rw [hy128]; with_reducible exact H2_) | (have H2_ := (Option.bind_some _ _).symm.trans H; with_reducible exact H2_) | with_reducible exact H | (rw [hy128]; exact H) | exact H
      have Ny128 := Aside0.mk hy128
      clear hy128
      by_cases c10 : y128.length + l0.length < 2932031007402
      · rw [if_pos c10] at H
        have LMc10 := Aside0.mk c10
        clear c10
        obtain ⟨y131, hy131⟩ : ∃ y_ : List (S45), y_ = (y128 ++ l0) := ⟨_, rfl⟩
        replace H : ((some (([(⟨(⟨a1_0, l1_1⟩ : S43), a2⟩ : S45)] : List (S45)) : List (S45))).bind fun y134 => (if y131.length + y134.length < 2932031007402 then ((princs_Lookup.f (y131 ++ y134) a1_0 l1_1).bind fun bt140 => ((princs_Lookup.f l0 a1_0 l1_1).bind fun bt142 => ((princs_Lookup.f ([] : List (S45)) a1_0 l1_1).bind fun bt144 => (if t119 = true then (if t127 = true then (if t126 = a2 then (if bt140.2 = true then (if bt144.2 = true then (some false) else (if bt142.2 = true then (if bt140.1 = bt142.1 then (some true) else (some false)) else (if bt140.1 = a2 then (some (bt142.1 == (-1))) else (some false)))) else (some false)) else (some false)) else (some false)) else (some false))))) else (none))) = some r := by first | (rw [hy131]; with_reducible exact H) | (have H2_ := (Option.bind_some _ _).symm.trans H; rw [hy131]; with_reducible exact H2_) | (have H2_ := (Option.bind_some _ _).symm.trans H; with_reducible exact H2_) | with_reducible exact H | (rw [hy131]; exact H) | exact H
        have Ny131 := Aside0.mk hy131
        clear hy131
        obtain ⟨y134, hy134⟩ : ∃ y_ : List (S45), y_ = (([(⟨(⟨a1_0, l1_1⟩ : S43), a2⟩ : S45)] : List (S45))) := ⟨_, rfl⟩
        replace H : (if y131.length + y134.length < 2932031007402 then ((princs_Lookup.f (y131 ++ y134) a1_0 l1_1).bind fun bt140 => ((princs_Lookup.f l0 a1_0 l1_1).bind fun bt142 => ((princs_Lookup.f ([] : List (S45)) a1_0 l1_1).bind fun bt144 => (if t119 = true then (if t127 = true then (if t126 = a2 then (if bt140.2 = true then (if bt144.2 = true then (some false) else (if bt142.2 = true then (if bt140.1 = bt142.1 then (some true) else (some false)) else (if bt140.1 = a2 then (some (bt142.1 == (-1))) else (some false)))) else (some false)) else (some false)) else (some false)) else (some false))))) else (none)) = some r := by first | (rw [hy134]; with_reducible exact H) | (have H2_ := (Option.bind_some _ _).symm.trans H; rw [hy134]; with_reducible exact H2_) | (have H2_ := (Option.bind_some _ _).symm.trans H; with_reducible exact H2_) | with_reducible exact H | (rw [hy134]; exact H) | exact H
        have Ny134 := Aside0.mk hy134
        clear hy134
        by_cases c11 : y131.length + y134.length < 2932031007402
        · rw [if_pos c11] at H
          have LMc11 := Aside0.mk c11
          clear c11
          obtain ⟨y137, hy137⟩ : ∃ y_ : List (S45), y_ = (y131 ++ y134) := ⟨_, rfl⟩
          replace H : ((princs_Lookup.f y137 a1_0 l1_1).bind fun bt140 => ((princs_Lookup.f l0 a1_0 l1_1).bind fun bt142 => ((princs_Lookup.f ([] : List (S45)) a1_0 l1_1).bind fun bt144 => (if t119 = true then (if t127 = true then (if t126 = a2 then (if bt140.2 = true then (if bt144.2 = true then (some false) else (if bt142.2 = true then (if bt140.1 = bt142.1 then (some true) else (some false)) else (if bt140.1 = a2 then (some (bt142.1 == (-1))) else (some false)))) else (some false)) else (some false)) else (some false)) else (some false))))) = some r := by first | (rw [hy137]; with_reducible exact H) | (have H2_ := (Option.bind_some _ _).symm.trans H; rw [hy137]; with_reducible exact H2_) | (have H2_ := (Option.bind_some _ _).symm.trans H; with_reducible exact H2_) | with_reducible exact H | (rw [hy137]; exact H) | exact H
          have Ny137 := Aside0.mk hy137
          clear hy137
          replace H := Option.bind_eq_some_iff.mp H
          obtain ⟨⟨t140, t141⟩, A120, H⟩ := H
          replace H : ((princs_Lookup.f l0 a1_0 l1_1).bind fun bt142 => ((princs_Lookup.f ([] : List (S45)) a1_0 l1_1).bind fun bt144 => (if t119 = true then (if t127 = true then (if t126 = a2 then (if t141 = true then (if bt144.2 = true then (some false) else (if bt142.2 = true then (if t140 = bt142.1 then (some true) else (some false)) else (if t140 = a2 then (some (bt142.1 == (-1))) else (some false)))) else (some false)) else (some false)) else (some false)) else (some false)))) = some r := H
          have A12 := Aside0.mk A120
          clear A120
          replace H := Option.bind_eq_some_iff.mp H
          obtain ⟨⟨t142, t143⟩, A130, H⟩ := H
          replace H : ((princs_Lookup.f ([] : List (S45)) a1_0 l1_1).bind fun bt144 => (if t119 = true then (if t127 = true then (if t126 = a2 then (if t141 = true then (if bt144.2 = true then (some false) else (if t143 = true then (if t140 = t142 then (some true) else (some false)) else (if t140 = a2 then (some (t142 == (-1))) else (some false)))) else (some false)) else (some false)) else (some false)) else (some false))) = some r := H
          have A13 := Aside0.mk A130
          clear A130
          replace H := Option.bind_eq_some_iff.mp H
          obtain ⟨⟨t144, t145⟩, A140, H⟩ := H
          replace H : (if t119 = true then (if t127 = true then (if t126 = a2 then (if t141 = true then (if t145 = true then (some false) else (if t143 = true then (if t140 = t142 then (some true) else (some false)) else (if t140 = a2 then (some (t142 == (-1))) else (some false)))) else (some false)) else (some false)) else (some false)) else (some false)) = some r := H
          have A14 := Aside0.mk A140
          clear A140
          by_cases c15 : t119 = true
          · subst c15
            have H1 : (if t127 = true then (if t126 = a2 then (if t141 = true then (if t145 = true then (some false) else (if t143 = true then (if t140 = t142 then (some true) else (some false)) else (if t140 = a2 then (some (t142 == (-1))) else (some false)))) else (some false)) else (some false)) else (some false)) = some r := by rw [if_pos rfl] at H; exact H
            clear H
            have H := H1
            clear H1
            by_cases c16 : t127 = true
            · subst c16
              have H1 : (if t126 = a2 then (if t141 = true then (if t145 = true then (some false) else (if t143 = true then (if t140 = t142 then (some true) else (some false)) else (if t140 = a2 then (some (t142 == (-1))) else (some false)))) else (some false)) else (some false)) = some r := by rw [if_pos rfl] at H; exact H
              clear H
              have H := H1
              clear H1
              by_cases c17 : t126 = a2
              · rw [if_pos c17] at H
                have c17b0 : (t126 == a2) = true := beq_iff_eq.mpr c17
                have c17b1 : (t126 != a2) = false := bne_eq_false_iff_eq.mpr c17
                clear c17
                by_cases c18 : t141 = true
                · subst c18
                  have H1 : (if t145 = true then (some false) else (if t143 = true then (if t140 = t142 then (some true) else (some false)) else (if t140 = a2 then (some (t142 == (-1))) else (some false)))) = some r := by rw [if_pos rfl] at H; exact H
                  clear H
                  have H := H1
                  clear H1
                  by_cases c19 : t145 = true
                  · subst c19
                    have H1 : (some false) = some r := by rw [if_pos rfl] at H; exact H
                    clear H
                    have H := H1
                    clear H1
                    exact absurd ((Option.some.inj H).trans hrt) (by decide)
                  · replace c19 := Bool.eq_false_iff.mpr c19
                    subst c19
                    have H1 : (if t143 = true then (if t140 = t142 then (some true) else (some false)) else (if t140 = a2 then (some (t142 == (-1))) else (some false))) = some r := by rw [if_neg (show ¬ (false = true) by decide)] at H; exact H
                    clear H
                    have H := H1
                    clear H1
                    by_cases c44 : t143 = true
                    · subst c44
                      have H1 : (if t140 = t142 then (some true) else (some false)) = some r := by rw [if_pos rfl] at H; exact H
                      clear H
                      have H := H1
                      clear H1
                      by_cases c45 : t140 = t142
                      · rw [if_pos c45] at H
                        have c45b0 : (t140 == t142) = true := beq_iff_eq.mpr c45
                        have c45b1 : (t140 != t142) = false := bne_eq_false_iff_eq.mpr c45
                        clear c45
                        obtain rfl := Option.some.inj H
                        go_enter Try.func7, Try.ntmps7
                        try go_wp2_with (first | ((with_reducible refine gate_dst (N := 4) rfl ?_); refine box_event ?hg (N := 4) ?hd (cs := #[.string a1_0, .slice A1_1 l1_1.length c1_1]) (t := 43) ?hr ?_; (case hd => rfl); (case hg => rfl); (case hr => first | (go_simp; done) | (go_simp; rfl)); intro gb118 hg w46 hbox hb; have n0_ := Aside0.mk (Kd.V_below (Kd.V_elderB (by (with_reducible repeat (first | apply Kd.V_alloc | apply Kd.V_drewN | apply Kd.V_drew)); exact HO0.out) gb118 (Nat.le_of_eq hg.symm)) hb); have n1_ := Aside0.mk (Kd.V_below (Kd.V_elderB (by (with_reducible repeat (first | apply Kd.V_alloc | apply Kd.V_drewN | apply Kd.V_drew)); exact HO1_1.out) gb118 (Nat.le_of_eq hg.symm)) hb); have n2_ := Aside0.mk (below_step (by repeat (first | (with_reducible first | exact HB.out | apply below_alloc | apply pw_below_drewN | apply below_drew1) | exact HB.out)) hb); have n3_ := Aside0.mk (hbox); have n4_ := Aside0.mk ((by rw [hg]; exact (below_size (by repeat (first | (with_reducible first | exact HB.out | apply below_alloc | apply pw_below_drewN | apply below_drew1) | exact HB.out))) : w.heap.size ≤ gb118)); have n5_ := Aside0.mk ((by rw [hg]; exact (below_size (by repeat (first | (with_reducible first | exact HB.out | apply below_alloc | apply pw_below_drewN | apply below_drew1) | exact HB.out))) : w.heap.size ≤ gb118)); clear HO0; clear HO1_1; clear HB; have HO0 := n0_; have HO1_1 := n1_; have HB := n2_; have BK118 := n3_; have GW118 := n4_; have GE118 := n5_; clear n0_ n1_ n2_ n3_ n4_ n5_; clear hb hbox hg) | ((with_reducible refine gate_callee (f := 18) rfl ?_); refine goesL_ (some 17) rfl rfl Try.func18 (by kernel_rfl) rfl #[] rfl (by (try simp only [List.map_toArray, List.map_cons, List.map_nil]); first | done | rfl | (simp only [List.length_drop, List.length_take]; rfl)) ?_; (with_reducible refine (warderlaw21_head.calls  true _ A4.out).mono ?_); rintro e w47 ⟨rfl, hb⟩; refine ⟨_, rfl, ?_⟩; have n0_ := Aside0.mk (Kd.V_below (by (with_reducible repeat (first | apply Kd.V_alloc | apply Kd.V_drewN | apply Kd.V_drew)); exact HO0.out) hb); have n1_ := Aside0.mk (Kd.V_below (by (with_reducible repeat (first | apply Kd.V_alloc | apply Kd.V_drewN | apply Kd.V_drew)); exact HO1_1.out) hb); have n2_ := Aside0.mk (blk_below (g := gb118) (o := .cells #[.string a1_0, .slice A1_1 l1_1.length c1_1] 43 (0, 0)) (by (with_reducible repeat (first | refine blk_drewN ?_ _ | refine blk_drew ?_ | refine blk_alloc ?_ _)); exact BK118.out) hb); have n3_ := Aside0.mk (below_step (by repeat (first | (with_reducible first | exact HB.out | apply below_alloc | apply pw_below_drewN | apply below_drew1 | refine below_set ?_ GE118.out) | exact HB.out)) hb); clear HO0; clear HO1_1; clear BK118; clear HB; have HO0 := n0_; have HO1_1 := n1_; have BK118 := n2_; have HB := n3_; clear n0_ n1_ n2_ n3_; (try clear hb); (try clear hb2); (try clear hk); (try clear hi); have hcz48_0 : w47.cell? ⟨gb118, 0, none⟩ = some (.string a1_0) := (blk_cell BK118.out 0).trans rfl; have hcz48_1 : w47.cell? ⟨gb118, 1, none⟩ = some (.slice A1_1 l1_1.length c1_1) := (blk_cell BK118.out 1).trans rfl; have hfz48_0 := blk_frozen BK118.out 0; have hfz48_1 := blk_frozen BK118.out 1) | ((with_reducible refine gate_dst (N := 25) rfl ?_); refine Kd.N_lit k45 _ 45 ?hg (N' := 25) ?hd (xs := ([(⟨(⟨a1_0, l1_1⟩ : S43), a2⟩ : S45)] : List (S45))) (inner := [.string a1_0, .slice A1_1 l1_1.length c1_1, .int .i64 a2]) (ok := (fun k_ => ((P0_ k_ ∨ P1_1_ k_) ∨ w.heap.size ≤ k_) ∧ k_ ≠ gb118)) (okp := (fun k_ => ((P0_ k_ ∨ P1_1_ k_) ∨ w.heap.size ≤ k_) ∧ k_ ≠ gb118)) ?hr ?hp (fun _ hk => hk) ((show ∀ k_, w47.heap.size ≤ k_ → (fun k_ => ((P0_ k_ ∨ P1_1_ k_) ∨ w.heap.size ≤ k_) ∧ k_ ≠ gb118) k_ from fun k_ hk => ⟨(.inr (Nat.le_trans (below_size (by repeat (first | (with_reducible first | exact HB.out | apply below_alloc | apply pw_below_drewN | apply below_drew1 | refine below_set ?_ GE118.out) | exact HB.out))) hk)), Kd.freshB (g := gb118) (o := .cells #[.string a1_0, .slice A1_1 l1_1.length c1_1] 43 (0, 0)) (by (with_reducible repeat (first | refine blk_drewN ?_ _ | refine blk_drew ?_ | refine blk_alloc ?_ _)); exact BK118.out) k_ hk⟩) _ (Nat.le_refl _)) (Below.refl _ _) (Nat.le_refl _) (by simp) ?_; (case hd => rfl); (case hg => rfl); (case hr => first | (go_simp; done) | (go_simp; rfl)); (case hp => exact (Reps.c3 (show Kd.FK k45 _ _ (⟨(⟨a1_0, l1_1⟩ : S43), a2⟩ : S45) [.string a1_0, .slice A1_1 l1_1.length c1_1, .int .i64 a2] from (k45_mkF _ _ (⟨(⟨a1_0, l1_1⟩ : S43), a2⟩ : S45) (Kd.V_reads' (Kd.V_mono (ok' := (fun k_ => ((P0_ k_ ∨ P1_1_ k_) ∨ w.heap.size ≤ k_) ∧ k_ ≠ gb118)) (HO1_1.out) (fun k_ hk => ⟨hk.1, hk.2⟩))).2.1 (Kd.V_F (Kd.V_mono (ok' := (fun k_ => ((P0_ k_ ∨ P1_1_ k_) ∨ w.heap.size ≤ k_) ∧ k_ ≠ gb118)) (HO1_1.out) (fun k_ hk => ⟨hk.1, hk.2⟩))))) (Reps.none _ _))); intro v121 w49 ho50 hb hg_ hnew_; clear hg_ hnew_; (first | rw [← Ny120.out] at ho50 | (simp only [Int.reduceToNat] at ho50; rw [← Ny120.out] at ho50)); have n0_ := Aside0.mk (Kd.V_elder' (by (with_reducible repeat (first | apply Kd.V_alloc | apply Kd.V_drewN | apply Kd.V_drew)); exact HO0.out) (Kd.N_base ho50) hb); have n1_ := Aside0.mk (Kd.V_elder' (by (with_reducible repeat (first | apply Kd.V_alloc | apply Kd.V_drewN | apply Kd.V_drew)); exact HO1_1.out) (Kd.N_base ho50) hb); have n2_ := Aside0.mk (Kd.N_lower ho50 (below_size (by repeat (first | (with_reducible first | exact HB.out | apply below_alloc | apply pw_below_drewN | apply below_drew1 | refine below_set ?_ GE118.out) | exact HB.out)))); have n3_ := Aside0.mk (blk_below (g := gb118) (o := .cells #[.string a1_0, .slice A1_1 l1_1.length c1_1] 43 (0, 0)) (by (with_reducible repeat (first | refine blk_drewN ?_ _ | refine blk_drew ?_ | refine blk_alloc ?_ _)); exact BK118.out) hb); have n4_ := Aside0.mk (below_step (by repeat (first | (with_reducible first | exact HB.out | apply below_alloc | apply pw_below_drewN | apply below_drew1 | refine below_set ?_ GE118.out) | exact HB.out)) hb); clear HO0; clear HO1_1; clear BK118; clear HB; have HO0 := n0_; have HO1_1 := n1_; have HO122 := n2_; have BK118 := n3_; have HB := n4_; clear n0_ n1_ n2_ n3_ n4_; clear hb ho50) | ((with_reducible refine gate_builtin (b := .append) (xs := #[.tmp 25, .tmp 26]) rfl ?_); at_builtin; refine Kd.N_append_rows k45 (w0 := w) w.heap.size rfl (.tmp 25) (.tmp 26) 40 45 (.agg #[(.string ⟨#[]⟩), (.slice none 0 0), (.int .i64 0)]) 48 rfl Try.underlying40 info45 rfl (by decide) (by omega) v121 y120 l0 _ _ _ (fun k_ => ((P0_ k_ ∨ P1_1_ k_) ∨ w.heap.size ≤ k_) ∧ k_ ≠ gb118) (fun k_ => ((fun k_ => ((P0_ k_ ∨ P1_1_ k_) ∨ w.heap.size ≤ k_) ∧ k_ ≠ gb118)) k_ ∧ some k_ ≠ (v121 : Value).ownBlock) rfl rfl ?aO ?aR (fun _ hk => hk) ?aF ?aB ?aS ?aL ?_; (case aR => exact (by skip; exact Kd.V_F (Kd.V_mono (ok' := (fun k_ => ((fun k_ => ((P0_ k_ ∨ P1_1_ k_) ∨ w.heap.size ≤ k_) ∧ k_ ≠ gb118)) k_ ∧ some k_ ≠ (v121 : Value).ownBlock)) (HO0.out) (fun k_ hk => ⟨⟨hk.1.1, hk.1.2⟩, hk.2⟩)))); (case aB => exact (by repeat (first | (with_reducible first | exact HB.out | apply below_alloc | apply pw_below_drewN | apply below_drew1 | refine below_set ?_ GE118.out) | exact HB.out))); (case aF => exact (fun k_ hk => ⟨(.inr (Nat.le_trans (below_size (by repeat (first | (with_reducible first | exact HB.out | apply below_alloc | apply pw_below_drewN | apply below_drew1 | refine below_set ?_ GE118.out) | exact HB.out))) hk)), Kd.freshB (g := gb118) (o := .cells #[.string a1_0, .slice A1_1 l1_1.length c1_1] 43 (0, 0)) (by (with_reducible repeat (first | refine blk_drewN ?_ _ | refine blk_drew ?_ | refine blk_alloc ?_ _)); exact BK118.out) k_ hk⟩)); (case aO => exact (by (with_reducible repeat (first | apply Kd.N_alloc | apply Kd.N_drewN | apply Kd.N_drew)); exact HO122.out)); (case aS => exact (below_size (by repeat (first | (with_reducible first | exact HB.out | apply below_alloc | apply pw_below_drewN | apply below_drew1 | refine below_set ?_ GE118.out) | exact HB.out)))); (case aL => have := LMc8.out; omega); intro v124 w51 ho hb hg hat; rw [← Ny123.out] at ho; have n0_ := Aside0.mk (Kd.V_afterv (ok := (fun k_ => ((P0_ k_ ∨ P1_1_ k_) ∨ w.heap.size ≤ k_) ∧ k_ ≠ gb118)) (by (with_reducible repeat (first | apply Kd.V_alloc | apply Kd.V_drewN | apply Kd.V_drew)); exact HO0.out) hg hat); have n1_ := Aside0.mk (Kd.V_afterv (ok := (fun k_ => ((P0_ k_ ∨ P1_1_ k_) ∨ w.heap.size ≤ k_) ∧ k_ ≠ gb118)) (by (with_reducible repeat (first | apply Kd.V_alloc | apply Kd.V_drewN | apply Kd.V_drew)); exact HO1_1.out) hg hat); have n2_ := Aside0.mk (blk_grown (g := gb118) (o := .cells #[.string a1_0, .slice A1_1 l1_1.length c1_1] 43 (0, 0)) (by (with_reducible repeat (first | refine blk_drewN ?_ _ | refine blk_drew ?_ | refine blk_alloc ?_ _)); exact BK118.out) hg (Kd.N_ne HO122.out BK118.out (by decide))); have n3_ := Aside0.mk (hb); have n4_ := Aside0.mk (ho); clear HO0; clear HO1_1; clear BK118; clear HB; clear HO122; have HO0 := n0_; have HO1_1 := n1_; have BK118 := n2_; have HB := n3_; have HO125 := n4_; clear n0_ n1_ n2_ n3_ n4_; clear ho hb hg hat; have hcz52_0 : w51.cell? ⟨gb118, 0, none⟩ = some (.string a1_0) := (blk_cell BK118.out 0).trans rfl; have hcz52_1 : w51.cell? ⟨gb118, 1, none⟩ = some (.slice A1_1 l1_1.length c1_1) := (blk_cell BK118.out 1).trans rfl; have hfz52_0 := blk_frozen BK118.out 0; have hfz52_1 := blk_frozen BK118.out 1; obtain ⟨Ao53, co53, eo53⟩ := Kd.N_slice HO125.out; subst eo53) | ((with_reducible refine gate_callee (f := 19) rfl ?_); refine goesL_ (some 31) rfl rfl Try.func19 (by kernel_rfl) rfl #[.slice Ao53 y123.length co53, .agg #[.string a1_0, .slice A1_1 l1_1.length c1_1]] rfl (by (try simp only [List.map_toArray, List.map_cons, List.map_nil]); first | done | rfl | (simp only [List.length_drop, List.length_take]; rfl)) ?_; (with_reducible refine (princs_Lookup.calls _ _ y123 a1_0 _ _ l1_1 t126 true _ ?side1 ?side2 ?side3 ?side4 A9.out).mono ?_); (case side1 => repeat (first | exact (Kd.N_reads' HO125.out).2.2 | (with_reducible refine Kd.C_alloc ?_ _) | (with_reducible refine Kd.C_drewN ?_ _) | (with_reducible refine Kd.C_drew ?_))); (case side2 => exact (Kd.N_reads' HO125.out).2.1); (case side3 => repeat (first | exact (Kd.V_reads' HO1_1.out).2.2 | (with_reducible refine Kd.C_alloc ?_ _) | (with_reducible refine Kd.C_drewN ?_ _) | (with_reducible refine Kd.C_drew ?_))); (case side4 => exact (Kd.V_reads' HO1_1.out).2.1); rintro e w54 ⟨rfl, hb⟩; refine ⟨_, rfl, ?_⟩; have n0_ := Aside0.mk (Kd.V_below (by (with_reducible repeat (first | apply Kd.V_alloc | apply Kd.V_drewN | apply Kd.V_drew)); exact HO0.out) hb); have n1_ := Aside0.mk (Kd.V_below (by (with_reducible repeat (first | apply Kd.V_alloc | apply Kd.V_drewN | apply Kd.V_drew)); exact HO1_1.out) hb); have n2_ := Aside0.mk (Kd.N_below (by (with_reducible repeat (first | apply Kd.N_alloc | apply Kd.N_drewN | apply Kd.N_drew)); exact HO125.out) hb); have n3_ := Aside0.mk (blk_below (g := gb118) (o := .cells #[.string a1_0, .slice A1_1 l1_1.length c1_1] 43 (0, 0)) (by (with_reducible repeat (first | refine blk_drewN ?_ _ | refine blk_drew ?_ | refine blk_alloc ?_ _)); exact BK118.out) hb); have n4_ := Aside0.mk (below_step (by repeat (first | (with_reducible first | exact HB.out | apply below_alloc | apply pw_below_drewN | apply below_drew1 | refine below_set ?_ GE118.out) | exact HB.out)) hb); clear HO0; clear HO1_1; clear HO125; clear BK118; clear HB; have HO0 := n0_; have HO1_1 := n1_; have HO125 := n2_; have BK118 := n3_; have HB := n4_; clear n0_ n1_ n2_ n3_ n4_; (try clear hb); (try clear hb2); (try clear hk); (try clear hi)))
                        have n0_ := Aside0.mk (Kd.V_drew HO0.out)
                        have n1_ := Aside0.mk (Kd.V_drew HO1_1.out)
                        have n2_ := Aside0.mk (Kd.N_drew HO125.out)
                        have n3_ := Aside0.mk (blk_drew BK118.out)
                        have n4_ := Aside0.mk (below_drew1 HB.out)
                        clear HO0
                        clear HO1_1
                        clear HO125
                        clear BK118
                        clear HB
                        have HO0 := n0_
                        have HO1_1 := n1_
                        have HO125 := n2_
                        have BK118 := n3_
                        have HB := n4_
                        clear n0_ n1_ n2_ n3_ n4_
                        refine start_ (n := 15) (S := fun w' => w'.cell? ⟨gb118, 0, none⟩ = some (.string a1_0) ∧ w'.cell? ⟨gb118, 1, none⟩ = some (.slice A1_1 l1_1.length c1_1)) (ds := []) #[false, false, false, false, false, false, false, false, false, false, false, false, false, false, false] (by kernel_rfl) rfl rfl ⟨(blk_cell BK118.out 0).trans rfl, (blk_cell BK118.out 1).trans rfl⟩ (fun hHeld => ?_); refine with_tabW warderlaw21_PrincsKnown.tab6 warderlaw21_PrincsKnown.bits6 (fun HT_ HW_ => ?_)
                        generalize w54.drew = w55 at HO0 HO1_1 HO125 BK118 HB hHeld ⊢
                        refine pure_ (i := 1) (N := some 36) (v := ?_) (a' := ?_) #[false, true, false, false, false, false, false, false, false, false, false, false, false, false, false] rfl rfl (any_of HT_.out (by kernel_rfl)) (fun _ _ _ h => h) (Or.inl ⟨by rfl, ?_⟩) ?_ ?_
                        rotate_left
                        · intro w'
                          go_simp
                          with_reducible rfl
                        rotate_left
                        · simp only [Act.put, List.setIfInBounds_toArray, List.set_cons_zero, List.set_cons_succ, i64_w, i32_w]
                          rfl
                        refine pure_ (i := 4) (N := some 39) (v := ?_) (a' := ?_) #[false, true, false, false, true, false, false, false, false, false, false, false, false, false, false] rfl rfl (any_of HT_.out (by kernel_rfl)) (fun _ _ _ h => h) (Or.inl ⟨by rfl, ?_⟩) ?_ ?_
                        rotate_left
                        · intro w'
                          go_simp
                          with_reducible rfl
                        rotate_left
                        · simp only [Act.put, List.setIfInBounds_toArray, List.set_cons_zero, List.set_cons_succ, i64_w, i32_w]
                          rfl
                        refine take_ (i := 3) (N := some 38) (v := ?_) (a' := ?_) #[false, true, false, true, true, false, false, false, false, false, false, false, false, false, false] rfl rfl (take_ofW HT_.out HW_.out (by kernel_rfl)) (fun _ _ _ h => h) (Or.inl ⟨by rfl, ?_⟩) hHeld ?_ ?_
                        rotate_left
                        · rintro w' ⟨s0, s1⟩
                          go_simp
                          with_reducible rfl
                        rotate_left
                        · simp only [Act.put, List.setIfInBounds_toArray, List.set_cons_zero, List.set_cons_succ, i64_w, i32_w]
                          rfl
                        refine pure_ (i := 5) (N := some 40) (v := ?_) (a' := ?_) #[false, true, false, true, true, true, false, false, false, false, false, false, false, false, false] rfl rfl (any_of HT_.out (by kernel_rfl)) (fun _ _ _ h => h) (Or.inl ⟨by rfl, ?_⟩) ?_ ?_
                        rotate_left
                        · intro w'
                          go_simp
                          with_reducible rfl
                        rotate_left
                        · simp only [Act.put, List.setIfInBounds_toArray, List.set_cons_zero, List.set_cons_succ, i64_w, i32_w]
                          rfl
                        refine take_ (i := 8) (N := some 43) (v := ?_) (a' := ?_) #[false, true, false, true, true, true, false, false, true, false, false, false, false, false, false] rfl rfl (take_ofW HT_.out HW_.out (by kernel_rfl)) (fun _ _ _ h => h) (Or.inl ⟨by rfl, ?_⟩) hHeld ?_ ?_
                        rotate_left
                        · rintro w' ⟨s0, s1⟩
                          go_simp
                          with_reducible rfl
                        rotate_left
                        · simp only [Act.put, List.setIfInBounds_toArray, List.set_cons_zero, List.set_cons_succ, i64_w, i32_w]
                          rfl
                        refine join_ (σ := Value × Value × Value) 7 #[true, true, true, true, true, true, true, false, true, false, false, false, false, false, false] (fun s_ => [(35, s_.1), (37, s_.2.1), (41, s_.2.2)]) (fun s_ w' => (w'.cell? ⟨gb118, 0, none⟩ = some (.string a1_0) ∧ w'.cell? ⟨gb118, 1, none⟩ = some (.slice A1_1 l1_1.length c1_1)) ∧ (Kd.V k45 45 w' w.heap.size (fun k_ => ((P0_ k_ ∨ P1_1_ k_) ∨ w.heap.size ≤ k_) ∧ some k_ ≠ (.slice Ao53 y123.length co53 : Value).ownBlock ∧ some k_ ≠ (s_.2.1 : Value).ownBlock ∧ some k_ ≠ (s_.2.2 : Value).ownBlock ∧ k_ ≠ gb118) (.slice A0 l0.length c0) l0) ∧ (Kd.N k45 45 w' w.heap.size (fun k_ => ((P0_ k_ ∨ P1_1_ k_) ∨ w.heap.size ≤ k_) ∧ some k_ ≠ (s_.2.1 : Value).ownBlock ∧ some k_ ≠ (s_.2.2 : Value).ownBlock ∧ k_ ≠ gb118) (.slice Ao53 y123.length co53) y123) ∧ (Kd.N k45 45 w' w.heap.size (fun k_ => ((P0_ k_ ∨ P1_1_ k_) ∨ w.heap.size ≤ k_) ∧ some k_ ≠ (.slice Ao53 y123.length co53 : Value).ownBlock ∧ some k_ ≠ (s_.2.2 : Value).ownBlock ∧ k_ ≠ gb118) s_.2.1 y131) ∧ (Kd.N k45 45 w' w.heap.size (fun k_ => ((P0_ k_ ∨ P1_1_ k_) ∨ w.heap.size ≤ k_) ∧ some k_ ≠ (.slice Ao53 y123.length co53 : Value).ownBlock ∧ some k_ ≠ (s_.2.1 : Value).ownBlock ∧ k_ ≠ gb118) s_.2.2 y134) ∧ (Kd.V Kd.string 9 w' w.heap.size (fun k_ => ((P0_ k_ ∨ P1_1_ k_) ∨ w.heap.size ≤ k_) ∧ some k_ ≠ (.slice Ao53 y123.length co53 : Value).ownBlock ∧ some k_ ≠ (s_.2.1 : Value).ownBlock ∧ some k_ ≠ (s_.2.2 : Value).ownBlock ∧ k_ ≠ gb118) (.slice A1_1 l1_1.length c1_1) l1_1) ∧ (w'.heap[gb118]? = some (.cells #[.string a1_0, .slice A1_1 l1_1.length c1_1] 43 (0, 0))) ∧ (Below w.heap.size w w')) ?_ ?_
                        rotate_left
                        · intro hCont
                          refine two_ (i := 0) (j := 6) (Ni := some 35) (Nj := some 41) #[true, true, false, true, true, true, false, false, true, false, false, false, false, false, false] #[false, true, false, true, true, true, true, false, true, false, false, false, false, false, false] rfl rfl rfl rfl (two_of HT_.out (by kernel_rfl)) (by decide) (by decide) (fun K hK => ?_) (fun K hK => ?_)
                          · skip
                            refine Kd.N_lit_step k45 _ 45 ?hg (N' := 35) ?hd (xs := ([] : List (S45))) (inner := []) (ok := (fun k_ => ((P0_ k_ ∨ P1_1_ k_) ∨ w.heap.size ≤ k_) ∧ some k_ ≠ (.slice Ao53 y123.length co53 : Value).ownBlock ∧ k_ ≠ gb118)) (okp := (fun k_ => ((P0_ k_ ∨ P1_1_ k_) ∨ w.heap.size ≤ k_) ∧ some k_ ≠ (.slice Ao53 y123.length co53 : Value).ownBlock ∧ k_ ≠ gb118)) ?hr ?hp (fun _ hk => hk) ((show ∀ k_, w55.heap.size ≤ k_ → (fun k_ => ((P0_ k_ ∨ P1_1_ k_) ∨ w.heap.size ≤ k_) ∧ some k_ ≠ (.slice Ao53 y123.length co53 : Value).ownBlock ∧ k_ ≠ gb118) k_ from fun k_ hk => ⟨(.inr (Nat.le_trans (below_size (by repeat (first | (with_reducible first | exact HB.out | apply below_alloc | apply pw_below_drewN | apply below_drew1 | refine below_set ?_ GE118.out) | exact HB.out))) hk)), Kd.fresh' (Kd.N_lt (by (with_reducible repeat (first | apply Kd.N_alloc | apply Kd.N_drewN | apply Kd.N_drew)); exact HO125.out)) k_ hk, Kd.freshB (g := gb118) (o := .cells #[.string a1_0, .slice A1_1 l1_1.length c1_1] 43 (0, 0)) (by (with_reducible repeat (first | refine blk_drewN ?_ _ | refine blk_drew ?_ | refine blk_alloc ?_ _)); exact BK118.out) k_ hk⟩) _ (Nat.le_refl _)) (Below.refl _ _) (Nat.le_refl _) (by simp) ?_; (case hd => rfl); (case hg => rfl); (case hr => first | (go_simp; done) | (go_simp; rfl)); (case hp => exact (Reps.none _ _))
                            intro v129 w56 ho57 hb hg_ hnew_
                            clear hg_ hnew_
                            (first | rw [← Ny128.out] at ho57 | (simp only [Int.reduceToNat] at ho57; rw [← Ny128.out] at ho57))
                            have n0_ := Aside0.mk (Kd.V_elder' (by (with_reducible repeat (first | apply Kd.V_alloc | apply Kd.V_drewN | apply Kd.V_drew)); exact HO0.out) (Kd.N_base ho57) hb)
                            have n1_ := Aside0.mk (Kd.V_elder' (by (with_reducible repeat (first | apply Kd.V_alloc | apply Kd.V_drewN | apply Kd.V_drew)); exact HO1_1.out) (Kd.N_base ho57) hb)
                            have n2_ := Aside0.mk (Kd.N_elder' (by (with_reducible repeat (first | apply Kd.N_alloc | apply Kd.N_drewN | apply Kd.N_drew)); exact HO125.out) (Kd.N_base ho57) hb)
                            have n3_ := Aside0.mk (Kd.N_lower ho57 (below_size (by repeat (first | (with_reducible first | exact HB.out | apply below_alloc | apply pw_below_drewN | apply below_drew1 | refine below_set ?_ GE118.out) | exact HB.out))))
                            have n4_ := Aside0.mk (blk_below (g := gb118) (o := .cells #[.string a1_0, .slice A1_1 l1_1.length c1_1] 43 (0, 0)) (by (with_reducible repeat (first | refine blk_drewN ?_ _ | refine blk_drew ?_ | refine blk_alloc ?_ _)); exact BK118.out) hb)
                            have n5_ := Aside0.mk (below_step (by repeat (first | (with_reducible first | exact HB.out | apply below_alloc | apply pw_below_drewN | apply below_drew1 | refine below_set ?_ GE118.out) | exact HB.out)) hb)
                            clear HO0
                            clear HO1_1
                            clear HO125
                            clear BK118
                            clear HB
                            have HO0 := n0_
                            have HO1_1 := n1_
                            have HO125 := n2_
                            have HO130 := n3_
                            have BK118 := n4_
                            have HB := n5_
                            clear n0_ n1_ n2_ n3_ n4_ n5_
                            clear hb ho57
                            refine hK.out _ _ ⟨(blk_cell BK118.out 0).trans rfl, (blk_cell BK118.out 1).trans rfl⟩ (fun hHeld => ?_)
                            clear hK K
                            refine norm_ (a' := ?_) ?_ ?_
                            rotate_left
                            · show Act.put _ (some 35) _ = _
                              simp only [Act.put, List.setIfInBounds_toArray, List.set_cons_zero, List.set_cons_succ, i64_w, i32_w]
                              rfl
                            refine two_ (i := 2) (j := 6) (Ni := some 37) (Nj := some 41) #[true, true, true, true, true, true, false, false, true, false, false, false, false, false, false] #[true, true, false, true, true, true, true, false, true, false, false, false, false, false, false] rfl rfl rfl rfl (two_of HT_.out (by kernel_rfl)) (by decide) (by decide) (fun K hK => ?_) (fun K hK => ?_)
                            · skip
                              refine Kd.N_append_rows_step k45 (w0 := w) w.heap.size (by rfl) (.tmp 35) (.tmp 36) 40 45 (.agg #[(.string ⟨#[]⟩), (.slice none 0 0), (.int .i64 0)]) 48 rfl Try.underlying40 info45 rfl (by decide) (by omega) v129 y128 l0 _ _ _ (fun k_ => ((P0_ k_ ∨ P1_1_ k_) ∨ w.heap.size ≤ k_) ∧ some k_ ≠ (.slice Ao53 y123.length co53 : Value).ownBlock ∧ k_ ≠ gb118) (fun k_ => ((fun k_ => ((P0_ k_ ∨ P1_1_ k_) ∨ w.heap.size ≤ k_) ∧ some k_ ≠ (.slice Ao53 y123.length co53 : Value).ownBlock ∧ k_ ≠ gb118)) k_ ∧ some k_ ≠ (v129 : Value).ownBlock) rfl rfl ?aO ?aR (fun _ hk => hk) ?aF ?aB ?aS ?aL ?_
                              (case aR => exact (by skip; exact Kd.V_F (Kd.V_mono (ok' := (fun k_ => ((fun k_ => ((P0_ k_ ∨ P1_1_ k_) ∨ w.heap.size ≤ k_) ∧ some k_ ≠ (.slice Ao53 y123.length co53 : Value).ownBlock ∧ k_ ≠ gb118)) k_ ∧ some k_ ≠ (v129 : Value).ownBlock)) (HO0.out) (fun k_ hk => ⟨⟨hk.1.1.1, ⟨hk.1.2, hk.1.1.2⟩⟩, hk.2⟩))))
                              (case aB => exact (by repeat (first | (with_reducible first | exact HB.out | apply below_alloc | apply pw_below_drewN | apply below_drew1 | refine below_set ?_ GE118.out) | exact HB.out)))
                              (case aF => exact (fun k_ hk => ⟨(.inr (Nat.le_trans (below_size (by repeat (first | (with_reducible first | exact HB.out | apply below_alloc | apply pw_below_drewN | apply below_drew1 | refine below_set ?_ GE118.out) | exact HB.out))) hk)), Kd.fresh' (Kd.N_lt (by (with_reducible repeat (first | apply Kd.N_alloc | apply Kd.N_drewN | apply Kd.N_drew)); exact HO125.out)) k_ hk, Kd.freshB (g := gb118) (o := .cells #[.string a1_0, .slice A1_1 l1_1.length c1_1] 43 (0, 0)) (by (with_reducible repeat (first | refine blk_drewN ?_ _ | refine blk_drew ?_ | refine blk_alloc ?_ _)); exact BK118.out) k_ hk⟩))
                              (case aO => exact (by (with_reducible repeat (first | apply Kd.N_alloc | apply Kd.N_drewN | apply Kd.N_drew)); exact HO130.out))
                              (case aS => exact (below_size (by repeat (first | (with_reducible first | exact HB.out | apply below_alloc | apply pw_below_drewN | apply below_drew1 | refine below_set ?_ GE118.out) | exact HB.out))))
                              (case aL => have := LMc10.out; omega)
                              intro v132 w58 ho hb hg hat
                              rw [← Ny131.out] at ho
                              have n0_ := Aside0.mk (Kd.V_afterv (ok := (fun k_ => ((P0_ k_ ∨ P1_1_ k_) ∨ w.heap.size ≤ k_) ∧ some k_ ≠ (.slice Ao53 y123.length co53 : Value).ownBlock ∧ k_ ≠ gb118)) (by (with_reducible repeat (first | apply Kd.V_alloc | apply Kd.V_drewN | apply Kd.V_drew)); exact Kd.V_mono HO0.out (fun _ hk => ⟨⟨hk.1.1.1, ⟨hk.1.2, hk.1.1.2⟩⟩, hk.2⟩)) hg hat)
                              have n1_ := Aside0.mk (Kd.V_afterv (ok := (fun k_ => ((P0_ k_ ∨ P1_1_ k_) ∨ w.heap.size ≤ k_) ∧ some k_ ≠ (.slice Ao53 y123.length co53 : Value).ownBlock ∧ k_ ≠ gb118)) (by (with_reducible repeat (first | apply Kd.V_alloc | apply Kd.V_drewN | apply Kd.V_drew)); exact Kd.V_mono HO1_1.out (fun _ hk => ⟨⟨hk.1.1.1, ⟨hk.1.2, hk.1.1.2⟩⟩, hk.2⟩)) hg hat)
                              have n2_ := Aside0.mk (blk_grown (g := gb118) (o := .cells #[.string a1_0, .slice A1_1 l1_1.length c1_1] 43 (0, 0)) (by (with_reducible repeat (first | refine blk_drewN ?_ _ | refine blk_drew ?_ | refine blk_alloc ?_ _)); exact BK118.out) hg (Kd.N_ne HO130.out BK118.out (by decide)))
                              have n3_ := Aside0.mk (Kd.N_afterv (ok := (fun k_ => ((P0_ k_ ∨ P1_1_ k_) ∨ w.heap.size ≤ k_) ∧ k_ ≠ gb118)) (by (with_reducible repeat (first | apply Kd.N_alloc | apply Kd.N_drewN | apply Kd.N_drew)); exact HO125.out) hg hat)
                              have n4_ := Aside0.mk (hb)
                              have n5_ := Aside0.mk (ho)
                              clear HO0
                              clear HO1_1
                              clear BK118
                              clear HO125
                              clear HB
                              clear HO130
                              have HO0 := n0_
                              have HO1_1 := n1_
                              have BK118 := n2_
                              have HO125 := n3_
                              have HB := n4_
                              have HO133 := n5_
                              clear n0_ n1_ n2_ n3_ n4_ n5_
                              clear ho hb hg hat
                              refine hK.out _ _ ⟨(blk_cell BK118.out 0).trans rfl, (blk_cell BK118.out 1).trans rfl⟩ (fun hHeld => ?_)
                              clear hK K
                              refine norm_ (a' := ?_) ?_ ?_
                              rotate_left
                              · show Act.put _ (some 37) _ = _
                                simp only [Act.put, List.setIfInBounds_toArray, List.set_cons_zero, List.set_cons_succ, i64_w, i32_w]
                                rfl
                              refine one_ (i := 6) (N := some 41) #[true, true, true, true, true, true, true, false, true, false, false, false, false, false, false] rfl rfl (one_of HT_.out (by kernel_rfl)) (by decide) (fun K hK => ?_)
                              refine Kd.N_lit_step k45 _ 45 ?hg (N' := 41) ?hd (xs := ([(⟨(⟨a1_0, l1_1⟩ : S43), a2⟩ : S45)] : List (S45))) (inner := [.string a1_0, .slice A1_1 l1_1.length c1_1, .int .i64 a2]) (ok := (fun k_ => ((P0_ k_ ∨ P1_1_ k_) ∨ w.heap.size ≤ k_) ∧ some k_ ≠ (.slice Ao53 y123.length co53 : Value).ownBlock ∧ some k_ ≠ (v132 : Value).ownBlock ∧ k_ ≠ gb118)) (okp := (fun k_ => ((P0_ k_ ∨ P1_1_ k_) ∨ w.heap.size ≤ k_) ∧ some k_ ≠ (.slice Ao53 y123.length co53 : Value).ownBlock ∧ some k_ ≠ (v132 : Value).ownBlock ∧ k_ ≠ gb118)) ?hr ?hp (fun _ hk => hk) ((show ∀ k_, w58.heap.size ≤ k_ → (fun k_ => ((P0_ k_ ∨ P1_1_ k_) ∨ w.heap.size ≤ k_) ∧ some k_ ≠ (.slice Ao53 y123.length co53 : Value).ownBlock ∧ some k_ ≠ (v132 : Value).ownBlock ∧ k_ ≠ gb118) k_ from fun k_ hk => ⟨(.inr (Nat.le_trans (below_size (by repeat (first | (with_reducible first | exact HB.out | apply below_alloc | apply pw_below_drewN | apply below_drew1 | refine below_set ?_ GE118.out) | exact HB.out))) hk)), Kd.fresh' (Kd.N_lt (by (with_reducible repeat (first | apply Kd.N_alloc | apply Kd.N_drewN | apply Kd.N_drew)); exact HO125.out)) k_ hk, Kd.fresh' (Kd.N_lt (by (with_reducible repeat (first | apply Kd.N_alloc | apply Kd.N_drewN | apply Kd.N_drew)); exact HO133.out)) k_ hk, Kd.freshB (g := gb118) (o := .cells #[.string a1_0, .slice A1_1 l1_1.length c1_1] 43 (0, 0)) (by (with_reducible repeat (first | refine blk_drewN ?_ _ | refine blk_drew ?_ | refine blk_alloc ?_ _)); exact BK118.out) k_ hk⟩) _ (Nat.le_refl _)) (Below.refl _ _) (Nat.le_refl _) (by simp) ?_; (case hd => rfl); (case hg => rfl); (case hr => first | (go_simp; done) | (go_simp; rfl)); (case hp => exact (Reps.c3 (show Kd.FK k45 _ _ (⟨(⟨a1_0, l1_1⟩ : S43), a2⟩ : S45) [.string a1_0, .slice A1_1 l1_1.length c1_1, .int .i64 a2] from (k45_mkF _ _ (⟨(⟨a1_0, l1_1⟩ : S43), a2⟩ : S45) (Kd.V_reads' (Kd.V_mono (ok' := (fun k_ => ((P0_ k_ ∨ P1_1_ k_) ∨ w.heap.size ≤ k_) ∧ some k_ ≠ (.slice Ao53 y123.length co53 : Value).ownBlock ∧ some k_ ≠ (v132 : Value).ownBlock ∧ k_ ≠ gb118)) (HO1_1.out) (fun k_ hk => ⟨hk.1.1, ⟨hk.1.2.1, ⟨hk.2, hk.1.2.2⟩⟩⟩))).2.1 (Kd.V_F (Kd.V_mono (ok' := (fun k_ => ((P0_ k_ ∨ P1_1_ k_) ∨ w.heap.size ≤ k_) ∧ some k_ ≠ (.slice Ao53 y123.length co53 : Value).ownBlock ∧ some k_ ≠ (v132 : Value).ownBlock ∧ k_ ≠ gb118)) (HO1_1.out) (fun k_ hk => ⟨hk.1.1, ⟨hk.1.2.1, ⟨hk.2, hk.1.2.2⟩⟩⟩))))) (Reps.none _ _)))
                              intro v135 w59 ho60 hb hg_ hnew_
                              clear hg_ hnew_
                              (first | rw [← Ny134.out] at ho60 | (simp only [Int.reduceToNat] at ho60; rw [← Ny134.out] at ho60))
                              have n0_ := Aside0.mk (Kd.V_elder' (by (with_reducible repeat (first | apply Kd.V_alloc | apply Kd.V_drewN | apply Kd.V_drew)); exact HO0.out) (Kd.N_base ho60) hb)
                              have n1_ := Aside0.mk (Kd.V_elder' (by (with_reducible repeat (first | apply Kd.V_alloc | apply Kd.V_drewN | apply Kd.V_drew)); exact HO1_1.out) (Kd.N_base ho60) hb)
                              have n2_ := Aside0.mk (Kd.N_elder' (by (with_reducible repeat (first | apply Kd.N_alloc | apply Kd.N_drewN | apply Kd.N_drew)); exact HO125.out) (Kd.N_base ho60) hb)
                              have n3_ := Aside0.mk (Kd.N_elder' (by (with_reducible repeat (first | apply Kd.N_alloc | apply Kd.N_drewN | apply Kd.N_drew)); exact HO133.out) (Kd.N_base ho60) hb)
                              have n4_ := Aside0.mk (Kd.N_lower ho60 (below_size (by repeat (first | (with_reducible first | exact HB.out | apply below_alloc | apply pw_below_drewN | apply below_drew1 | refine below_set ?_ GE118.out) | exact HB.out))))
                              have n5_ := Aside0.mk (blk_below (g := gb118) (o := .cells #[.string a1_0, .slice A1_1 l1_1.length c1_1] 43 (0, 0)) (by (with_reducible repeat (first | refine blk_drewN ?_ _ | refine blk_drew ?_ | refine blk_alloc ?_ _)); exact BK118.out) hb)
                              have n6_ := Aside0.mk (below_step (by repeat (first | (with_reducible first | exact HB.out | apply below_alloc | apply pw_below_drewN | apply below_drew1 | refine below_set ?_ GE118.out) | exact HB.out)) hb)
                              clear HO0
                              clear HO1_1
                              clear HO125
                              clear HO133
                              clear BK118
                              clear HB
                              have HO0 := n0_
                              have HO1_1 := n1_
                              have HO125 := n2_
                              have HO133 := n3_
                              have HO136 := n4_
                              have BK118 := n5_
                              have HB := n6_
                              clear n0_ n1_ n2_ n3_ n4_ n5_ n6_
                              clear hb ho60
                              refine hK.out _ _ ⟨(blk_cell BK118.out 0).trans rfl, (blk_cell BK118.out 1).trans rfl⟩ (fun hHeld => ?_)
                              clear hK K
                              refine norm_ (a' := ?_) ?_ ?_
                              rotate_left
                              · show Act.put _ (some 41) _ = _
                                simp only [Act.put, List.setIfInBounds_toArray, List.set_cons_zero, List.set_cons_succ, i64_w, i32_w]
                                rfl
                              exact norm_ (by simp only [putAll, Act.put, List.setIfInBounds_toArray, List.set_cons_zero, List.set_cons_succ]) (hCont (v129, v132, v135) _ ⟨hHeld, (by (with_reducible repeat (first | apply Kd.V_alloc | apply Kd.V_drewN | apply Kd.V_drew)); exact Kd.V_mono HO0.out (fun _ hk => ⟨hk.1.1.1, ⟨hk.1.1.2.1, ⟨hk.1.2, ⟨hk.2, hk.1.1.2.2⟩⟩⟩⟩)), (by (with_reducible repeat (first | apply Kd.N_alloc | apply Kd.N_drewN | apply Kd.N_drew)); exact Kd.N_mono HO125.out (fun _ hk => ⟨hk.1.1.1, ⟨hk.1.2, ⟨hk.2, hk.1.1.2⟩⟩⟩)), (by (with_reducible repeat (first | apply Kd.N_alloc | apply Kd.N_drewN | apply Kd.N_drew)); exact Kd.N_mono HO133.out (fun _ hk => ⟨hk.1.1, ⟨hk.1.2.1, ⟨hk.2, hk.1.2.2⟩⟩⟩)), (by (with_reducible repeat (first | apply Kd.N_alloc | apply Kd.N_drewN | apply Kd.N_drew)); exact HO136.out), (by (with_reducible repeat (first | apply Kd.V_alloc | apply Kd.V_drewN | apply Kd.V_drew)); exact Kd.V_mono HO1_1.out (fun _ hk => ⟨hk.1.1.1, ⟨hk.1.1.2.1, ⟨hk.1.2, ⟨hk.2, hk.1.1.2.2⟩⟩⟩⟩)), (by (with_reducible repeat (first | refine blk_drewN ?_ _ | refine blk_drew ?_ | refine blk_alloc ?_ _)); exact BK118.out), (by repeat (first | (with_reducible first | exact HB.out | apply below_alloc | apply pw_below_drewN | apply below_drew1 | refine below_set ?_ GE118.out) | exact HB.out))⟩)
                            · skip
                              refine Kd.N_lit_step k45 _ 45 ?hg (N' := 41) ?hd (xs := ([(⟨(⟨a1_0, l1_1⟩ : S43), a2⟩ : S45)] : List (S45))) (inner := [.string a1_0, .slice A1_1 l1_1.length c1_1, .int .i64 a2]) (ok := (fun k_ => ((P0_ k_ ∨ P1_1_ k_) ∨ w.heap.size ≤ k_) ∧ some k_ ≠ (.slice Ao53 y123.length co53 : Value).ownBlock ∧ some k_ ≠ (v129 : Value).ownBlock ∧ k_ ≠ gb118)) (okp := (fun k_ => ((P0_ k_ ∨ P1_1_ k_) ∨ w.heap.size ≤ k_) ∧ some k_ ≠ (.slice Ao53 y123.length co53 : Value).ownBlock ∧ some k_ ≠ (v129 : Value).ownBlock ∧ k_ ≠ gb118)) ?hr ?hp (fun _ hk => hk) ((show ∀ k_, w56.heap.size ≤ k_ → (fun k_ => ((P0_ k_ ∨ P1_1_ k_) ∨ w.heap.size ≤ k_) ∧ some k_ ≠ (.slice Ao53 y123.length co53 : Value).ownBlock ∧ some k_ ≠ (v129 : Value).ownBlock ∧ k_ ≠ gb118) k_ from fun k_ hk => ⟨(.inr (Nat.le_trans (below_size (by repeat (first | (with_reducible first | exact HB.out | apply below_alloc | apply pw_below_drewN | apply below_drew1 | refine below_set ?_ GE118.out) | exact HB.out))) hk)), Kd.fresh' (Kd.N_lt (by (with_reducible repeat (first | apply Kd.N_alloc | apply Kd.N_drewN | apply Kd.N_drew)); exact HO125.out)) k_ hk, Kd.fresh' (Kd.N_lt (by (with_reducible repeat (first | apply Kd.N_alloc | apply Kd.N_drewN | apply Kd.N_drew)); exact HO130.out)) k_ hk, Kd.freshB (g := gb118) (o := .cells #[.string a1_0, .slice A1_1 l1_1.length c1_1] 43 (0, 0)) (by (with_reducible repeat (first | refine blk_drewN ?_ _ | refine blk_drew ?_ | refine blk_alloc ?_ _)); exact BK118.out) k_ hk⟩) _ (Nat.le_refl _)) (Below.refl _ _) (Nat.le_refl _) (by simp) ?_; (case hd => rfl); (case hg => rfl); (case hr => first | (go_simp; done) | (go_simp; rfl)); (case hp => exact (Reps.c3 (show Kd.FK k45 _ _ (⟨(⟨a1_0, l1_1⟩ : S43), a2⟩ : S45) [.string a1_0, .slice A1_1 l1_1.length c1_1, .int .i64 a2] from (k45_mkF _ _ (⟨(⟨a1_0, l1_1⟩ : S43), a2⟩ : S45) (Kd.V_reads' (Kd.V_mono (ok' := (fun k_ => ((P0_ k_ ∨ P1_1_ k_) ∨ w.heap.size ≤ k_) ∧ some k_ ≠ (.slice Ao53 y123.length co53 : Value).ownBlock ∧ some k_ ≠ (v129 : Value).ownBlock ∧ k_ ≠ gb118)) (HO1_1.out) (fun k_ hk => ⟨hk.1.1.1, ⟨hk.1.2, ⟨hk.2, hk.1.1.2⟩⟩⟩))).2.1 (Kd.V_F (Kd.V_mono (ok' := (fun k_ => ((P0_ k_ ∨ P1_1_ k_) ∨ w.heap.size ≤ k_) ∧ some k_ ≠ (.slice Ao53 y123.length co53 : Value).ownBlock ∧ some k_ ≠ (v129 : Value).ownBlock ∧ k_ ≠ gb118)) (HO1_1.out) (fun k_ hk => ⟨hk.1.1.1, ⟨hk.1.2, ⟨hk.2, hk.1.1.2⟩⟩⟩))))) (Reps.none _ _)))
                              intro v135 w58 ho59 hb hg_ hnew_
                              clear hg_ hnew_
                              (first | rw [← Ny134.out] at ho59 | (simp only [Int.reduceToNat] at ho59; rw [← Ny134.out] at ho59))
                              have n0_ := Aside0.mk (Kd.V_elder' (by (with_reducible repeat (first | apply Kd.V_alloc | apply Kd.V_drewN | apply Kd.V_drew)); exact HO0.out) (Kd.N_base ho59) hb)
                              have n1_ := Aside0.mk (Kd.V_elder' (by (with_reducible repeat (first | apply Kd.V_alloc | apply Kd.V_drewN | apply Kd.V_drew)); exact HO1_1.out) (Kd.N_base ho59) hb)
                              have n2_ := Aside0.mk (Kd.N_elder' (by (with_reducible repeat (first | apply Kd.N_alloc | apply Kd.N_drewN | apply Kd.N_drew)); exact HO125.out) (Kd.N_base ho59) hb)
                              have n3_ := Aside0.mk (Kd.N_elder' (by (with_reducible repeat (first | apply Kd.N_alloc | apply Kd.N_drewN | apply Kd.N_drew)); exact HO130.out) (Kd.N_base ho59) hb)
                              have n4_ := Aside0.mk (Kd.N_lower ho59 (below_size (by repeat (first | (with_reducible first | exact HB.out | apply below_alloc | apply pw_below_drewN | apply below_drew1 | refine below_set ?_ GE118.out) | exact HB.out))))
                              have n5_ := Aside0.mk (blk_below (g := gb118) (o := .cells #[.string a1_0, .slice A1_1 l1_1.length c1_1] 43 (0, 0)) (by (with_reducible repeat (first | refine blk_drewN ?_ _ | refine blk_drew ?_ | refine blk_alloc ?_ _)); exact BK118.out) hb)
                              have n6_ := Aside0.mk (below_step (by repeat (first | (with_reducible first | exact HB.out | apply below_alloc | apply pw_below_drewN | apply below_drew1 | refine below_set ?_ GE118.out) | exact HB.out)) hb)
                              clear HO0
                              clear HO1_1
                              clear HO125
                              clear HO130
                              clear BK118
                              clear HB
                              have HO0 := n0_
                              have HO1_1 := n1_
                              have HO125 := n2_
                              have HO130 := n3_
                              have HO136 := n4_
                              have BK118 := n5_
                              have HB := n6_
                              clear n0_ n1_ n2_ n3_ n4_ n5_ n6_
                              clear hb ho59
                              refine hK.out _ _ ⟨(blk_cell BK118.out 0).trans rfl, (blk_cell BK118.out 1).trans rfl⟩ (fun hHeld => ?_)
                              clear hK K
                              refine norm_ (a' := ?_) ?_ ?_
                              rotate_left
                              · show Act.put _ (some 41) _ = _
                                simp only [Act.put, List.setIfInBounds_toArray, List.set_cons_zero, List.set_cons_succ, i64_w, i32_w]
                                rfl
                              refine one_ (i := 2) (N := some 37) #[true, true, true, true, true, true, true, false, true, false, false, false, false, false, false] rfl rfl (one_of HT_.out (by kernel_rfl)) (by decide) (fun K hK => ?_)
                              refine Kd.N_append_rows_step k45 (w0 := w) w.heap.size (by rfl) (.tmp 35) (.tmp 36) 40 45 (.agg #[(.string ⟨#[]⟩), (.slice none 0 0), (.int .i64 0)]) 48 rfl Try.underlying40 info45 rfl (by decide) (by omega) v129 y128 l0 _ _ _ (fun k_ => ((P0_ k_ ∨ P1_1_ k_) ∨ w.heap.size ≤ k_) ∧ some k_ ≠ (.slice Ao53 y123.length co53 : Value).ownBlock ∧ some k_ ≠ (v135 : Value).ownBlock ∧ k_ ≠ gb118) (fun k_ => ((fun k_ => ((P0_ k_ ∨ P1_1_ k_) ∨ w.heap.size ≤ k_) ∧ some k_ ≠ (.slice Ao53 y123.length co53 : Value).ownBlock ∧ some k_ ≠ (v135 : Value).ownBlock ∧ k_ ≠ gb118)) k_ ∧ some k_ ≠ (v129 : Value).ownBlock) rfl rfl ?aO ?aR (fun _ hk => hk) ?aF ?aB ?aS ?aL ?_
                              (case aR => exact (by skip; exact Kd.V_F (Kd.V_mono (ok' := (fun k_ => ((fun k_ => ((P0_ k_ ∨ P1_1_ k_) ∨ w.heap.size ≤ k_) ∧ some k_ ≠ (.slice Ao53 y123.length co53 : Value).ownBlock ∧ some k_ ≠ (v135 : Value).ownBlock ∧ k_ ≠ gb118)) k_ ∧ some k_ ≠ (v129 : Value).ownBlock)) (HO0.out) (fun k_ hk => ⟨⟨hk.1.1.1.1, ⟨hk.1.1.2, ⟨hk.2, hk.1.1.1.2⟩⟩⟩, hk.1.2⟩))))
                              (case aB => exact (by repeat (first | (with_reducible first | exact HB.out | apply below_alloc | apply pw_below_drewN | apply below_drew1 | refine below_set ?_ GE118.out) | exact HB.out)))
                              (case aF => exact (fun k_ hk => ⟨(.inr (Nat.le_trans (below_size (by repeat (first | (with_reducible first | exact HB.out | apply below_alloc | apply pw_below_drewN | apply below_drew1 | refine below_set ?_ GE118.out) | exact HB.out))) hk)), Kd.fresh' (Kd.N_lt (by (with_reducible repeat (first | apply Kd.N_alloc | apply Kd.N_drewN | apply Kd.N_drew)); exact HO125.out)) k_ hk, Kd.fresh' (Kd.N_lt (by (with_reducible repeat (first | apply Kd.N_alloc | apply Kd.N_drewN | apply Kd.N_drew)); exact HO136.out)) k_ hk, Kd.freshB (g := gb118) (o := .cells #[.string a1_0, .slice A1_1 l1_1.length c1_1] 43 (0, 0)) (by (with_reducible repeat (first | refine blk_drewN ?_ _ | refine blk_drew ?_ | refine blk_alloc ?_ _)); exact BK118.out) k_ hk⟩))
                              (case aO => exact (by (with_reducible repeat (first | apply Kd.N_alloc | apply Kd.N_drewN | apply Kd.N_drew)); exact Kd.N_mono HO130.out (fun _ hk => ⟨hk.1.1, ⟨hk.1.2.1, ⟨hk.2, hk.1.2.2⟩⟩⟩)))
                              (case aS => exact (below_size (by repeat (first | (with_reducible first | exact HB.out | apply below_alloc | apply pw_below_drewN | apply below_drew1 | refine below_set ?_ GE118.out) | exact HB.out))))
                              (case aL => have := LMc10.out; omega)
                              intro v132 w60 ho hb hg hat
                              rw [← Ny131.out] at ho
                              have n0_ := Aside0.mk (Kd.V_afterv (ok := (fun k_ => ((P0_ k_ ∨ P1_1_ k_) ∨ w.heap.size ≤ k_) ∧ some k_ ≠ (.slice Ao53 y123.length co53 : Value).ownBlock ∧ some k_ ≠ (v135 : Value).ownBlock ∧ k_ ≠ gb118)) (by (with_reducible repeat (first | apply Kd.V_alloc | apply Kd.V_drewN | apply Kd.V_drew)); exact Kd.V_mono HO0.out (fun _ hk => ⟨⟨hk.1.1.1.1, ⟨hk.1.1.2, ⟨hk.2, hk.1.1.1.2⟩⟩⟩, hk.1.2⟩)) hg hat)
                              have n1_ := Aside0.mk (Kd.V_afterv (ok := (fun k_ => ((P0_ k_ ∨ P1_1_ k_) ∨ w.heap.size ≤ k_) ∧ some k_ ≠ (.slice Ao53 y123.length co53 : Value).ownBlock ∧ some k_ ≠ (v135 : Value).ownBlock ∧ k_ ≠ gb118)) (by (with_reducible repeat (first | apply Kd.V_alloc | apply Kd.V_drewN | apply Kd.V_drew)); exact Kd.V_mono HO1_1.out (fun _ hk => ⟨⟨hk.1.1.1.1, ⟨hk.1.1.2, ⟨hk.2, hk.1.1.1.2⟩⟩⟩, hk.1.2⟩)) hg hat)
                              have n2_ := Aside0.mk (blk_grown (g := gb118) (o := .cells #[.string a1_0, .slice A1_1 l1_1.length c1_1] 43 (0, 0)) (by (with_reducible repeat (first | refine blk_drewN ?_ _ | refine blk_drew ?_ | refine blk_alloc ?_ _)); exact BK118.out) hg (Kd.N_ne HO130.out BK118.out (by decide)))
                              have n3_ := Aside0.mk (Kd.N_afterv (ok := (fun k_ => ((P0_ k_ ∨ P1_1_ k_) ∨ w.heap.size ≤ k_) ∧ some k_ ≠ (v135 : Value).ownBlock ∧ k_ ≠ gb118)) (by (with_reducible repeat (first | apply Kd.N_alloc | apply Kd.N_drewN | apply Kd.N_drew)); exact Kd.N_mono HO125.out (fun _ hk => ⟨⟨hk.1.1.1, ⟨hk.2, hk.1.1.2⟩⟩, hk.1.2⟩)) hg hat)
                              have n4_ := Aside0.mk (Kd.N_afterv (ok := (fun k_ => ((P0_ k_ ∨ P1_1_ k_) ∨ w.heap.size ≤ k_) ∧ some k_ ≠ (.slice Ao53 y123.length co53 : Value).ownBlock ∧ k_ ≠ gb118)) (by (with_reducible repeat (first | apply Kd.N_alloc | apply Kd.N_drewN | apply Kd.N_drew)); exact Kd.N_mono HO136.out (fun _ hk => ⟨⟨hk.1, ⟨hk.2.1, hk.2.2.2⟩⟩, hk.2.2.1⟩)) hg hat)
                              have n5_ := Aside0.mk (hb)
                              have n6_ := Aside0.mk (ho)
                              clear HO0
                              clear HO1_1
                              clear BK118
                              clear HO125
                              clear HO136
                              clear HB
                              clear HO130
                              have HO0 := n0_
                              have HO1_1 := n1_
                              have BK118 := n2_
                              have HO125 := n3_
                              have HO136 := n4_
                              have HB := n5_
                              have HO133 := n6_
                              clear n0_ n1_ n2_ n3_ n4_ n5_ n6_
                              clear ho hb hg hat
                              refine hK.out _ _ ⟨(blk_cell BK118.out 0).trans rfl, (blk_cell BK118.out 1).trans rfl⟩ (fun hHeld => ?_)
                              clear hK K
                              refine norm_ (a' := ?_) ?_ ?_
                              rotate_left
                              · show Act.put _ (some 37) _ = _
                                simp only [Act.put, List.setIfInBounds_toArray, List.set_cons_zero, List.set_cons_succ, i64_w, i32_w]
                                rfl
                              exact norm_ (by simp only [putAll, Act.put, List.setIfInBounds_toArray, List.set_cons_zero, List.set_cons_succ]) (hCont (v129, v132, v135) _ ⟨hHeld, (by (with_reducible repeat (first | apply Kd.V_alloc | apply Kd.V_drewN | apply Kd.V_drew)); exact Kd.V_mono HO0.out (fun _ hk => ⟨hk.1.1, ⟨hk.1.2.1, ⟨hk.2, ⟨hk.1.2.2.1, hk.1.2.2.2⟩⟩⟩⟩)), (by (with_reducible repeat (first | apply Kd.N_alloc | apply Kd.N_drewN | apply Kd.N_drew)); exact Kd.N_mono HO125.out (fun _ hk => ⟨hk.1.1, ⟨hk.2, ⟨hk.1.2.1, hk.1.2.2⟩⟩⟩)), (by (with_reducible repeat (first | apply Kd.N_alloc | apply Kd.N_drewN | apply Kd.N_drew)); exact HO133.out), (by (with_reducible repeat (first | apply Kd.N_alloc | apply Kd.N_drewN | apply Kd.N_drew)); exact Kd.N_mono HO136.out (fun _ hk => ⟨hk.1.1, ⟨hk.1.2.1, ⟨hk.2, hk.1.2.2⟩⟩⟩)), (by (with_reducible repeat (first | apply Kd.V_alloc | apply Kd.V_drewN | apply Kd.V_drew)); exact Kd.V_mono HO1_1.out (fun _ hk => ⟨hk.1.1, ⟨hk.1.2.1, ⟨hk.2, ⟨hk.1.2.2.1, hk.1.2.2.2⟩⟩⟩⟩)), (by (with_reducible repeat (first | refine blk_drewN ?_ _ | refine blk_drew ?_ | refine blk_alloc ?_ _)); exact BK118.out), (by repeat (first | (with_reducible first | exact HB.out | apply below_alloc | apply pw_below_drewN | apply below_drew1 | refine below_set ?_ GE118.out) | exact HB.out))⟩)
                          · skip
                            refine Kd.N_lit_step k45 _ 45 ?hg (N' := 41) ?hd (xs := ([(⟨(⟨a1_0, l1_1⟩ : S43), a2⟩ : S45)] : List (S45))) (inner := [.string a1_0, .slice A1_1 l1_1.length c1_1, .int .i64 a2]) (ok := (fun k_ => ((P0_ k_ ∨ P1_1_ k_) ∨ w.heap.size ≤ k_) ∧ some k_ ≠ (.slice Ao53 y123.length co53 : Value).ownBlock ∧ k_ ≠ gb118)) (okp := (fun k_ => ((P0_ k_ ∨ P1_1_ k_) ∨ w.heap.size ≤ k_) ∧ some k_ ≠ (.slice Ao53 y123.length co53 : Value).ownBlock ∧ k_ ≠ gb118)) ?hr ?hp (fun _ hk => hk) ((show ∀ k_, w55.heap.size ≤ k_ → (fun k_ => ((P0_ k_ ∨ P1_1_ k_) ∨ w.heap.size ≤ k_) ∧ some k_ ≠ (.slice Ao53 y123.length co53 : Value).ownBlock ∧ k_ ≠ gb118) k_ from fun k_ hk => ⟨(.inr (Nat.le_trans (below_size (by repeat (first | (with_reducible first | exact HB.out | apply below_alloc | apply pw_below_drewN | apply below_drew1 | refine below_set ?_ GE118.out) | exact HB.out))) hk)), Kd.fresh' (Kd.N_lt (by (with_reducible repeat (first | apply Kd.N_alloc | apply Kd.N_drewN | apply Kd.N_drew)); exact HO125.out)) k_ hk, Kd.freshB (g := gb118) (o := .cells #[.string a1_0, .slice A1_1 l1_1.length c1_1] 43 (0, 0)) (by (with_reducible repeat (first | refine blk_drewN ?_ _ | refine blk_drew ?_ | refine blk_alloc ?_ _)); exact BK118.out) k_ hk⟩) _ (Nat.le_refl _)) (Below.refl _ _) (Nat.le_refl _) (by simp) ?_; (case hd => rfl); (case hg => rfl); (case hr => first | (go_simp; done) | (go_simp; rfl)); (case hp => exact (Reps.c3 (show Kd.FK k45 _ _ (⟨(⟨a1_0, l1_1⟩ : S43), a2⟩ : S45) [.string a1_0, .slice A1_1 l1_1.length c1_1, .int .i64 a2] from (k45_mkF _ _ (⟨(⟨a1_0, l1_1⟩ : S43), a2⟩ : S45) (Kd.V_reads' (Kd.V_mono (ok' := (fun k_ => ((P0_ k_ ∨ P1_1_ k_) ∨ w.heap.size ≤ k_) ∧ some k_ ≠ (.slice Ao53 y123.length co53 : Value).ownBlock ∧ k_ ≠ gb118)) (HO1_1.out) (fun k_ hk => ⟨hk.1.1, ⟨hk.2, hk.1.2⟩⟩))).2.1 (Kd.V_F (Kd.V_mono (ok' := (fun k_ => ((P0_ k_ ∨ P1_1_ k_) ∨ w.heap.size ≤ k_) ∧ some k_ ≠ (.slice Ao53 y123.length co53 : Value).ownBlock ∧ k_ ≠ gb118)) (HO1_1.out) (fun k_ hk => ⟨hk.1.1, ⟨hk.2, hk.1.2⟩⟩))))) (Reps.none _ _)))
                            intro v135 w56 ho57 hb hg_ hnew_
                            clear hg_ hnew_
                            (first | rw [← Ny134.out] at ho57 | (simp only [Int.reduceToNat] at ho57; rw [← Ny134.out] at ho57))
                            have n0_ := Aside0.mk (Kd.V_elder' (by (with_reducible repeat (first | apply Kd.V_alloc | apply Kd.V_drewN | apply Kd.V_drew)); exact HO0.out) (Kd.N_base ho57) hb)
                            have n1_ := Aside0.mk (Kd.V_elder' (by (with_reducible repeat (first | apply Kd.V_alloc | apply Kd.V_drewN | apply Kd.V_drew)); exact HO1_1.out) (Kd.N_base ho57) hb)
                            have n2_ := Aside0.mk (Kd.N_elder' (by (with_reducible repeat (first | apply Kd.N_alloc | apply Kd.N_drewN | apply Kd.N_drew)); exact HO125.out) (Kd.N_base ho57) hb)
                            have n3_ := Aside0.mk (Kd.N_lower ho57 (below_size (by repeat (first | (with_reducible first | exact HB.out | apply below_alloc | apply pw_below_drewN | apply below_drew1 | refine below_set ?_ GE118.out) | exact HB.out))))
                            have n4_ := Aside0.mk (blk_below (g := gb118) (o := .cells #[.string a1_0, .slice A1_1 l1_1.length c1_1] 43 (0, 0)) (by (with_reducible repeat (first | refine blk_drewN ?_ _ | refine blk_drew ?_ | refine blk_alloc ?_ _)); exact BK118.out) hb)
                            have n5_ := Aside0.mk (below_step (by repeat (first | (with_reducible first | exact HB.out | apply below_alloc | apply pw_below_drewN | apply below_drew1 | refine below_set ?_ GE118.out) | exact HB.out)) hb)
                            clear HO0
                            clear HO1_1
                            clear HO125
                            clear BK118
                            clear HB
                            have HO0 := n0_
                            have HO1_1 := n1_
                            have HO125 := n2_
                            have HO136 := n3_
                            have BK118 := n4_
                            have HB := n5_
                            clear n0_ n1_ n2_ n3_ n4_ n5_
                            clear hb ho57
                            refine hK.out _ _ ⟨(blk_cell BK118.out 0).trans rfl, (blk_cell BK118.out 1).trans rfl⟩ (fun hHeld => ?_)
                            clear hK K
                            refine norm_ (a' := ?_) ?_ ?_
                            rotate_left
                            · show Act.put _ (some 41) _ = _
                              simp only [Act.put, List.setIfInBounds_toArray, List.set_cons_zero, List.set_cons_succ, i64_w, i32_w]
                              rfl
                            refine one_ (i := 0) (N := some 35) #[true, true, false, true, true, true, true, false, true, false, false, false, false, false, false] rfl rfl (one_of HT_.out (by kernel_rfl)) (by decide) (fun K hK => ?_)
                            refine Kd.N_lit_step k45 _ 45 ?hg (N' := 35) ?hd (xs := ([] : List (S45))) (inner := []) (ok := (fun k_ => ((P0_ k_ ∨ P1_1_ k_) ∨ w.heap.size ≤ k_) ∧ some k_ ≠ (.slice Ao53 y123.length co53 : Value).ownBlock ∧ some k_ ≠ (v135 : Value).ownBlock ∧ k_ ≠ gb118)) (okp := (fun k_ => ((P0_ k_ ∨ P1_1_ k_) ∨ w.heap.size ≤ k_) ∧ some k_ ≠ (.slice Ao53 y123.length co53 : Value).ownBlock ∧ some k_ ≠ (v135 : Value).ownBlock ∧ k_ ≠ gb118)) ?hr ?hp (fun _ hk => hk) ((show ∀ k_, w56.heap.size ≤ k_ → (fun k_ => ((P0_ k_ ∨ P1_1_ k_) ∨ w.heap.size ≤ k_) ∧ some k_ ≠ (.slice Ao53 y123.length co53 : Value).ownBlock ∧ some k_ ≠ (v135 : Value).ownBlock ∧ k_ ≠ gb118) k_ from fun k_ hk => ⟨(.inr (Nat.le_trans (below_size (by repeat (first | (with_reducible first | exact HB.out | apply below_alloc | apply pw_below_drewN | apply below_drew1 | refine below_set ?_ GE118.out) | exact HB.out))) hk)), Kd.fresh' (Kd.N_lt (by (with_reducible repeat (first | apply Kd.N_alloc | apply Kd.N_drewN | apply Kd.N_drew)); exact HO125.out)) k_ hk, Kd.fresh' (Kd.N_lt (by (with_reducible repeat (first | apply Kd.N_alloc | apply Kd.N_drewN | apply Kd.N_drew)); exact HO136.out)) k_ hk, Kd.freshB (g := gb118) (o := .cells #[.string a1_0, .slice A1_1 l1_1.length c1_1] 43 (0, 0)) (by (with_reducible repeat (first | refine blk_drewN ?_ _ | refine blk_drew ?_ | refine blk_alloc ?_ _)); exact BK118.out) k_ hk⟩) _ (Nat.le_refl _)) (Below.refl _ _) (Nat.le_refl _) (by simp) ?_; (case hd => rfl); (case hg => rfl); (case hr => first | (go_simp; done) | (go_simp; rfl)); (case hp => exact (Reps.none _ _))
                            intro v129 w58 ho59 hb hg_ hnew_
                            clear hg_ hnew_
                            (first | rw [← Ny128.out] at ho59 | (simp only [Int.reduceToNat] at ho59; rw [← Ny128.out] at ho59))
                            have n0_ := Aside0.mk (Kd.V_elder' (by (with_reducible repeat (first | apply Kd.V_alloc | apply Kd.V_drewN | apply Kd.V_drew)); exact HO0.out) (Kd.N_base ho59) hb)
                            have n1_ := Aside0.mk (Kd.V_elder' (by (with_reducible repeat (first | apply Kd.V_alloc | apply Kd.V_drewN | apply Kd.V_drew)); exact HO1_1.out) (Kd.N_base ho59) hb)
                            have n2_ := Aside0.mk (Kd.N_elder' (by (with_reducible repeat (first | apply Kd.N_alloc | apply Kd.N_drewN | apply Kd.N_drew)); exact HO125.out) (Kd.N_base ho59) hb)
                            have n3_ := Aside0.mk (Kd.N_elder' (by (with_reducible repeat (first | apply Kd.N_alloc | apply Kd.N_drewN | apply Kd.N_drew)); exact HO136.out) (Kd.N_base ho59) hb)
                            have n4_ := Aside0.mk (Kd.N_lower ho59 (below_size (by repeat (first | (with_reducible first | exact HB.out | apply below_alloc | apply pw_below_drewN | apply below_drew1 | refine below_set ?_ GE118.out) | exact HB.out))))
                            have n5_ := Aside0.mk (blk_below (g := gb118) (o := .cells #[.string a1_0, .slice A1_1 l1_1.length c1_1] 43 (0, 0)) (by (with_reducible repeat (first | refine blk_drewN ?_ _ | refine blk_drew ?_ | refine blk_alloc ?_ _)); exact BK118.out) hb)
                            have n6_ := Aside0.mk (below_step (by repeat (first | (with_reducible first | exact HB.out | apply below_alloc | apply pw_below_drewN | apply below_drew1 | refine below_set ?_ GE118.out) | exact HB.out)) hb)
                            clear HO0
                            clear HO1_1
                            clear HO125
                            clear HO136
                            clear BK118
                            clear HB
                            have HO0 := n0_
                            have HO1_1 := n1_
                            have HO125 := n2_
                            have HO136 := n3_
                            have HO130 := n4_
                            have BK118 := n5_
                            have HB := n6_
                            clear n0_ n1_ n2_ n3_ n4_ n5_ n6_
                            clear hb ho59
                            refine hK.out _ _ ⟨(blk_cell BK118.out 0).trans rfl, (blk_cell BK118.out 1).trans rfl⟩ (fun hHeld => ?_)
                            clear hK K
                            refine norm_ (a' := ?_) ?_ ?_
                            rotate_left
                            · show Act.put _ (some 35) _ = _
                              simp only [Act.put, List.setIfInBounds_toArray, List.set_cons_zero, List.set_cons_succ, i64_w, i32_w]
                              rfl
                            refine one_ (i := 2) (N := some 37) #[true, true, true, true, true, true, true, false, true, false, false, false, false, false, false] rfl rfl (one_of HT_.out (by kernel_rfl)) (by decide) (fun K hK => ?_)
                            refine Kd.N_append_rows_step k45 (w0 := w) w.heap.size (by rfl) (.tmp 35) (.tmp 36) 40 45 (.agg #[(.string ⟨#[]⟩), (.slice none 0 0), (.int .i64 0)]) 48 rfl Try.underlying40 info45 rfl (by decide) (by omega) v129 y128 l0 _ _ _ (fun k_ => ((P0_ k_ ∨ P1_1_ k_) ∨ w.heap.size ≤ k_) ∧ some k_ ≠ (.slice Ao53 y123.length co53 : Value).ownBlock ∧ some k_ ≠ (v135 : Value).ownBlock ∧ k_ ≠ gb118) (fun k_ => ((fun k_ => ((P0_ k_ ∨ P1_1_ k_) ∨ w.heap.size ≤ k_) ∧ some k_ ≠ (.slice Ao53 y123.length co53 : Value).ownBlock ∧ some k_ ≠ (v135 : Value).ownBlock ∧ k_ ≠ gb118)) k_ ∧ some k_ ≠ (v129 : Value).ownBlock) rfl rfl ?aO ?aR (fun _ hk => hk) ?aF ?aB ?aS ?aL ?_
                            (case aR => exact (by skip; exact Kd.V_F (Kd.V_mono (ok' := (fun k_ => ((fun k_ => ((P0_ k_ ∨ P1_1_ k_) ∨ w.heap.size ≤ k_) ∧ some k_ ≠ (.slice Ao53 y123.length co53 : Value).ownBlock ∧ some k_ ≠ (v135 : Value).ownBlock ∧ k_ ≠ gb118)) k_ ∧ some k_ ≠ (v129 : Value).ownBlock)) (HO0.out) (fun k_ hk => ⟨⟨hk.1.1.1.1, ⟨hk.1.1.2, ⟨hk.1.2, hk.1.1.1.2⟩⟩⟩, hk.2⟩))))
                            (case aB => exact (by repeat (first | (with_reducible first | exact HB.out | apply below_alloc | apply pw_below_drewN | apply below_drew1 | refine below_set ?_ GE118.out) | exact HB.out)))
                            (case aF => exact (fun k_ hk => ⟨(.inr (Nat.le_trans (below_size (by repeat (first | (with_reducible first | exact HB.out | apply below_alloc | apply pw_below_drewN | apply below_drew1 | refine below_set ?_ GE118.out) | exact HB.out))) hk)), Kd.fresh' (Kd.N_lt (by (with_reducible repeat (first | apply Kd.N_alloc | apply Kd.N_drewN | apply Kd.N_drew)); exact HO125.out)) k_ hk, Kd.fresh' (Kd.N_lt (by (with_reducible repeat (first | apply Kd.N_alloc | apply Kd.N_drewN | apply Kd.N_drew)); exact HO136.out)) k_ hk, Kd.freshB (g := gb118) (o := .cells #[.string a1_0, .slice A1_1 l1_1.length c1_1] 43 (0, 0)) (by (with_reducible repeat (first | refine blk_drewN ?_ _ | refine blk_drew ?_ | refine blk_alloc ?_ _)); exact BK118.out) k_ hk⟩))
                            (case aO => exact (by (with_reducible repeat (first | apply Kd.N_alloc | apply Kd.N_drewN | apply Kd.N_drew)); exact HO130.out))
                            (case aS => exact (below_size (by repeat (first | (with_reducible first | exact HB.out | apply below_alloc | apply pw_below_drewN | apply below_drew1 | refine below_set ?_ GE118.out) | exact HB.out))))
                            (case aL => have := LMc10.out; omega)
                            intro v132 w60 ho hb hg hat
                            rw [← Ny131.out] at ho
                            have n0_ := Aside0.mk (Kd.V_afterv (ok := (fun k_ => ((P0_ k_ ∨ P1_1_ k_) ∨ w.heap.size ≤ k_) ∧ some k_ ≠ (.slice Ao53 y123.length co53 : Value).ownBlock ∧ some k_ ≠ (v135 : Value).ownBlock ∧ k_ ≠ gb118)) (by (with_reducible repeat (first | apply Kd.V_alloc | apply Kd.V_drewN | apply Kd.V_drew)); exact Kd.V_mono HO0.out (fun _ hk => ⟨⟨hk.1.1.1.1, ⟨hk.1.1.2, ⟨hk.1.2, hk.1.1.1.2⟩⟩⟩, hk.2⟩)) hg hat)
                            have n1_ := Aside0.mk (Kd.V_afterv (ok := (fun k_ => ((P0_ k_ ∨ P1_1_ k_) ∨ w.heap.size ≤ k_) ∧ some k_ ≠ (.slice Ao53 y123.length co53 : Value).ownBlock ∧ some k_ ≠ (v135 : Value).ownBlock ∧ k_ ≠ gb118)) (by (with_reducible repeat (first | apply Kd.V_alloc | apply Kd.V_drewN | apply Kd.V_drew)); exact Kd.V_mono HO1_1.out (fun _ hk => ⟨⟨hk.1.1.1.1, ⟨hk.1.1.2, ⟨hk.1.2, hk.1.1.1.2⟩⟩⟩, hk.2⟩)) hg hat)
                            have n2_ := Aside0.mk (blk_grown (g := gb118) (o := .cells #[.string a1_0, .slice A1_1 l1_1.length c1_1] 43 (0, 0)) (by (with_reducible repeat (first | refine blk_drewN ?_ _ | refine blk_drew ?_ | refine blk_alloc ?_ _)); exact BK118.out) hg (Kd.N_ne HO130.out BK118.out (by decide)))
                            have n3_ := Aside0.mk (Kd.N_afterv (ok := (fun k_ => ((P0_ k_ ∨ P1_1_ k_) ∨ w.heap.size ≤ k_) ∧ some k_ ≠ (v135 : Value).ownBlock ∧ k_ ≠ gb118)) (by (with_reducible repeat (first | apply Kd.N_alloc | apply Kd.N_drewN | apply Kd.N_drew)); exact Kd.N_mono HO125.out (fun _ hk => ⟨⟨hk.1.1.1, ⟨hk.1.2, hk.1.1.2⟩⟩, hk.2⟩)) hg hat)
                            have n4_ := Aside0.mk (Kd.N_afterv (ok := (fun k_ => ((P0_ k_ ∨ P1_1_ k_) ∨ w.heap.size ≤ k_) ∧ some k_ ≠ (.slice Ao53 y123.length co53 : Value).ownBlock ∧ k_ ≠ gb118)) (by (with_reducible repeat (first | apply Kd.N_alloc | apply Kd.N_drewN | apply Kd.N_drew)); exact HO136.out) hg hat)
                            have n5_ := Aside0.mk (hb)
                            have n6_ := Aside0.mk (ho)
                            clear HO0
                            clear HO1_1
                            clear BK118
                            clear HO125
                            clear HO136
                            clear HB
                            clear HO130
                            have HO0 := n0_
                            have HO1_1 := n1_
                            have BK118 := n2_
                            have HO125 := n3_
                            have HO136 := n4_
                            have HB := n5_
                            have HO133 := n6_
                            clear n0_ n1_ n2_ n3_ n4_ n5_ n6_
                            clear ho hb hg hat
                            refine hK.out _ _ ⟨(blk_cell BK118.out 0).trans rfl, (blk_cell BK118.out 1).trans rfl⟩ (fun hHeld => ?_)
                            clear hK K
                            refine norm_ (a' := ?_) ?_ ?_
                            rotate_left
                            · show Act.put _ (some 37) _ = _
                              simp only [Act.put, List.setIfInBounds_toArray, List.set_cons_zero, List.set_cons_succ, i64_w, i32_w]
                              rfl
                            exact norm_ (by simp only [putAll, Act.put, List.setIfInBounds_toArray, List.set_cons_zero, List.set_cons_succ]) (hCont (v129, v132, v135) _ ⟨hHeld, (by (with_reducible repeat (first | apply Kd.V_alloc | apply Kd.V_drewN | apply Kd.V_drew)); exact Kd.V_mono HO0.out (fun _ hk => ⟨hk.1.1, ⟨hk.1.2.1, ⟨hk.2, ⟨hk.1.2.2.1, hk.1.2.2.2⟩⟩⟩⟩)), (by (with_reducible repeat (first | apply Kd.N_alloc | apply Kd.N_drewN | apply Kd.N_drew)); exact Kd.N_mono HO125.out (fun _ hk => ⟨hk.1.1, ⟨hk.2, ⟨hk.1.2.1, hk.1.2.2⟩⟩⟩)), (by (with_reducible repeat (first | apply Kd.N_alloc | apply Kd.N_drewN | apply Kd.N_drew)); exact HO133.out), (by (with_reducible repeat (first | apply Kd.N_alloc | apply Kd.N_drewN | apply Kd.N_drew)); exact Kd.N_mono HO136.out (fun _ hk => ⟨hk.1.1, ⟨hk.1.2.1, ⟨hk.2, hk.1.2.2⟩⟩⟩)), (by (with_reducible repeat (first | apply Kd.V_alloc | apply Kd.V_drewN | apply Kd.V_drew)); exact Kd.V_mono HO1_1.out (fun _ hk => ⟨hk.1.1, ⟨hk.1.2.1, ⟨hk.2, ⟨hk.1.2.2.1, hk.1.2.2.2⟩⟩⟩⟩)), (by (with_reducible repeat (first | refine blk_drewN ?_ _ | refine blk_drew ?_ | refine blk_alloc ?_ _)); exact BK118.out), (by repeat (first | (with_reducible first | exact HB.out | apply below_alloc | apply pw_below_drewN | apply below_drew1 | refine below_set ?_ GE118.out) | exact HB.out))⟩)
                        rintro ⟨v129, v132, v135⟩ w61 ⟨hS_, h0_, h1_, h2_, h3_, h4_, h5_, h6_⟩
                        have n0_ : Aside0 (Kd.V k45 45 w61 w.heap.size (fun k_ => ((P0_ k_ ∨ P1_1_ k_) ∨ w.heap.size ≤ k_) ∧ some k_ ≠ (.slice Ao53 y123.length co53 : Value).ownBlock ∧ some k_ ≠ (v132 : Value).ownBlock ∧ some k_ ≠ (v135 : Value).ownBlock ∧ k_ ≠ gb118) (.slice A0 l0.length c0) l0) := ⟨h0_⟩
                        have n1_ : Aside0 (Kd.N k45 45 w61 w.heap.size (fun k_ => ((P0_ k_ ∨ P1_1_ k_) ∨ w.heap.size ≤ k_) ∧ some k_ ≠ (v132 : Value).ownBlock ∧ some k_ ≠ (v135 : Value).ownBlock ∧ k_ ≠ gb118) (.slice Ao53 y123.length co53) y123) := ⟨h1_⟩
                        have n2_ : Aside0 (Kd.N k45 45 w61 w.heap.size (fun k_ => ((P0_ k_ ∨ P1_1_ k_) ∨ w.heap.size ≤ k_) ∧ some k_ ≠ (.slice Ao53 y123.length co53 : Value).ownBlock ∧ some k_ ≠ (v135 : Value).ownBlock ∧ k_ ≠ gb118) v132 y131) := ⟨h2_⟩
                        have n3_ : Aside0 (Kd.N k45 45 w61 w.heap.size (fun k_ => ((P0_ k_ ∨ P1_1_ k_) ∨ w.heap.size ≤ k_) ∧ some k_ ≠ (.slice Ao53 y123.length co53 : Value).ownBlock ∧ some k_ ≠ (v132 : Value).ownBlock ∧ k_ ≠ gb118) v135 y134) := ⟨h3_⟩
                        have n4_ : Aside0 (Kd.V Kd.string 9 w61 w.heap.size (fun k_ => ((P0_ k_ ∨ P1_1_ k_) ∨ w.heap.size ≤ k_) ∧ some k_ ≠ (.slice Ao53 y123.length co53 : Value).ownBlock ∧ some k_ ≠ (v132 : Value).ownBlock ∧ some k_ ≠ (v135 : Value).ownBlock ∧ k_ ≠ gb118) (.slice A1_1 l1_1.length c1_1) l1_1) := ⟨h4_⟩
                        have n5_ : Aside0 (w61.heap[gb118]? = some (.cells #[.string a1_0, .slice A1_1 l1_1.length c1_1] 43 (0, 0))) := ⟨h5_⟩
                        have n6_ : Aside0 (Below w.heap.size w w61) := ⟨h6_⟩
                        clear HO0
                        clear HO1_1
                        clear HO125
                        clear BK118
                        clear HB
                        clear h0_ h1_ h2_ h3_ h4_ h5_ h6_
                        have HO0 := n0_
                        have HO125 := n1_
                        have HO133 := n2_
                        have HO136 := n3_
                        have HO1_1 := n4_
                        have BK118 := n5_
                        have HB := n6_
                        clear n0_ n1_ n2_ n3_ n4_ n5_ n6_
                        have hHeld : w61.cell? ⟨gb118, 0, none⟩ = some (.string a1_0) ∧ w61.cell? ⟨gb118, 1, none⟩ = some (.slice A1_1 l1_1.length c1_1) := hS_
                        obtain ⟨Ao63, co63, eo63⟩ := Kd.N_slice HO136.out
                        (first | subst eo63 | (injection eo63 with f1_ f2_ f3_; have f4_ := f1_.symm; have f5_ := f3_.symm; clear f1_ f2_ f3_; subst f4_; subst f5_))
                        refine norm_ (a' := ?_) ?_ ?_
                        rotate_left
                        · simp only [putAll, Act.put, List.setIfInBounds_toArray, List.set_cons_zero, List.set_cons_succ]
                          rfl
                        refine one_ (i := 7) (N := some 42) #[true, true, true, true, true, true, true, true, true, false, false, false, false, false, false] rfl rfl (one_of HT_.out (by kernel_rfl)) (by decide) (fun K hK => ?_)
                        refine Kd.N_append_rows_step k45 (w0 := w) w.heap.size (by rfl) (.tmp 37) (.tmp 41) 40 45 (.agg #[(.string ⟨#[]⟩), (.slice none 0 0), (.int .i64 0)]) 48 rfl Try.underlying40 info45 rfl (by decide) (by omega) v132 y131 y134 _ _ _ (fun k_ => ((P0_ k_ ∨ P1_1_ k_) ∨ w.heap.size ≤ k_) ∧ some k_ ≠ (.slice Ao53 y123.length co53 : Value).ownBlock ∧ k_ ≠ gb118) (fun k_ => ((fun k_ => ((P0_ k_ ∨ P1_1_ k_) ∨ w.heap.size ≤ k_) ∧ some k_ ≠ (.slice Ao53 y123.length co53 : Value).ownBlock ∧ k_ ≠ gb118)) k_ ∧ some k_ ≠ (v132 : Value).ownBlock) rfl rfl ?aO ?aR (fun _ hk => hk) ?aF ?aB ?aS ?aL ?_
                        (case aR => exact (by skip; exact Kd.N_F (Kd.N_mono (ok' := (fun k_ => ((fun k_ => ((P0_ k_ ∨ P1_1_ k_) ∨ w.heap.size ≤ k_) ∧ some k_ ≠ (.slice Ao53 y123.length co53 : Value).ownBlock ∧ k_ ≠ gb118)) k_ ∧ some k_ ≠ (v132 : Value).ownBlock)) (HO136.out) (fun k_ hk => ⟨⟨hk.1, ⟨hk.2.1, hk.2.2.2⟩⟩, hk.2.2.1⟩))))
                        (case aB => exact (by repeat (first | (with_reducible first | exact HB.out | apply below_alloc | apply pw_below_drewN | apply below_drew1 | refine below_set ?_ GE118.out) | exact HB.out)))
                        (case aF => exact (fun k_ hk => ⟨(.inr (Nat.le_trans (below_size (by repeat (first | (with_reducible first | exact HB.out | apply below_alloc | apply pw_below_drewN | apply below_drew1 | refine below_set ?_ GE118.out) | exact HB.out))) hk)), Kd.fresh' (Kd.N_lt (by (with_reducible repeat (first | apply Kd.N_alloc | apply Kd.N_drewN | apply Kd.N_drew)); exact HO125.out)) k_ hk, Kd.freshB (g := gb118) (o := .cells #[.string a1_0, .slice A1_1 l1_1.length c1_1] 43 (0, 0)) (by (with_reducible repeat (first | refine blk_drewN ?_ _ | refine blk_drew ?_ | refine blk_alloc ?_ _)); exact BK118.out) k_ hk⟩))
                        (case aO => exact (by (with_reducible repeat (first | apply Kd.N_alloc | apply Kd.N_drewN | apply Kd.N_drew)); exact Kd.N_mono HO133.out (fun _ hk => ⟨hk.1, ⟨hk.2.1, hk.2.2.2⟩⟩)))
                        (case aS => exact (below_size (by repeat (first | (with_reducible first | exact HB.out | apply below_alloc | apply pw_below_drewN | apply below_drew1 | refine below_set ?_ GE118.out) | exact HB.out))))
                        (case aL => have := LMc11.out; omega)
                        intro v138 w62 ho hb hg hat
                        rw [← Ny137.out] at ho
                        have n0_ := Aside0.mk (Kd.V_afterv (ok := (fun k_ => ((P0_ k_ ∨ P1_1_ k_) ∨ w.heap.size ≤ k_) ∧ some k_ ≠ (.slice Ao53 y123.length co53 : Value).ownBlock ∧ some k_ ≠ (.slice Ao63 y134.length co63 : Value).ownBlock ∧ k_ ≠ gb118)) (by (with_reducible repeat (first | apply Kd.V_alloc | apply Kd.V_drewN | apply Kd.V_drew)); exact Kd.V_mono HO0.out (fun _ hk => ⟨⟨hk.1, ⟨hk.2.1, ⟨hk.2.2.2.1, hk.2.2.2.2⟩⟩⟩, hk.2.2.1⟩)) hg hat)
                        have n1_ := Aside0.mk (Kd.V_afterv (ok := (fun k_ => ((P0_ k_ ∨ P1_1_ k_) ∨ w.heap.size ≤ k_) ∧ some k_ ≠ (.slice Ao53 y123.length co53 : Value).ownBlock ∧ some k_ ≠ (.slice Ao63 y134.length co63 : Value).ownBlock ∧ k_ ≠ gb118)) (by (with_reducible repeat (first | apply Kd.V_alloc | apply Kd.V_drewN | apply Kd.V_drew)); exact Kd.V_mono HO1_1.out (fun _ hk => ⟨⟨hk.1, ⟨hk.2.1, ⟨hk.2.2.2.1, hk.2.2.2.2⟩⟩⟩, hk.2.2.1⟩)) hg hat)
                        have n2_ := Aside0.mk (blk_grown (g := gb118) (o := .cells #[.string a1_0, .slice A1_1 l1_1.length c1_1] 43 (0, 0)) (by (with_reducible repeat (first | refine blk_drewN ?_ _ | refine blk_drew ?_ | refine blk_alloc ?_ _)); exact BK118.out) hg (Kd.N_ne HO133.out BK118.out (by decide)))
                        have n3_ := Aside0.mk (Kd.N_afterv (ok := (fun k_ => ((P0_ k_ ∨ P1_1_ k_) ∨ w.heap.size ≤ k_) ∧ some k_ ≠ (.slice Ao63 y134.length co63 : Value).ownBlock ∧ k_ ≠ gb118)) (by (with_reducible repeat (first | apply Kd.N_alloc | apply Kd.N_drewN | apply Kd.N_drew)); exact Kd.N_mono HO125.out (fun _ hk => ⟨⟨hk.1, ⟨hk.2.2.1, hk.2.2.2⟩⟩, hk.2.1⟩)) hg hat)
                        have n4_ := Aside0.mk (Kd.N_afterv (ok := (fun k_ => ((P0_ k_ ∨ P1_1_ k_) ∨ w.heap.size ≤ k_) ∧ some k_ ≠ (.slice Ao53 y123.length co53 : Value).ownBlock ∧ k_ ≠ gb118)) (by (with_reducible repeat (first | apply Kd.N_alloc | apply Kd.N_drewN | apply Kd.N_drew)); exact Kd.N_mono HO136.out (fun _ hk => ⟨⟨hk.1, ⟨hk.2.1, hk.2.2.2⟩⟩, hk.2.2.1⟩)) hg hat)
                        have n5_ := Aside0.mk (hb)
                        have n6_ := Aside0.mk (ho)
                        clear HO0
                        clear HO1_1
                        clear BK118
                        clear HO125
                        clear HO136
                        clear HB
                        clear HO133
                        have HO0 := n0_
                        have HO1_1 := n1_
                        have BK118 := n2_
                        have HO125 := n3_
                        have HO136 := n4_
                        have HB := n5_
                        have HO139 := n6_
                        clear n0_ n1_ n2_ n3_ n4_ n5_ n6_
                        clear ho hb hg hat
                        obtain ⟨Ao64, co64, eo64⟩ := Kd.N_slice HO139.out
                        (first | subst eo64 | (injection eo64 with f1_ f2_ f3_; have f4_ := f1_.symm; have f5_ := f3_.symm; clear f1_ f2_ f3_; subst f4_; subst f5_))
                        refine hK.out _ _ ⟨(blk_cell BK118.out 0).trans rfl, (blk_cell BK118.out 1).trans rfl⟩ (fun hHeld => ?_)
                        clear hK K
                        refine norm_ (a' := ?_) ?_ ?_
                        rotate_left
                        · show Act.put _ (some 42) _ = _
                          simp only [Act.put, List.setIfInBounds_toArray, List.set_cons_zero, List.set_cons_succ, i64_w, i32_w]
                          rfl
                        refine one_ (i := 9) (N := some 44) #[true, true, true, true, true, true, true, true, true, true, false, false, false, false, false] rfl rfl (one_of HT_.out (by kernel_rfl)) (by decide) (fun K hK => ?_)
                        refine goes_ Try.func19 (by kernel_rfl) rfl #[.slice Ao64 y137.length co64, .agg #[.string a1_0, .slice A1_1 l1_1.length c1_1]] (by rfl) rfl rfl (by (try simp only [List.map_toArray, List.map_cons, List.map_nil]); first | done | rfl | (simp only [List.length_drop, List.length_take]; rfl)) ?_
                        with_reducible refine (princs_Lookup.calls _ _ y137 a1_0 _ _ l1_1 t140 true _ ?side1 ?side2 ?side3 ?side4 A12.out).mono ?_
                        (case side1 => repeat (first | exact (Kd.N_reads' HO139.out).2.2 | (with_reducible refine Kd.C_alloc ?_ _) | (with_reducible refine Kd.C_drewN ?_ _) | (with_reducible refine Kd.C_drew ?_)))
                        (case side2 => exact (Kd.N_reads' HO139.out).2.1)
                        (case side3 => repeat (first | exact (Kd.V_reads' HO1_1.out).2.2 | (with_reducible refine Kd.C_alloc ?_ _) | (with_reducible refine Kd.C_drewN ?_ _) | (with_reducible refine Kd.C_drew ?_)))
                        (case side4 => exact (Kd.V_reads' HO1_1.out).2.1)
                        rintro e w65 ⟨rfl, hb⟩
                        refine ⟨_, rfl, ?_⟩
                        have n0_ := Aside0.mk (Kd.V_below (by (with_reducible repeat (first | apply Kd.V_alloc | apply Kd.V_drewN | apply Kd.V_drew)); exact HO0.out) hb)
                        have n1_ := Aside0.mk (Kd.V_below (by (with_reducible repeat (first | apply Kd.V_alloc | apply Kd.V_drewN | apply Kd.V_drew)); exact HO1_1.out) hb)
                        have n2_ := Aside0.mk (Kd.N_below (by (with_reducible repeat (first | apply Kd.N_alloc | apply Kd.N_drewN | apply Kd.N_drew)); exact HO125.out) hb)
                        have n3_ := Aside0.mk (Kd.N_below (by (with_reducible repeat (first | apply Kd.N_alloc | apply Kd.N_drewN | apply Kd.N_drew)); exact HO136.out) hb)
                        have n4_ := Aside0.mk (Kd.N_below (by (with_reducible repeat (first | apply Kd.N_alloc | apply Kd.N_drewN | apply Kd.N_drew)); exact HO139.out) hb)
                        have n5_ := Aside0.mk (blk_below (g := gb118) (o := .cells #[.string a1_0, .slice A1_1 l1_1.length c1_1] 43 (0, 0)) (by (with_reducible repeat (first | refine blk_drewN ?_ _ | refine blk_drew ?_ | refine blk_alloc ?_ _)); exact BK118.out) hb)
                        have n6_ := Aside0.mk (below_step (by repeat (first | (with_reducible first | exact HB.out | apply below_alloc | apply pw_below_drewN | apply below_drew1 | refine below_set ?_ GE118.out) | exact HB.out)) hb)
                        clear HO0
                        clear HO1_1
                        clear HO125
                        clear HO136
                        clear HO139
                        clear BK118
                        clear HB
                        have HO0 := n0_
                        have HO1_1 := n1_
                        have HO125 := n2_
                        have HO136 := n3_
                        have HO139 := n4_
                        have BK118 := n5_
                        have HB := n6_
                        clear n0_ n1_ n2_ n3_ n4_ n5_ n6_
                        (try clear hb)
                        (try clear hb2)
                        (try clear hk)
                        (try clear hi)
                        refine hK.out _ _ ⟨(blk_cell BK118.out 0).trans rfl, (blk_cell BK118.out 1).trans rfl⟩ (fun hHeld => ?_)
                        clear hK K
                        refine norm_ (a' := ?_) ?_ ?_
                        rotate_left
                        · show Act.put _ (some 44) _ = _
                          simp only [Act.put, List.setIfInBounds_toArray, List.set_cons_zero, List.set_cons_succ, i64_w, i32_w]
                          rfl
                        refine pure_ (i := 10) (N := some 34) (v := ?_) (a' := ?_) #[true, true, true, true, true, true, true, true, true, true, true, false, false, false, false] rfl rfl (any_of HT_.out (by kernel_rfl)) (fun _ _ _ h => h) (Or.inl ⟨by rfl, ?_⟩) ?_ ?_
                        rotate_left
                        · intro w'
                          go_simp
                          with_reducible rfl
                        rotate_left
                        · simp only [Act.put, List.setIfInBounds_toArray, List.set_cons_zero, List.set_cons_succ, i64_w, i32_w]
                          rfl
                        refine pure_ (i := 11) (N := some 45) (v := ?_) (a' := ?_) #[true, true, true, true, true, true, true, true, true, true, true, true, false, false, false] rfl rfl (any_of HT_.out (by kernel_rfl)) (fun _ _ _ h => h) (Or.inl ⟨by rfl, ?_⟩) ?_ ?_
                        rotate_left
                        · intro w'
                          go_simp
                          with_reducible rfl
                        rotate_left
                        · simp only [Act.put, List.setIfInBounds_toArray, List.set_cons_zero, List.set_cons_succ, i64_w, i32_w]
                          rfl
                        refine pure_ (i := 12) (N := some 46) (v := ?_) (a' := ?_) #[true, true, true, true, true, true, true, true, true, true, true, true, true, false, false] rfl rfl (any_of HT_.out (by kernel_rfl)) (fun _ _ _ h => h) (Or.inl ⟨by rfl, ?_⟩) ?_ ?_
                        rotate_left
                        · intro w'
                          go_simp
                          with_reducible rfl
                        rotate_left
                        · simp only [Act.put, List.setIfInBounds_toArray, List.set_cons_zero, List.set_cons_succ, i64_w, i32_w]
                          rfl
                        refine pure_ (i := 13) (N := some 11) (v := ?_) (a' := ?_) #[true, true, true, true, true, true, true, true, true, true, true, true, true, true, false] rfl rfl (any_of HT_.out (by kernel_rfl)) (fun _ _ _ h => h) (Or.inl ⟨by rfl, ?_⟩) ?_ ?_
                        rotate_left
                        · intro w'
                          go_simp
                          with_reducible rfl
                        rotate_left
                        · simp only [Act.put, List.setIfInBounds_toArray, List.set_cons_zero, List.set_cons_succ, i64_w, i32_w]
                          rfl
                        refine pure_ (i := 14) (N := some 12) (v := ?_) (a' := ?_) #[true, true, true, true, true, true, true, true, true, true, true, true, true, true, true] rfl rfl (any_of HT_.out (by kernel_rfl)) (fun _ _ _ h => h) (Or.inl ⟨by rfl, ?_⟩) ?_ ?_
                        rotate_left
                        · intro w'
                          go_simp
                          with_reducible rfl
                        rotate_left
                        · simp only [Act.put, List.setIfInBounds_toArray, List.set_cons_zero, List.set_cons_succ, i64_w, i32_w]
                          rfl
                        refine done_ (done_of HT_.out (by kernel_rfl)) ?_
                        have hcz66_0 : w65.cell? ⟨gb118, 0, none⟩ = some (.string a1_0) := (blk_cell BK118.out 0).trans rfl
                        have hcz66_1 : w65.cell? ⟨gb118, 1, none⟩ = some (.slice A1_1 l1_1.length c1_1) := (blk_cell BK118.out 1).trans rfl
                        have hfz66_0 := blk_frozen BK118.out 0
                        have hfz66_1 := blk_frozen BK118.out 1
                        try go_wp2_with (first | ((with_reducible refine gate_callee (f := 19) rfl ?_); refine goesL_ (some 50) rfl rfl Try.func19 (by kernel_rfl) rfl #[.slice A0 l0.length c0, .agg #[.string a1_0, .slice A1_1 l1_1.length c1_1]] rfl (by (try simp only [List.map_toArray, List.map_cons, List.map_nil]); first | done | rfl | (simp only [List.length_drop, List.length_take]; rfl)) ?_; (with_reducible refine (princs_Lookup.calls _ _ l0 a1_0 _ _ l1_1 t142 true _ ?side1 ?side2 ?side3 ?side4 A13.out).mono ?_); (case side1 => repeat (first | exact (Kd.V_reads' HO0.out).2.2 | (with_reducible refine Kd.C_alloc ?_ _) | (with_reducible refine Kd.C_drewN ?_ _) | (with_reducible refine Kd.C_drew ?_))); (case side2 => exact (Kd.V_reads' HO0.out).2.1); (case side3 => repeat (first | exact (Kd.V_reads' HO1_1.out).2.2 | (with_reducible refine Kd.C_alloc ?_ _) | (with_reducible refine Kd.C_drewN ?_ _) | (with_reducible refine Kd.C_drew ?_))); (case side4 => exact (Kd.V_reads' HO1_1.out).2.1); rintro e w67 ⟨rfl, hb⟩; refine ⟨_, rfl, ?_⟩; have n0_ := Aside0.mk (Kd.V_below (by (with_reducible repeat (first | apply Kd.V_alloc | apply Kd.V_drewN | apply Kd.V_drew)); exact HO0.out) hb); have n1_ := Aside0.mk (Kd.V_below (by (with_reducible repeat (first | apply Kd.V_alloc | apply Kd.V_drewN | apply Kd.V_drew)); exact HO1_1.out) hb); have n2_ := Aside0.mk (Kd.N_below (by (with_reducible repeat (first | apply Kd.N_alloc | apply Kd.N_drewN | apply Kd.N_drew)); exact HO125.out) hb); have n3_ := Aside0.mk (Kd.N_below (by (with_reducible repeat (first | apply Kd.N_alloc | apply Kd.N_drewN | apply Kd.N_drew)); exact HO136.out) hb); have n4_ := Aside0.mk (Kd.N_below (by (with_reducible repeat (first | apply Kd.N_alloc | apply Kd.N_drewN | apply Kd.N_drew)); exact HO139.out) hb); have n5_ := Aside0.mk (blk_below (g := gb118) (o := .cells #[.string a1_0, .slice A1_1 l1_1.length c1_1] 43 (0, 0)) (by (with_reducible repeat (first | refine blk_drewN ?_ _ | refine blk_drew ?_ | refine blk_alloc ?_ _)); exact BK118.out) hb); have n6_ := Aside0.mk (below_step (by repeat (first | (with_reducible first | exact HB.out | apply below_alloc | apply pw_below_drewN | apply below_drew1 | refine below_set ?_ GE118.out) | exact HB.out)) hb); clear HO0; clear HO1_1; clear HO125; clear HO136; clear HO139; clear BK118; clear HB; have HO0 := n0_; have HO1_1 := n1_; have HO125 := n2_; have HO136 := n3_; have HO139 := n4_; have BK118 := n5_; have HB := n6_; clear n0_ n1_ n2_ n3_ n4_ n5_ n6_; (try clear hb); (try clear hb2); (try clear hk); (try clear hi); have hcz68_0 : w67.cell? ⟨gb118, 0, none⟩ = some (.string a1_0) := (blk_cell BK118.out 0).trans rfl; have hcz68_1 : w67.cell? ⟨gb118, 1, none⟩ = some (.slice A1_1 l1_1.length c1_1) := (blk_cell BK118.out 1).trans rfl; have hfz68_0 := blk_frozen BK118.out 0; have hfz68_1 := blk_frozen BK118.out 1) | ((with_reducible refine gate_callee (f := 19) rfl ?_); refine goesL_ (some 55) rfl rfl Try.func19 (by kernel_rfl) rfl #[.slice none 0 0, .agg #[.string a1_0, .slice A1_1 l1_1.length c1_1]] rfl (by (try simp only [List.map_toArray, List.map_cons, List.map_nil]); first | done | rfl | (simp only [List.length_drop, List.length_take]; rfl)) ?_; (refine (princs_Lookup.calls _ _ ([] : List (S45)) a1_0 _ _ l1_1 t144 false _ ?side1 ?side2 ?side3 ?side4 A14.out).mono ?_); (case side1 => exact Kd.C_nil _ _); (case side2 => exact Nat.le_refl _); (case side3 => repeat (first | exact (Kd.V_reads' HO1_1.out).2.2 | (with_reducible refine Kd.C_alloc ?_ _) | (with_reducible refine Kd.C_drewN ?_ _) | (with_reducible refine Kd.C_drew ?_))); (case side4 => exact (Kd.V_reads' HO1_1.out).2.1); rintro e w69 ⟨rfl, hb⟩; refine ⟨_, rfl, ?_⟩; have n0_ := Aside0.mk (Kd.V_below (by (with_reducible repeat (first | apply Kd.V_alloc | apply Kd.V_drewN | apply Kd.V_drew)); exact HO0.out) hb); have n1_ := Aside0.mk (Kd.V_below (by (with_reducible repeat (first | apply Kd.V_alloc | apply Kd.V_drewN | apply Kd.V_drew)); exact HO1_1.out) hb); have n2_ := Aside0.mk (Kd.N_below (by (with_reducible repeat (first | apply Kd.N_alloc | apply Kd.N_drewN | apply Kd.N_drew)); exact HO125.out) hb); have n3_ := Aside0.mk (Kd.N_below (by (with_reducible repeat (first | apply Kd.N_alloc | apply Kd.N_drewN | apply Kd.N_drew)); exact HO136.out) hb); have n4_ := Aside0.mk (Kd.N_below (by (with_reducible repeat (first | apply Kd.N_alloc | apply Kd.N_drewN | apply Kd.N_drew)); exact HO139.out) hb); have n5_ := Aside0.mk (blk_below (g := gb118) (o := .cells #[.string a1_0, .slice A1_1 l1_1.length c1_1] 43 (0, 0)) (by (with_reducible repeat (first | refine blk_drewN ?_ _ | refine blk_drew ?_ | refine blk_alloc ?_ _)); exact BK118.out) hb); have n6_ := Aside0.mk (below_step (by repeat (first | (with_reducible first | exact HB.out | apply below_alloc | apply pw_below_drewN | apply below_drew1 | refine below_set ?_ GE118.out) | exact HB.out)) hb); clear HO0; clear HO1_1; clear HO125; clear HO136; clear HO139; clear BK118; clear HB; have HO0 := n0_; have HO1_1 := n1_; have HO125 := n2_; have HO136 := n3_; have HO139 := n4_; have BK118 := n5_; have HB := n6_; clear n0_ n1_ n2_ n3_ n4_ n5_ n6_; (try clear hb); (try clear hb2); (try clear hk); (try clear hi)))
                        go_ret
                        exact ⟨by first | rfl | (simp [errW_none, errW_some] <;> rfl) | (simp [*, errW_none, errW_some] <;> rfl), by repeat (first | (with_reducible first | exact HB.out | apply below_alloc | apply pw_below_drewN | apply below_drew1 | refine below_set ?_ GE118.out) | exact HB.out)⟩
                      · rw [if_neg c45] at H
                        exact absurd ((Option.some.inj H).trans hrt) (by decide)
                    · replace c44 := Bool.eq_false_iff.mpr c44
                      subst c44
                      have H1 : (if t140 = a2 then (some (t142 == (-1))) else (some false)) = some r := by rw [if_neg (show ¬ (false = true) by decide)] at H; exact H
                      clear H
                      have H := H1
                      clear H1
                      by_cases c94 : t140 = a2
                      · rw [if_pos c94] at H
                        have c94b0 : (t140 == a2) = true := beq_iff_eq.mpr c94
                        have c94b1 : (t140 != a2) = false := bne_eq_false_iff_eq.mpr c94
                        clear c94
                        obtain rfl := Option.some.inj H
                        go_enter Try.func7, Try.ntmps7
                        try go_wp2_with (first | ((with_reducible refine gate_dst (N := 4) rfl ?_); refine box_event ?hg (N := 4) ?hd (cs := #[.string a1_0, .slice A1_1 l1_1.length c1_1]) (t := 43) ?hr ?_; (case hd => rfl); (case hg => rfl); (case hr => first | (go_simp; done) | (go_simp; rfl)); intro gb118 hg w95 hbox hb; have n0_ := Aside0.mk (Kd.V_below (Kd.V_elderB (by (with_reducible repeat (first | apply Kd.V_alloc | apply Kd.V_drewN | apply Kd.V_drew)); exact HO0.out) gb118 (Nat.le_of_eq hg.symm)) hb); have n1_ := Aside0.mk (Kd.V_below (Kd.V_elderB (by (with_reducible repeat (first | apply Kd.V_alloc | apply Kd.V_drewN | apply Kd.V_drew)); exact HO1_1.out) gb118 (Nat.le_of_eq hg.symm)) hb); have n2_ := Aside0.mk (below_step (by repeat (first | (with_reducible first | exact HB.out | apply below_alloc | apply pw_below_drewN | apply below_drew1) | exact HB.out)) hb); have n3_ := Aside0.mk (hbox); have n4_ := Aside0.mk ((by rw [hg]; exact (below_size (by repeat (first | (with_reducible first | exact HB.out | apply below_alloc | apply pw_below_drewN | apply below_drew1) | exact HB.out))) : w.heap.size ≤ gb118)); have n5_ := Aside0.mk ((by rw [hg]; exact (below_size (by repeat (first | (with_reducible first | exact HB.out | apply below_alloc | apply pw_below_drewN | apply below_drew1) | exact HB.out))) : w.heap.size ≤ gb118)); clear HO0; clear HO1_1; clear HB; have HO0 := n0_; have HO1_1 := n1_; have HB := n2_; have BK118 := n3_; have GW118 := n4_; have GE118 := n5_; clear n0_ n1_ n2_ n3_ n4_ n5_; clear hb hbox hg) | ((with_reducible refine gate_callee (f := 18) rfl ?_); refine goesL_ (some 17) rfl rfl Try.func18 (by kernel_rfl) rfl #[] rfl (by (try simp only [List.map_toArray, List.map_cons, List.map_nil]); first | done | rfl | (simp only [List.length_drop, List.length_take]; rfl)) ?_; (with_reducible refine (warderlaw21_head.calls  true _ A4.out).mono ?_); rintro e w96 ⟨rfl, hb⟩; refine ⟨_, rfl, ?_⟩; have n0_ := Aside0.mk (Kd.V_below (by (with_reducible repeat (first | apply Kd.V_alloc | apply Kd.V_drewN | apply Kd.V_drew)); exact HO0.out) hb); have n1_ := Aside0.mk (Kd.V_below (by (with_reducible repeat (first | apply Kd.V_alloc | apply Kd.V_drewN | apply Kd.V_drew)); exact HO1_1.out) hb); have n2_ := Aside0.mk (blk_below (g := gb118) (o := .cells #[.string a1_0, .slice A1_1 l1_1.length c1_1] 43 (0, 0)) (by (with_reducible repeat (first | refine blk_drewN ?_ _ | refine blk_drew ?_ | refine blk_alloc ?_ _)); exact BK118.out) hb); have n3_ := Aside0.mk (below_step (by repeat (first | (with_reducible first | exact HB.out | apply below_alloc | apply pw_below_drewN | apply below_drew1 | refine below_set ?_ GE118.out) | exact HB.out)) hb); clear HO0; clear HO1_1; clear BK118; clear HB; have HO0 := n0_; have HO1_1 := n1_; have BK118 := n2_; have HB := n3_; clear n0_ n1_ n2_ n3_; (try clear hb); (try clear hb2); (try clear hk); (try clear hi); have hcz97_0 : w96.cell? ⟨gb118, 0, none⟩ = some (.string a1_0) := (blk_cell BK118.out 0).trans rfl; have hcz97_1 : w96.cell? ⟨gb118, 1, none⟩ = some (.slice A1_1 l1_1.length c1_1) := (blk_cell BK118.out 1).trans rfl; have hfz97_0 := blk_frozen BK118.out 0; have hfz97_1 := blk_frozen BK118.out 1) | ((with_reducible refine gate_dst (N := 25) rfl ?_); refine Kd.N_lit k45 _ 45 ?hg (N' := 25) ?hd (xs := ([(⟨(⟨a1_0, l1_1⟩ : S43), a2⟩ : S45)] : List (S45))) (inner := [.string a1_0, .slice A1_1 l1_1.length c1_1, .int .i64 a2]) (ok := (fun k_ => ((P0_ k_ ∨ P1_1_ k_) ∨ w.heap.size ≤ k_) ∧ k_ ≠ gb118)) (okp := (fun k_ => ((P0_ k_ ∨ P1_1_ k_) ∨ w.heap.size ≤ k_) ∧ k_ ≠ gb118)) ?hr ?hp (fun _ hk => hk) ((show ∀ k_, w96.heap.size ≤ k_ → (fun k_ => ((P0_ k_ ∨ P1_1_ k_) ∨ w.heap.size ≤ k_) ∧ k_ ≠ gb118) k_ from fun k_ hk => ⟨(.inr (Nat.le_trans (below_size (by repeat (first | (with_reducible first | exact HB.out | apply below_alloc | apply pw_below_drewN | apply below_drew1 | refine below_set ?_ GE118.out) | exact HB.out))) hk)), Kd.freshB (g := gb118) (o := .cells #[.string a1_0, .slice A1_1 l1_1.length c1_1] 43 (0, 0)) (by (with_reducible repeat (first | refine blk_drewN ?_ _ | refine blk_drew ?_ | refine blk_alloc ?_ _)); exact BK118.out) k_ hk⟩) _ (Nat.le_refl _)) (Below.refl _ _) (Nat.le_refl _) (by simp) ?_; (case hd => rfl); (case hg => rfl); (case hr => first | (go_simp; done) | (go_simp; rfl)); (case hp => exact (Reps.c3 (show Kd.FK k45 _ _ (⟨(⟨a1_0, l1_1⟩ : S43), a2⟩ : S45) [.string a1_0, .slice A1_1 l1_1.length c1_1, .int .i64 a2] from (k45_mkF _ _ (⟨(⟨a1_0, l1_1⟩ : S43), a2⟩ : S45) (Kd.V_reads' (Kd.V_mono (ok' := (fun k_ => ((P0_ k_ ∨ P1_1_ k_) ∨ w.heap.size ≤ k_) ∧ k_ ≠ gb118)) (HO1_1.out) (fun k_ hk => ⟨hk.1, hk.2⟩))).2.1 (Kd.V_F (Kd.V_mono (ok' := (fun k_ => ((P0_ k_ ∨ P1_1_ k_) ∨ w.heap.size ≤ k_) ∧ k_ ≠ gb118)) (HO1_1.out) (fun k_ hk => ⟨hk.1, hk.2⟩))))) (Reps.none _ _))); intro v121 w98 ho99 hb hg_ hnew_; clear hg_ hnew_; (first | rw [← Ny120.out] at ho99 | (simp only [Int.reduceToNat] at ho99; rw [← Ny120.out] at ho99)); have n0_ := Aside0.mk (Kd.V_elder' (by (with_reducible repeat (first | apply Kd.V_alloc | apply Kd.V_drewN | apply Kd.V_drew)); exact HO0.out) (Kd.N_base ho99) hb); have n1_ := Aside0.mk (Kd.V_elder' (by (with_reducible repeat (first | apply Kd.V_alloc | apply Kd.V_drewN | apply Kd.V_drew)); exact HO1_1.out) (Kd.N_base ho99) hb); have n2_ := Aside0.mk (Kd.N_lower ho99 (below_size (by repeat (first | (with_reducible first | exact HB.out | apply below_alloc | apply pw_below_drewN | apply below_drew1 | refine below_set ?_ GE118.out) | exact HB.out)))); have n3_ := Aside0.mk (blk_below (g := gb118) (o := .cells #[.string a1_0, .slice A1_1 l1_1.length c1_1] 43 (0, 0)) (by (with_reducible repeat (first | refine blk_drewN ?_ _ | refine blk_drew ?_ | refine blk_alloc ?_ _)); exact BK118.out) hb); have n4_ := Aside0.mk (below_step (by repeat (first | (with_reducible first | exact HB.out | apply below_alloc | apply pw_below_drewN | apply below_drew1 | refine below_set ?_ GE118.out) | exact HB.out)) hb); clear HO0; clear HO1_1; clear BK118; clear HB; have HO0 := n0_; have HO1_1 := n1_; have HO122 := n2_; have BK118 := n3_; have HB := n4_; clear n0_ n1_ n2_ n3_ n4_; clear hb ho99) | ((with_reducible refine gate_builtin (b := .append) (xs := #[.tmp 25, .tmp 26]) rfl ?_); at_builtin; refine Kd.N_append_rows k45 (w0 := w) w.heap.size rfl (.tmp 25) (.tmp 26) 40 45 (.agg #[(.string ⟨#[]⟩), (.slice none 0 0), (.int .i64 0)]) 48 rfl Try.underlying40 info45 rfl (by decide) (by omega) v121 y120 l0 _ _ _ (fun k_ => ((P0_ k_ ∨ P1_1_ k_) ∨ w.heap.size ≤ k_) ∧ k_ ≠ gb118) (fun k_ => ((fun k_ => ((P0_ k_ ∨ P1_1_ k_) ∨ w.heap.size ≤ k_) ∧ k_ ≠ gb118)) k_ ∧ some k_ ≠ (v121 : Value).ownBlock) rfl rfl ?aO ?aR (fun _ hk => hk) ?aF ?aB ?aS ?aL ?_; (case aR => exact (by skip; exact Kd.V_F (Kd.V_mono (ok' := (fun k_ => ((fun k_ => ((P0_ k_ ∨ P1_1_ k_) ∨ w.heap.size ≤ k_) ∧ k_ ≠ gb118)) k_ ∧ some k_ ≠ (v121 : Value).ownBlock)) (HO0.out) (fun k_ hk => ⟨⟨hk.1.1, hk.1.2⟩, hk.2⟩)))); (case aB => exact (by repeat (first | (with_reducible first | exact HB.out | apply below_alloc | apply pw_below_drewN | apply below_drew1 | refine below_set ?_ GE118.out) | exact HB.out))); (case aF => exact (fun k_ hk => ⟨(.inr (Nat.le_trans (below_size (by repeat (first | (with_reducible first | exact HB.out | apply below_alloc | apply pw_below_drewN | apply below_drew1 | refine below_set ?_ GE118.out) | exact HB.out))) hk)), Kd.freshB (g := gb118) (o := .cells #[.string a1_0, .slice A1_1 l1_1.length c1_1] 43 (0, 0)) (by (with_reducible repeat (first | refine blk_drewN ?_ _ | refine blk_drew ?_ | refine blk_alloc ?_ _)); exact BK118.out) k_ hk⟩)); (case aO => exact (by (with_reducible repeat (first | apply Kd.N_alloc | apply Kd.N_drewN | apply Kd.N_drew)); exact HO122.out)); (case aS => exact (below_size (by repeat (first | (with_reducible first | exact HB.out | apply below_alloc | apply pw_below_drewN | apply below_drew1 | refine below_set ?_ GE118.out) | exact HB.out)))); (case aL => have := LMc8.out; omega); intro v124 w100 ho hb hg hat; rw [← Ny123.out] at ho; have n0_ := Aside0.mk (Kd.V_afterv (ok := (fun k_ => ((P0_ k_ ∨ P1_1_ k_) ∨ w.heap.size ≤ k_) ∧ k_ ≠ gb118)) (by (with_reducible repeat (first | apply Kd.V_alloc | apply Kd.V_drewN | apply Kd.V_drew)); exact HO0.out) hg hat); have n1_ := Aside0.mk (Kd.V_afterv (ok := (fun k_ => ((P0_ k_ ∨ P1_1_ k_) ∨ w.heap.size ≤ k_) ∧ k_ ≠ gb118)) (by (with_reducible repeat (first | apply Kd.V_alloc | apply Kd.V_drewN | apply Kd.V_drew)); exact HO1_1.out) hg hat); have n2_ := Aside0.mk (blk_grown (g := gb118) (o := .cells #[.string a1_0, .slice A1_1 l1_1.length c1_1] 43 (0, 0)) (by (with_reducible repeat (first | refine blk_drewN ?_ _ | refine blk_drew ?_ | refine blk_alloc ?_ _)); exact BK118.out) hg (Kd.N_ne HO122.out BK118.out (by decide))); have n3_ := Aside0.mk (hb); have n4_ := Aside0.mk (ho); clear HO0; clear HO1_1; clear BK118; clear HB; clear HO122; have HO0 := n0_; have HO1_1 := n1_; have BK118 := n2_; have HB := n3_; have HO125 := n4_; clear n0_ n1_ n2_ n3_ n4_; clear ho hb hg hat; have hcz101_0 : w100.cell? ⟨gb118, 0, none⟩ = some (.string a1_0) := (blk_cell BK118.out 0).trans rfl; have hcz101_1 : w100.cell? ⟨gb118, 1, none⟩ = some (.slice A1_1 l1_1.length c1_1) := (blk_cell BK118.out 1).trans rfl; have hfz101_0 := blk_frozen BK118.out 0; have hfz101_1 := blk_frozen BK118.out 1; obtain ⟨Ao102, co102, eo102⟩ := Kd.N_slice HO125.out; subst eo102) | ((with_reducible refine gate_callee (f := 19) rfl ?_); refine goesL_ (some 31) rfl rfl Try.func19 (by kernel_rfl) rfl #[.slice Ao102 y123.length co102, .agg #[.string a1_0, .slice A1_1 l1_1.length c1_1]] rfl (by (try simp only [List.map_toArray, List.map_cons, List.map_nil]); first | done | rfl | (simp only [List.length_drop, List.length_take]; rfl)) ?_; (with_reducible refine (princs_Lookup.calls _ _ y123 a1_0 _ _ l1_1 t126 true _ ?side1 ?side2 ?side3 ?side4 A9.out).mono ?_); (case side1 => repeat (first | exact (Kd.N_reads' HO125.out).2.2 | (with_reducible refine Kd.C_alloc ?_ _) | (with_reducible refine Kd.C_drewN ?_ _) | (with_reducible refine Kd.C_drew ?_))); (case side2 => exact (Kd.N_reads' HO125.out).2.1); (case side3 => repeat (first | exact (Kd.V_reads' HO1_1.out).2.2 | (with_reducible refine Kd.C_alloc ?_ _) | (with_reducible refine Kd.C_drewN ?_ _) | (with_reducible refine Kd.C_drew ?_))); (case side4 => exact (Kd.V_reads' HO1_1.out).2.1); rintro e w103 ⟨rfl, hb⟩; refine ⟨_, rfl, ?_⟩; have n0_ := Aside0.mk (Kd.V_below (by (with_reducible repeat (first | apply Kd.V_alloc | apply Kd.V_drewN | apply Kd.V_drew)); exact HO0.out) hb); have n1_ := Aside0.mk (Kd.V_below (by (with_reducible repeat (first | apply Kd.V_alloc | apply Kd.V_drewN | apply Kd.V_drew)); exact HO1_1.out) hb); have n2_ := Aside0.mk (Kd.N_below (by (with_reducible repeat (first | apply Kd.N_alloc | apply Kd.N_drewN | apply Kd.N_drew)); exact HO125.out) hb); have n3_ := Aside0.mk (blk_below (g := gb118) (o := .cells #[.string a1_0, .slice A1_1 l1_1.length c1_1] 43 (0, 0)) (by (with_reducible repeat (first | refine blk_drewN ?_ _ | refine blk_drew ?_ | refine blk_alloc ?_ _)); exact BK118.out) hb); have n4_ := Aside0.mk (below_step (by repeat (first | (with_reducible first | exact HB.out | apply below_alloc | apply pw_below_drewN | apply below_drew1 | refine below_set ?_ GE118.out) | exact HB.out)) hb); clear HO0; clear HO1_1; clear HO125; clear BK118; clear HB; have HO0 := n0_; have HO1_1 := n1_; have HO125 := n2_; have BK118 := n3_; have HB := n4_; clear n0_ n1_ n2_ n3_ n4_; (try clear hb); (try clear hb2); (try clear hk); (try clear hi)))
                        have n0_ := Aside0.mk (Kd.V_drew HO0.out)
                        have n1_ := Aside0.mk (Kd.V_drew HO1_1.out)
                        have n2_ := Aside0.mk (Kd.N_drew HO125.out)
                        have n3_ := Aside0.mk (blk_drew BK118.out)
                        have n4_ := Aside0.mk (below_drew1 HB.out)
                        clear HO0
                        clear HO1_1
                        clear HO125
                        clear BK118
                        clear HB
                        have HO0 := n0_
                        have HO1_1 := n1_
                        have HO125 := n2_
                        have BK118 := n3_
                        have HB := n4_
                        clear n0_ n1_ n2_ n3_ n4_
                        refine start_ (n := 15) (S := fun w' => w'.cell? ⟨gb118, 0, none⟩ = some (.string a1_0) ∧ w'.cell? ⟨gb118, 1, none⟩ = some (.slice A1_1 l1_1.length c1_1)) (ds := []) #[false, false, false, false, false, false, false, false, false, false, false, false, false, false, false] (by kernel_rfl) rfl rfl ⟨(blk_cell BK118.out 0).trans rfl, (blk_cell BK118.out 1).trans rfl⟩ (fun hHeld => ?_); refine with_tabW warderlaw21_PrincsKnown.tab6 warderlaw21_PrincsKnown.bits6 (fun HT_ HW_ => ?_)
                        generalize w103.drew = w104 at HO0 HO1_1 HO125 BK118 HB hHeld ⊢
                        refine pure_ (i := 1) (N := some 36) (v := ?_) (a' := ?_) #[false, true, false, false, false, false, false, false, false, false, false, false, false, false, false] rfl rfl (any_of HT_.out (by kernel_rfl)) (fun _ _ _ h => h) (Or.inl ⟨by rfl, ?_⟩) ?_ ?_
                        rotate_left
                        · intro w'
                          go_simp
                          with_reducible rfl
                        rotate_left
                        · simp only [Act.put, List.setIfInBounds_toArray, List.set_cons_zero, List.set_cons_succ, i64_w, i32_w]
                          rfl
                        refine pure_ (i := 4) (N := some 39) (v := ?_) (a' := ?_) #[false, true, false, false, true, false, false, false, false, false, false, false, false, false, false] rfl rfl (any_of HT_.out (by kernel_rfl)) (fun _ _ _ h => h) (Or.inl ⟨by rfl, ?_⟩) ?_ ?_
                        rotate_left
                        · intro w'
                          go_simp
                          with_reducible rfl
                        rotate_left
                        · simp only [Act.put, List.setIfInBounds_toArray, List.set_cons_zero, List.set_cons_succ, i64_w, i32_w]
                          rfl
                        refine take_ (i := 3) (N := some 38) (v := ?_) (a' := ?_) #[false, true, false, true, true, false, false, false, false, false, false, false, false, false, false] rfl rfl (take_ofW HT_.out HW_.out (by kernel_rfl)) (fun _ _ _ h => h) (Or.inl ⟨by rfl, ?_⟩) hHeld ?_ ?_
                        rotate_left
                        · rintro w' ⟨s0, s1⟩
                          go_simp
                          with_reducible rfl
                        rotate_left
                        · simp only [Act.put, List.setIfInBounds_toArray, List.set_cons_zero, List.set_cons_succ, i64_w, i32_w]
                          rfl
                        refine pure_ (i := 5) (N := some 40) (v := ?_) (a' := ?_) #[false, true, false, true, true, true, false, false, false, false, false, false, false, false, false] rfl rfl (any_of HT_.out (by kernel_rfl)) (fun _ _ _ h => h) (Or.inl ⟨by rfl, ?_⟩) ?_ ?_
                        rotate_left
                        · intro w'
                          go_simp
                          with_reducible rfl
                        rotate_left
                        · simp only [Act.put, List.setIfInBounds_toArray, List.set_cons_zero, List.set_cons_succ, i64_w, i32_w]
                          rfl
                        refine take_ (i := 8) (N := some 43) (v := ?_) (a' := ?_) #[false, true, false, true, true, true, false, false, true, false, false, false, false, false, false] rfl rfl (take_ofW HT_.out HW_.out (by kernel_rfl)) (fun _ _ _ h => h) (Or.inl ⟨by rfl, ?_⟩) hHeld ?_ ?_
                        rotate_left
                        · rintro w' ⟨s0, s1⟩
                          go_simp
                          with_reducible rfl
                        rotate_left
                        · simp only [Act.put, List.setIfInBounds_toArray, List.set_cons_zero, List.set_cons_succ, i64_w, i32_w]
                          rfl
                        refine join_ (σ := Value × Value × Value) 7 #[true, true, true, true, true, true, true, false, true, false, false, false, false, false, false] (fun s_ => [(35, s_.1), (37, s_.2.1), (41, s_.2.2)]) (fun s_ w' => (w'.cell? ⟨gb118, 0, none⟩ = some (.string a1_0) ∧ w'.cell? ⟨gb118, 1, none⟩ = some (.slice A1_1 l1_1.length c1_1)) ∧ (Kd.V k45 45 w' w.heap.size (fun k_ => ((P0_ k_ ∨ P1_1_ k_) ∨ w.heap.size ≤ k_) ∧ some k_ ≠ (.slice Ao102 y123.length co102 : Value).ownBlock ∧ some k_ ≠ (s_.2.1 : Value).ownBlock ∧ some k_ ≠ (s_.2.2 : Value).ownBlock ∧ k_ ≠ gb118) (.slice A0 l0.length c0) l0) ∧ (Kd.N k45 45 w' w.heap.size (fun k_ => ((P0_ k_ ∨ P1_1_ k_) ∨ w.heap.size ≤ k_) ∧ some k_ ≠ (s_.2.1 : Value).ownBlock ∧ some k_ ≠ (s_.2.2 : Value).ownBlock ∧ k_ ≠ gb118) (.slice Ao102 y123.length co102) y123) ∧ (Kd.N k45 45 w' w.heap.size (fun k_ => ((P0_ k_ ∨ P1_1_ k_) ∨ w.heap.size ≤ k_) ∧ some k_ ≠ (.slice Ao102 y123.length co102 : Value).ownBlock ∧ some k_ ≠ (s_.2.2 : Value).ownBlock ∧ k_ ≠ gb118) s_.2.1 y131) ∧ (Kd.N k45 45 w' w.heap.size (fun k_ => ((P0_ k_ ∨ P1_1_ k_) ∨ w.heap.size ≤ k_) ∧ some k_ ≠ (.slice Ao102 y123.length co102 : Value).ownBlock ∧ some k_ ≠ (s_.2.1 : Value).ownBlock ∧ k_ ≠ gb118) s_.2.2 y134) ∧ (Kd.V Kd.string 9 w' w.heap.size (fun k_ => ((P0_ k_ ∨ P1_1_ k_) ∨ w.heap.size ≤ k_) ∧ some k_ ≠ (.slice Ao102 y123.length co102 : Value).ownBlock ∧ some k_ ≠ (s_.2.1 : Value).ownBlock ∧ some k_ ≠ (s_.2.2 : Value).ownBlock ∧ k_ ≠ gb118) (.slice A1_1 l1_1.length c1_1) l1_1) ∧ (w'.heap[gb118]? = some (.cells #[.string a1_0, .slice A1_1 l1_1.length c1_1] 43 (0, 0))) ∧ (Below w.heap.size w w')) ?_ ?_
                        rotate_left
                        · intro hCont
                          refine two_ (i := 0) (j := 6) (Ni := some 35) (Nj := some 41) #[true, true, false, true, true, true, false, false, true, false, false, false, false, false, false] #[false, true, false, true, true, true, true, false, true, false, false, false, false, false, false] rfl rfl rfl rfl (two_of HT_.out (by kernel_rfl)) (by decide) (by decide) (fun K hK => ?_) (fun K hK => ?_)
                          · skip
                            refine Kd.N_lit_step k45 _ 45 ?hg (N' := 35) ?hd (xs := ([] : List (S45))) (inner := []) (ok := (fun k_ => ((P0_ k_ ∨ P1_1_ k_) ∨ w.heap.size ≤ k_) ∧ some k_ ≠ (.slice Ao102 y123.length co102 : Value).ownBlock ∧ k_ ≠ gb118)) (okp := (fun k_ => ((P0_ k_ ∨ P1_1_ k_) ∨ w.heap.size ≤ k_) ∧ some k_ ≠ (.slice Ao102 y123.length co102 : Value).ownBlock ∧ k_ ≠ gb118)) ?hr ?hp (fun _ hk => hk) ((show ∀ k_, w104.heap.size ≤ k_ → (fun k_ => ((P0_ k_ ∨ P1_1_ k_) ∨ w.heap.size ≤ k_) ∧ some k_ ≠ (.slice Ao102 y123.length co102 : Value).ownBlock ∧ k_ ≠ gb118) k_ from fun k_ hk => ⟨(.inr (Nat.le_trans (below_size (by repeat (first | (with_reducible first | exact HB.out | apply below_alloc | apply pw_below_drewN | apply below_drew1 | refine below_set ?_ GE118.out) | exact HB.out))) hk)), Kd.fresh' (Kd.N_lt (by (with_reducible repeat (first | apply Kd.N_alloc | apply Kd.N_drewN | apply Kd.N_drew)); exact HO125.out)) k_ hk, Kd.freshB (g := gb118) (o := .cells #[.string a1_0, .slice A1_1 l1_1.length c1_1] 43 (0, 0)) (by (with_reducible repeat (first | refine blk_drewN ?_ _ | refine blk_drew ?_ | refine blk_alloc ?_ _)); exact BK118.out) k_ hk⟩) _ (Nat.le_refl _)) (Below.refl _ _) (Nat.le_refl _) (by simp) ?_; (case hd => rfl); (case hg => rfl); (case hr => first | (go_simp; done) | (go_simp; rfl)); (case hp => exact (Reps.none _ _))
                            intro v129 w105 ho106 hb hg_ hnew_
                            clear hg_ hnew_
                            (first | rw [← Ny128.out] at ho106 | (simp only [Int.reduceToNat] at ho106; rw [← Ny128.out] at ho106))
                            have n0_ := Aside0.mk (Kd.V_elder' (by (with_reducible repeat (first | apply Kd.V_alloc | apply Kd.V_drewN | apply Kd.V_drew)); exact HO0.out) (Kd.N_base ho106) hb)
                            have n1_ := Aside0.mk (Kd.V_elder' (by (with_reducible repeat (first | apply Kd.V_alloc | apply Kd.V_drewN | apply Kd.V_drew)); exact HO1_1.out) (Kd.N_base ho106) hb)
                            have n2_ := Aside0.mk (Kd.N_elder' (by (with_reducible repeat (first | apply Kd.N_alloc | apply Kd.N_drewN | apply Kd.N_drew)); exact HO125.out) (Kd.N_base ho106) hb)
                            have n3_ := Aside0.mk (Kd.N_lower ho106 (below_size (by repeat (first | (with_reducible first | exact HB.out | apply below_alloc | apply pw_below_drewN | apply below_drew1 | refine below_set ?_ GE118.out) | exact HB.out))))
                            have n4_ := Aside0.mk (blk_below (g := gb118) (o := .cells #[.string a1_0, .slice A1_1 l1_1.length c1_1] 43 (0, 0)) (by (with_reducible repeat (first | refine blk_drewN ?_ _ | refine blk_drew ?_ | refine blk_alloc ?_ _)); exact BK118.out) hb)
                            have n5_ := Aside0.mk (below_step (by repeat (first | (with_reducible first | exact HB.out | apply below_alloc | apply pw_below_drewN | apply below_drew1 | refine below_set ?_ GE118.out) | exact HB.out)) hb)
                            clear HO0
                            clear HO1_1
                            clear HO125
                            clear BK118
                            clear HB
                            have HO0 := n0_
                            have HO1_1 := n1_
                            have HO125 := n2_
                            have HO130 := n3_
                            have BK118 := n4_
                            have HB := n5_
                            clear n0_ n1_ n2_ n3_ n4_ n5_
                            clear hb ho106
                            refine hK.out _ _ ⟨(blk_cell BK118.out 0).trans rfl, (blk_cell BK118.out 1).trans rfl⟩ (fun hHeld => ?_)
                            clear hK K
                            refine norm_ (a' := ?_) ?_ ?_
                            rotate_left
                            · show Act.put _ (some 35) _ = _
                              simp only [Act.put, List.setIfInBounds_toArray, List.set_cons_zero, List.set_cons_succ, i64_w, i32_w]
                              rfl
                            refine two_ (i := 2) (j := 6) (Ni := some 37) (Nj := some 41) #[true, true, true, true, true, true, false, false, true, false, false, false, false, false, false] #[true, true, false, true, true, true, true, false, true, false, false, false, false, false, false] rfl rfl rfl rfl (two_of HT_.out (by kernel_rfl)) (by decide) (by decide) (fun K hK => ?_) (fun K hK => ?_)
                            · skip
                              refine Kd.N_append_rows_step k45 (w0 := w) w.heap.size (by rfl) (.tmp 35) (.tmp 36) 40 45 (.agg #[(.string ⟨#[]⟩), (.slice none 0 0), (.int .i64 0)]) 48 rfl Try.underlying40 info45 rfl (by decide) (by omega) v129 y128 l0 _ _ _ (fun k_ => ((P0_ k_ ∨ P1_1_ k_) ∨ w.heap.size ≤ k_) ∧ some k_ ≠ (.slice Ao102 y123.length co102 : Value).ownBlock ∧ k_ ≠ gb118) (fun k_ => ((fun k_ => ((P0_ k_ ∨ P1_1_ k_) ∨ w.heap.size ≤ k_) ∧ some k_ ≠ (.slice Ao102 y123.length co102 : Value).ownBlock ∧ k_ ≠ gb118)) k_ ∧ some k_ ≠ (v129 : Value).ownBlock) rfl rfl ?aO ?aR (fun _ hk => hk) ?aF ?aB ?aS ?aL ?_
                              (case aR => exact (by skip; exact Kd.V_F (Kd.V_mono (ok' := (fun k_ => ((fun k_ => ((P0_ k_ ∨ P1_1_ k_) ∨ w.heap.size ≤ k_) ∧ some k_ ≠ (.slice Ao102 y123.length co102 : Value).ownBlock ∧ k_ ≠ gb118)) k_ ∧ some k_ ≠ (v129 : Value).ownBlock)) (HO0.out) (fun k_ hk => ⟨⟨hk.1.1.1, ⟨hk.1.2, hk.1.1.2⟩⟩, hk.2⟩))))
                              (case aB => exact (by repeat (first | (with_reducible first | exact HB.out | apply below_alloc | apply pw_below_drewN | apply below_drew1 | refine below_set ?_ GE118.out) | exact HB.out)))
                              (case aF => exact (fun k_ hk => ⟨(.inr (Nat.le_trans (below_size (by repeat (first | (with_reducible first | exact HB.out | apply below_alloc | apply pw_below_drewN | apply below_drew1 | refine below_set ?_ GE118.out) | exact HB.out))) hk)), Kd.fresh' (Kd.N_lt (by (with_reducible repeat (first | apply Kd.N_alloc | apply Kd.N_drewN | apply Kd.N_drew)); exact HO125.out)) k_ hk, Kd.freshB (g := gb118) (o := .cells #[.string a1_0, .slice A1_1 l1_1.length c1_1] 43 (0, 0)) (by (with_reducible repeat (first | refine blk_drewN ?_ _ | refine blk_drew ?_ | refine blk_alloc ?_ _)); exact BK118.out) k_ hk⟩))
                              (case aO => exact (by (with_reducible repeat (first | apply Kd.N_alloc | apply Kd.N_drewN | apply Kd.N_drew)); exact HO130.out))
                              (case aS => exact (below_size (by repeat (first | (with_reducible first | exact HB.out | apply below_alloc | apply pw_below_drewN | apply below_drew1 | refine below_set ?_ GE118.out) | exact HB.out))))
                              (case aL => have := LMc10.out; omega)
                              intro v132 w107 ho hb hg hat
                              rw [← Ny131.out] at ho
                              have n0_ := Aside0.mk (Kd.V_afterv (ok := (fun k_ => ((P0_ k_ ∨ P1_1_ k_) ∨ w.heap.size ≤ k_) ∧ some k_ ≠ (.slice Ao102 y123.length co102 : Value).ownBlock ∧ k_ ≠ gb118)) (by (with_reducible repeat (first | apply Kd.V_alloc | apply Kd.V_drewN | apply Kd.V_drew)); exact Kd.V_mono HO0.out (fun _ hk => ⟨⟨hk.1.1.1, ⟨hk.1.2, hk.1.1.2⟩⟩, hk.2⟩)) hg hat)
                              have n1_ := Aside0.mk (Kd.V_afterv (ok := (fun k_ => ((P0_ k_ ∨ P1_1_ k_) ∨ w.heap.size ≤ k_) ∧ some k_ ≠ (.slice Ao102 y123.length co102 : Value).ownBlock ∧ k_ ≠ gb118)) (by (with_reducible repeat (first | apply Kd.V_alloc | apply Kd.V_drewN | apply Kd.V_drew)); exact Kd.V_mono HO1_1.out (fun _ hk => ⟨⟨hk.1.1.1, ⟨hk.1.2, hk.1.1.2⟩⟩, hk.2⟩)) hg hat)
                              have n2_ := Aside0.mk (blk_grown (g := gb118) (o := .cells #[.string a1_0, .slice A1_1 l1_1.length c1_1] 43 (0, 0)) (by (with_reducible repeat (first | refine blk_drewN ?_ _ | refine blk_drew ?_ | refine blk_alloc ?_ _)); exact BK118.out) hg (Kd.N_ne HO130.out BK118.out (by decide)))
                              have n3_ := Aside0.mk (Kd.N_afterv (ok := (fun k_ => ((P0_ k_ ∨ P1_1_ k_) ∨ w.heap.size ≤ k_) ∧ k_ ≠ gb118)) (by (with_reducible repeat (first | apply Kd.N_alloc | apply Kd.N_drewN | apply Kd.N_drew)); exact HO125.out) hg hat)
                              have n4_ := Aside0.mk (hb)
                              have n5_ := Aside0.mk (ho)
                              clear HO0
                              clear HO1_1
                              clear BK118
                              clear HO125
                              clear HB
                              clear HO130
                              have HO0 := n0_
                              have HO1_1 := n1_
                              have BK118 := n2_
                              have HO125 := n3_
                              have HB := n4_
                              have HO133 := n5_
                              clear n0_ n1_ n2_ n3_ n4_ n5_
                              clear ho hb hg hat
                              refine hK.out _ _ ⟨(blk_cell BK118.out 0).trans rfl, (blk_cell BK118.out 1).trans rfl⟩ (fun hHeld => ?_)
                              clear hK K
                              refine norm_ (a' := ?_) ?_ ?_
                              rotate_left
                              · show Act.put _ (some 37) _ = _
                                simp only [Act.put, List.setIfInBounds_toArray, List.set_cons_zero, List.set_cons_succ, i64_w, i32_w]
                                rfl
                              refine one_ (i := 6) (N := some 41) #[true, true, true, true, true, true, true, false, true, false, false, false, false, false, false] rfl rfl (one_of HT_.out (by kernel_rfl)) (by decide) (fun K hK => ?_)
                              refine Kd.N_lit_step k45 _ 45 ?hg (N' := 41) ?hd (xs := ([(⟨(⟨a1_0, l1_1⟩ : S43), a2⟩ : S45)] : List (S45))) (inner := [.string a1_0, .slice A1_1 l1_1.length c1_1, .int .i64 a2]) (ok := (fun k_ => ((P0_ k_ ∨ P1_1_ k_) ∨ w.heap.size ≤ k_) ∧ some k_ ≠ (.slice Ao102 y123.length co102 : Value).ownBlock ∧ some k_ ≠ (v132 : Value).ownBlock ∧ k_ ≠ gb118)) (okp := (fun k_ => ((P0_ k_ ∨ P1_1_ k_) ∨ w.heap.size ≤ k_) ∧ some k_ ≠ (.slice Ao102 y123.length co102 : Value).ownBlock ∧ some k_ ≠ (v132 : Value).ownBlock ∧ k_ ≠ gb118)) ?hr ?hp (fun _ hk => hk) ((show ∀ k_, w107.heap.size ≤ k_ → (fun k_ => ((P0_ k_ ∨ P1_1_ k_) ∨ w.heap.size ≤ k_) ∧ some k_ ≠ (.slice Ao102 y123.length co102 : Value).ownBlock ∧ some k_ ≠ (v132 : Value).ownBlock ∧ k_ ≠ gb118) k_ from fun k_ hk => ⟨(.inr (Nat.le_trans (below_size (by repeat (first | (with_reducible first | exact HB.out | apply below_alloc | apply pw_below_drewN | apply below_drew1 | refine below_set ?_ GE118.out) | exact HB.out))) hk)), Kd.fresh' (Kd.N_lt (by (with_reducible repeat (first | apply Kd.N_alloc | apply Kd.N_drewN | apply Kd.N_drew)); exact HO125.out)) k_ hk, Kd.fresh' (Kd.N_lt (by (with_reducible repeat (first | apply Kd.N_alloc | apply Kd.N_drewN | apply Kd.N_drew)); exact HO133.out)) k_ hk, Kd.freshB (g := gb118) (o := .cells #[.string a1_0, .slice A1_1 l1_1.length c1_1] 43 (0, 0)) (by (with_reducible repeat (first | refine blk_drewN ?_ _ | refine blk_drew ?_ | refine blk_alloc ?_ _)); exact BK118.out) k_ hk⟩) _ (Nat.le_refl _)) (Below.refl _ _) (Nat.le_refl _) (by simp) ?_; (case hd => rfl); (case hg => rfl); (case hr => first | (go_simp; done) | (go_simp; rfl)); (case hp => exact (Reps.c3 (show Kd.FK k45 _ _ (⟨(⟨a1_0, l1_1⟩ : S43), a2⟩ : S45) [.string a1_0, .slice A1_1 l1_1.length c1_1, .int .i64 a2] from (k45_mkF _ _ (⟨(⟨a1_0, l1_1⟩ : S43), a2⟩ : S45) (Kd.V_reads' (Kd.V_mono (ok' := (fun k_ => ((P0_ k_ ∨ P1_1_ k_) ∨ w.heap.size ≤ k_) ∧ some k_ ≠ (.slice Ao102 y123.length co102 : Value).ownBlock ∧ some k_ ≠ (v132 : Value).ownBlock ∧ k_ ≠ gb118)) (HO1_1.out) (fun k_ hk => ⟨hk.1.1, ⟨hk.1.2.1, ⟨hk.2, hk.1.2.2⟩⟩⟩))).2.1 (Kd.V_F (Kd.V_mono (ok' := (fun k_ => ((P0_ k_ ∨ P1_1_ k_) ∨ w.heap.size ≤ k_) ∧ some k_ ≠ (.slice Ao102 y123.length co102 : Value).ownBlock ∧ some k_ ≠ (v132 : Value).ownBlock ∧ k_ ≠ gb118)) (HO1_1.out) (fun k_ hk => ⟨hk.1.1, ⟨hk.1.2.1, ⟨hk.2, hk.1.2.2⟩⟩⟩))))) (Reps.none _ _)))
                              intro v135 w108 ho109 hb hg_ hnew_
                              clear hg_ hnew_
                              (first | rw [← Ny134.out] at ho109 | (simp only [Int.reduceToNat] at ho109; rw [← Ny134.out] at ho109))
                              have n0_ := Aside0.mk (Kd.V_elder' (by (with_reducible repeat (first | apply Kd.V_alloc | apply Kd.V_drewN | apply Kd.V_drew)); exact HO0.out) (Kd.N_base ho109) hb)
                              have n1_ := Aside0.mk (Kd.V_elder' (by (with_reducible repeat (first | apply Kd.V_alloc | apply Kd.V_drewN | apply Kd.V_drew)); exact HO1_1.out) (Kd.N_base ho109) hb)
                              have n2_ := Aside0.mk (Kd.N_elder' (by (with_reducible repeat (first | apply Kd.N_alloc | apply Kd.N_drewN | apply Kd.N_drew)); exact HO125.out) (Kd.N_base ho109) hb)
                              have n3_ := Aside0.mk (Kd.N_elder' (by (with_reducible repeat (first | apply Kd.N_alloc | apply Kd.N_drewN | apply Kd.N_drew)); exact HO133.out) (Kd.N_base ho109) hb)
                              have n4_ := Aside0.mk (Kd.N_lower ho109 (below_size (by repeat (first | (with_reducible first | exact HB.out | apply below_alloc | apply pw_below_drewN | apply below_drew1 | refine below_set ?_ GE118.out) | exact HB.out))))
                              have n5_ := Aside0.mk (blk_below (g := gb118) (o := .cells #[.string a1_0, .slice A1_1 l1_1.length c1_1] 43 (0, 0)) (by (with_reducible repeat (first | refine blk_drewN ?_ _ | refine blk_drew ?_ | refine blk_alloc ?_ _)); exact BK118.out) hb)
                              have n6_ := Aside0.mk (below_step (by repeat (first | (with_reducible first | exact HB.out | apply below_alloc | apply pw_below_drewN | apply below_drew1 | refine below_set ?_ GE118.out) | exact HB.out)) hb)
                              clear HO0
                              clear HO1_1
                              clear HO125
                              clear HO133
                              clear BK118
                              clear HB
                              have HO0 := n0_
                              have HO1_1 := n1_
                              have HO125 := n2_
                              have HO133 := n3_
                              have HO136 := n4_
                              have BK118 := n5_
                              have HB := n6_
                              clear n0_ n1_ n2_ n3_ n4_ n5_ n6_
                              clear hb ho109
                              refine hK.out _ _ ⟨(blk_cell BK118.out 0).trans rfl, (blk_cell BK118.out 1).trans rfl⟩ (fun hHeld => ?_)
                              clear hK K
                              refine norm_ (a' := ?_) ?_ ?_
                              rotate_left
                              · show Act.put _ (some 41) _ = _
                                simp only [Act.put, List.setIfInBounds_toArray, List.set_cons_zero, List.set_cons_succ, i64_w, i32_w]
                                rfl
                              exact norm_ (by simp only [putAll, Act.put, List.setIfInBounds_toArray, List.set_cons_zero, List.set_cons_succ]) (hCont (v129, v132, v135) _ ⟨hHeld, (by (with_reducible repeat (first | apply Kd.V_alloc | apply Kd.V_drewN | apply Kd.V_drew)); exact Kd.V_mono HO0.out (fun _ hk => ⟨hk.1.1.1, ⟨hk.1.1.2.1, ⟨hk.1.2, ⟨hk.2, hk.1.1.2.2⟩⟩⟩⟩)), (by (with_reducible repeat (first | apply Kd.N_alloc | apply Kd.N_drewN | apply Kd.N_drew)); exact Kd.N_mono HO125.out (fun _ hk => ⟨hk.1.1.1, ⟨hk.1.2, ⟨hk.2, hk.1.1.2⟩⟩⟩)), (by (with_reducible repeat (first | apply Kd.N_alloc | apply Kd.N_drewN | apply Kd.N_drew)); exact Kd.N_mono HO133.out (fun _ hk => ⟨hk.1.1, ⟨hk.1.2.1, ⟨hk.2, hk.1.2.2⟩⟩⟩)), (by (with_reducible repeat (first | apply Kd.N_alloc | apply Kd.N_drewN | apply Kd.N_drew)); exact HO136.out), (by (with_reducible repeat (first | apply Kd.V_alloc | apply Kd.V_drewN | apply Kd.V_drew)); exact Kd.V_mono HO1_1.out (fun _ hk => ⟨hk.1.1.1, ⟨hk.1.1.2.1, ⟨hk.1.2, ⟨hk.2, hk.1.1.2.2⟩⟩⟩⟩)), (by (with_reducible repeat (first | refine blk_drewN ?_ _ | refine blk_drew ?_ | refine blk_alloc ?_ _)); exact BK118.out), (by repeat (first | (with_reducible first | exact HB.out | apply below_alloc | apply pw_below_drewN | apply below_drew1 | refine below_set ?_ GE118.out) | exact HB.out))⟩)
                            · skip
                              refine Kd.N_lit_step k45 _ 45 ?hg (N' := 41) ?hd (xs := ([(⟨(⟨a1_0, l1_1⟩ : S43), a2⟩ : S45)] : List (S45))) (inner := [.string a1_0, .slice A1_1 l1_1.length c1_1, .int .i64 a2]) (ok := (fun k_ => ((P0_ k_ ∨ P1_1_ k_) ∨ w.heap.size ≤ k_) ∧ some k_ ≠ (.slice Ao102 y123.length co102 : Value).ownBlock ∧ some k_ ≠ (v129 : Value).ownBlock ∧ k_ ≠ gb118)) (okp := (fun k_ => ((P0_ k_ ∨ P1_1_ k_) ∨ w.heap.size ≤ k_) ∧ some k_ ≠ (.slice Ao102 y123.length co102 : Value).ownBlock ∧ some k_ ≠ (v129 : Value).ownBlock ∧ k_ ≠ gb118)) ?hr ?hp (fun _ hk => hk) ((show ∀ k_, w105.heap.size ≤ k_ → (fun k_ => ((P0_ k_ ∨ P1_1_ k_) ∨ w.heap.size ≤ k_) ∧ some k_ ≠ (.slice Ao102 y123.length co102 : Value).ownBlock ∧ some k_ ≠ (v129 : Value).ownBlock ∧ k_ ≠ gb118) k_ from fun k_ hk => ⟨(.inr (Nat.le_trans (below_size (by repeat (first | (with_reducible first | exact HB.out | apply below_alloc | apply pw_below_drewN | apply below_drew1 | refine below_set ?_ GE118.out) | exact HB.out))) hk)), Kd.fresh' (Kd.N_lt (by (with_reducible repeat (first | apply Kd.N_alloc | apply Kd.N_drewN | apply Kd.N_drew)); exact HO125.out)) k_ hk, Kd.fresh' (Kd.N_lt (by (with_reducible repeat (first | apply Kd.N_alloc | apply Kd.N_drewN | apply Kd.N_drew)); exact HO130.out)) k_ hk, Kd.freshB (g := gb118) (o := .cells #[.string a1_0, .slice A1_1 l1_1.length c1_1] 43 (0, 0)) (by (with_reducible repeat (first | refine blk_drewN ?_ _ | refine blk_drew ?_ | refine blk_alloc ?_ _)); exact BK118.out) k_ hk⟩) _ (Nat.le_refl _)) (Below.refl _ _) (Nat.le_refl _) (by simp) ?_; (case hd => rfl); (case hg => rfl); (case hr => first | (go_simp; done) | (go_simp; rfl)); (case hp => exact (Reps.c3 (show Kd.FK k45 _ _ (⟨(⟨a1_0, l1_1⟩ : S43), a2⟩ : S45) [.string a1_0, .slice A1_1 l1_1.length c1_1, .int .i64 a2] from (k45_mkF _ _ (⟨(⟨a1_0, l1_1⟩ : S43), a2⟩ : S45) (Kd.V_reads' (Kd.V_mono (ok' := (fun k_ => ((P0_ k_ ∨ P1_1_ k_) ∨ w.heap.size ≤ k_) ∧ some k_ ≠ (.slice Ao102 y123.length co102 : Value).ownBlock ∧ some k_ ≠ (v129 : Value).ownBlock ∧ k_ ≠ gb118)) (HO1_1.out) (fun k_ hk => ⟨hk.1.1.1, ⟨hk.1.2, ⟨hk.2, hk.1.1.2⟩⟩⟩))).2.1 (Kd.V_F (Kd.V_mono (ok' := (fun k_ => ((P0_ k_ ∨ P1_1_ k_) ∨ w.heap.size ≤ k_) ∧ some k_ ≠ (.slice Ao102 y123.length co102 : Value).ownBlock ∧ some k_ ≠ (v129 : Value).ownBlock ∧ k_ ≠ gb118)) (HO1_1.out) (fun k_ hk => ⟨hk.1.1.1, ⟨hk.1.2, ⟨hk.2, hk.1.1.2⟩⟩⟩))))) (Reps.none _ _)))
                              intro v135 w107 ho108 hb hg_ hnew_
                              clear hg_ hnew_
                              (first | rw [← Ny134.out] at ho108 | (simp only [Int.reduceToNat] at ho108; rw [← Ny134.out] at ho108))
                              have n0_ := Aside0.mk (Kd.V_elder' (by (with_reducible repeat (first | apply Kd.V_alloc | apply Kd.V_drewN | apply Kd.V_drew)); exact HO0.out) (Kd.N_base ho108) hb)
                              have n1_ := Aside0.mk (Kd.V_elder' (by (with_reducible repeat (first | apply Kd.V_alloc | apply Kd.V_drewN | apply Kd.V_drew)); exact HO1_1.out) (Kd.N_base ho108) hb)
                              have n2_ := Aside0.mk (Kd.N_elder' (by (with_reducible repeat (first | apply Kd.N_alloc | apply Kd.N_drewN | apply Kd.N_drew)); exact HO125.out) (Kd.N_base ho108) hb)
                              have n3_ := Aside0.mk (Kd.N_elder' (by (with_reducible repeat (first | apply Kd.N_alloc | apply Kd.N_drewN | apply Kd.N_drew)); exact HO130.out) (Kd.N_base ho108) hb)
                              have n4_ := Aside0.mk (Kd.N_lower ho108 (below_size (by repeat (first | (with_reducible first | exact HB.out | apply below_alloc | apply pw_below_drewN | apply below_drew1 | refine below_set ?_ GE118.out) | exact HB.out))))
                              have n5_ := Aside0.mk (blk_below (g := gb118) (o := .cells #[.string a1_0, .slice A1_1 l1_1.length c1_1] 43 (0, 0)) (by (with_reducible repeat (first | refine blk_drewN ?_ _ | refine blk_drew ?_ | refine blk_alloc ?_ _)); exact BK118.out) hb)
                              have n6_ := Aside0.mk (below_step (by repeat (first | (with_reducible first | exact HB.out | apply below_alloc | apply pw_below_drewN | apply below_drew1 | refine below_set ?_ GE118.out) | exact HB.out)) hb)
                              clear HO0
                              clear HO1_1
                              clear HO125
                              clear HO130
                              clear BK118
                              clear HB
                              have HO0 := n0_
                              have HO1_1 := n1_
                              have HO125 := n2_
                              have HO130 := n3_
                              have HO136 := n4_
                              have BK118 := n5_
                              have HB := n6_
                              clear n0_ n1_ n2_ n3_ n4_ n5_ n6_
                              clear hb ho108
                              refine hK.out _ _ ⟨(blk_cell BK118.out 0).trans rfl, (blk_cell BK118.out 1).trans rfl⟩ (fun hHeld => ?_)
                              clear hK K
                              refine norm_ (a' := ?_) ?_ ?_
                              rotate_left
                              · show Act.put _ (some 41) _ = _
                                simp only [Act.put, List.setIfInBounds_toArray, List.set_cons_zero, List.set_cons_succ, i64_w, i32_w]
                                rfl
                              refine one_ (i := 2) (N := some 37) #[true, true, true, true, true, true, true, false, true, false, false, false, false, false, false] rfl rfl (one_of HT_.out (by kernel_rfl)) (by decide) (fun K hK => ?_)
                              refine Kd.N_append_rows_step k45 (w0 := w) w.heap.size (by rfl) (.tmp 35) (.tmp 36) 40 45 (.agg #[(.string ⟨#[]⟩), (.slice none 0 0), (.int .i64 0)]) 48 rfl Try.underlying40 info45 rfl (by decide) (by omega) v129 y128 l0 _ _ _ (fun k_ => ((P0_ k_ ∨ P1_1_ k_) ∨ w.heap.size ≤ k_) ∧ some k_ ≠ (.slice Ao102 y123.length co102 : Value).ownBlock ∧ some k_ ≠ (v135 : Value).ownBlock ∧ k_ ≠ gb118) (fun k_ => ((fun k_ => ((P0_ k_ ∨ P1_1_ k_) ∨ w.heap.size ≤ k_) ∧ some k_ ≠ (.slice Ao102 y123.length co102 : Value).ownBlock ∧ some k_ ≠ (v135 : Value).ownBlock ∧ k_ ≠ gb118)) k_ ∧ some k_ ≠ (v129 : Value).ownBlock) rfl rfl ?aO ?aR (fun _ hk => hk) ?aF ?aB ?aS ?aL ?_
                              (case aR => exact (by skip; exact Kd.V_F (Kd.V_mono (ok' := (fun k_ => ((fun k_ => ((P0_ k_ ∨ P1_1_ k_) ∨ w.heap.size ≤ k_) ∧ some k_ ≠ (.slice Ao102 y123.length co102 : Value).ownBlock ∧ some k_ ≠ (v135 : Value).ownBlock ∧ k_ ≠ gb118)) k_ ∧ some k_ ≠ (v129 : Value).ownBlock)) (HO0.out) (fun k_ hk => ⟨⟨hk.1.1.1.1, ⟨hk.1.1.2, ⟨hk.2, hk.1.1.1.2⟩⟩⟩, hk.1.2⟩))))
                              (case aB => exact (by repeat (first | (with_reducible first | exact HB.out | apply below_alloc | apply pw_below_drewN | apply below_drew1 | refine below_set ?_ GE118.out) | exact HB.out)))
                              (case aF => exact (fun k_ hk => ⟨(.inr (Nat.le_trans (below_size (by repeat (first | (with_reducible first | exact HB.out | apply below_alloc | apply pw_below_drewN | apply below_drew1 | refine below_set ?_ GE118.out) | exact HB.out))) hk)), Kd.fresh' (Kd.N_lt (by (with_reducible repeat (first | apply Kd.N_alloc | apply Kd.N_drewN | apply Kd.N_drew)); exact HO125.out)) k_ hk, Kd.fresh' (Kd.N_lt (by (with_reducible repeat (first | apply Kd.N_alloc | apply Kd.N_drewN | apply Kd.N_drew)); exact HO136.out)) k_ hk, Kd.freshB (g := gb118) (o := .cells #[.string a1_0, .slice A1_1 l1_1.length c1_1] 43 (0, 0)) (by (with_reducible repeat (first | refine blk_drewN ?_ _ | refine blk_drew ?_ | refine blk_alloc ?_ _)); exact BK118.out) k_ hk⟩))
                              (case aO => exact (by (with_reducible repeat (first | apply Kd.N_alloc | apply Kd.N_drewN | apply Kd.N_drew)); exact Kd.N_mono HO130.out (fun _ hk => ⟨hk.1.1, ⟨hk.1.2.1, ⟨hk.2, hk.1.2.2⟩⟩⟩)))
                              (case aS => exact (below_size (by repeat (first | (with_reducible first | exact HB.out | apply below_alloc | apply pw_below_drewN | apply below_drew1 | refine below_set ?_ GE118.out) | exact HB.out))))
                              (case aL => have := LMc10.out; omega)
                              intro v132 w109 ho hb hg hat
                              rw [← Ny131.out] at ho
                              have n0_ := Aside0.mk (Kd.V_afterv (ok := (fun k_ => ((P0_ k_ ∨ P1_1_ k_) ∨ w.heap.size ≤ k_) ∧ some k_ ≠ (.slice Ao102 y123.length co102 : Value).ownBlock ∧ some k_ ≠ (v135 : Value).ownBlock ∧ k_ ≠ gb118)) (by (with_reducible repeat (first | apply Kd.V_alloc | apply Kd.V_drewN | apply Kd.V_drew)); exact Kd.V_mono HO0.out (fun _ hk => ⟨⟨hk.1.1.1.1, ⟨hk.1.1.2, ⟨hk.2, hk.1.1.1.2⟩⟩⟩, hk.1.2⟩)) hg hat)
                              have n1_ := Aside0.mk (Kd.V_afterv (ok := (fun k_ => ((P0_ k_ ∨ P1_1_ k_) ∨ w.heap.size ≤ k_) ∧ some k_ ≠ (.slice Ao102 y123.length co102 : Value).ownBlock ∧ some k_ ≠ (v135 : Value).ownBlock ∧ k_ ≠ gb118)) (by (with_reducible repeat (first | apply Kd.V_alloc | apply Kd.V_drewN | apply Kd.V_drew)); exact Kd.V_mono HO1_1.out (fun _ hk => ⟨⟨hk.1.1.1.1, ⟨hk.1.1.2, ⟨hk.2, hk.1.1.1.2⟩⟩⟩, hk.1.2⟩)) hg hat)
                              have n2_ := Aside0.mk (blk_grown (g := gb118) (o := .cells #[.string a1_0, .slice A1_1 l1_1.length c1_1] 43 (0, 0)) (by (with_reducible repeat (first | refine blk_drewN ?_ _ | refine blk_drew ?_ | refine blk_alloc ?_ _)); exact BK118.out) hg (Kd.N_ne HO130.out BK118.out (by decide)))
                              have n3_ := Aside0.mk (Kd.N_afterv (ok := (fun k_ => ((P0_ k_ ∨ P1_1_ k_) ∨ w.heap.size ≤ k_) ∧ some k_ ≠ (v135 : Value).ownBlock ∧ k_ ≠ gb118)) (by (with_reducible repeat (first | apply Kd.N_alloc | apply Kd.N_drewN | apply Kd.N_drew)); exact Kd.N_mono HO125.out (fun _ hk => ⟨⟨hk.1.1.1, ⟨hk.2, hk.1.1.2⟩⟩, hk.1.2⟩)) hg hat)
                              have n4_ := Aside0.mk (Kd.N_afterv (ok := (fun k_ => ((P0_ k_ ∨ P1_1_ k_) ∨ w.heap.size ≤ k_) ∧ some k_ ≠ (.slice Ao102 y123.length co102 : Value).ownBlock ∧ k_ ≠ gb118)) (by (with_reducible repeat (first | apply Kd.N_alloc | apply Kd.N_drewN | apply Kd.N_drew)); exact Kd.N_mono HO136.out (fun _ hk => ⟨⟨hk.1, ⟨hk.2.1, hk.2.2.2⟩⟩, hk.2.2.1⟩)) hg hat)
                              have n5_ := Aside0.mk (hb)
                              have n6_ := Aside0.mk (ho)
                              clear HO0
                              clear HO1_1
                              clear BK118
                              clear HO125
                              clear HO136
                              clear HB
                              clear HO130
                              have HO0 := n0_
                              have HO1_1 := n1_
                              have BK118 := n2_
                              have HO125 := n3_
                              have HO136 := n4_
                              have HB := n5_
                              have HO133 := n6_
                              clear n0_ n1_ n2_ n3_ n4_ n5_ n6_
                              clear ho hb hg hat
                              refine hK.out _ _ ⟨(blk_cell BK118.out 0).trans rfl, (blk_cell BK118.out 1).trans rfl⟩ (fun hHeld => ?_)
                              clear hK K
                              refine norm_ (a' := ?_) ?_ ?_
                              rotate_left
                              · show Act.put _ (some 37) _ = _
                                simp only [Act.put, List.setIfInBounds_toArray, List.set_cons_zero, List.set_cons_succ, i64_w, i32_w]
                                rfl
                              exact norm_ (by simp only [putAll, Act.put, List.setIfInBounds_toArray, List.set_cons_zero, List.set_cons_succ]) (hCont (v129, v132, v135) _ ⟨hHeld, (by (with_reducible repeat (first | apply Kd.V_alloc | apply Kd.V_drewN | apply Kd.V_drew)); exact Kd.V_mono HO0.out (fun _ hk => ⟨hk.1.1, ⟨hk.1.2.1, ⟨hk.2, ⟨hk.1.2.2.1, hk.1.2.2.2⟩⟩⟩⟩)), (by (with_reducible repeat (first | apply Kd.N_alloc | apply Kd.N_drewN | apply Kd.N_drew)); exact Kd.N_mono HO125.out (fun _ hk => ⟨hk.1.1, ⟨hk.2, ⟨hk.1.2.1, hk.1.2.2⟩⟩⟩)), (by (with_reducible repeat (first | apply Kd.N_alloc | apply Kd.N_drewN | apply Kd.N_drew)); exact HO133.out), (by (with_reducible repeat (first | apply Kd.N_alloc | apply Kd.N_drewN | apply Kd.N_drew)); exact Kd.N_mono HO136.out (fun _ hk => ⟨hk.1.1, ⟨hk.1.2.1, ⟨hk.2, hk.1.2.2⟩⟩⟩)), (by (with_reducible repeat (first | apply Kd.V_alloc | apply Kd.V_drewN | apply Kd.V_drew)); exact Kd.V_mono HO1_1.out (fun _ hk => ⟨hk.1.1, ⟨hk.1.2.1, ⟨hk.2, ⟨hk.1.2.2.1, hk.1.2.2.2⟩⟩⟩⟩)), (by (with_reducible repeat (first | refine blk_drewN ?_ _ | refine blk_drew ?_ | refine blk_alloc ?_ _)); exact BK118.out), (by repeat (first | (with_reducible first | exact HB.out | apply below_alloc | apply pw_below_drewN | apply below_drew1 | refine below_set ?_ GE118.out) | exact HB.out))⟩)
                          · skip
                            refine Kd.N_lit_step k45 _ 45 ?hg (N' := 41) ?hd (xs := ([(⟨(⟨a1_0, l1_1⟩ : S43), a2⟩ : S45)] : List (S45))) (inner := [.string a1_0, .slice A1_1 l1_1.length c1_1, .int .i64 a2]) (ok := (fun k_ => ((P0_ k_ ∨ P1_1_ k_) ∨ w.heap.size ≤ k_) ∧ some k_ ≠ (.slice Ao102 y123.length co102 : Value).ownBlock ∧ k_ ≠ gb118)) (okp := (fun k_ => ((P0_ k_ ∨ P1_1_ k_) ∨ w.heap.size ≤ k_) ∧ some k_ ≠ (.slice Ao102 y123.length co102 : Value).ownBlock ∧ k_ ≠ gb118)) ?hr ?hp (fun _ hk => hk) ((show ∀ k_, w104.heap.size ≤ k_ → (fun k_ => ((P0_ k_ ∨ P1_1_ k_) ∨ w.heap.size ≤ k_) ∧ some k_ ≠ (.slice Ao102 y123.length co102 : Value).ownBlock ∧ k_ ≠ gb118) k_ from fun k_ hk => ⟨(.inr (Nat.le_trans (below_size (by repeat (first | (with_reducible first | exact HB.out | apply below_alloc | apply pw_below_drewN | apply below_drew1 | refine below_set ?_ GE118.out) | exact HB.out))) hk)), Kd.fresh' (Kd.N_lt (by (with_reducible repeat (first | apply Kd.N_alloc | apply Kd.N_drewN | apply Kd.N_drew)); exact HO125.out)) k_ hk, Kd.freshB (g := gb118) (o := .cells #[.string a1_0, .slice A1_1 l1_1.length c1_1] 43 (0, 0)) (by (with_reducible repeat (first | refine blk_drewN ?_ _ | refine blk_drew ?_ | refine blk_alloc ?_ _)); exact BK118.out) k_ hk⟩) _ (Nat.le_refl _)) (Below.refl _ _) (Nat.le_refl _) (by simp) ?_; (case hd => rfl); (case hg => rfl); (case hr => first | (go_simp; done) | (go_simp; rfl)); (case hp => exact (Reps.c3 (show Kd.FK k45 _ _ (⟨(⟨a1_0, l1_1⟩ : S43), a2⟩ : S45) [.string a1_0, .slice A1_1 l1_1.length c1_1, .int .i64 a2] from (k45_mkF _ _ (⟨(⟨a1_0, l1_1⟩ : S43), a2⟩ : S45) (Kd.V_reads' (Kd.V_mono (ok' := (fun k_ => ((P0_ k_ ∨ P1_1_ k_) ∨ w.heap.size ≤ k_) ∧ some k_ ≠ (.slice Ao102 y123.length co102 : Value).ownBlock ∧ k_ ≠ gb118)) (HO1_1.out) (fun k_ hk => ⟨hk.1.1, ⟨hk.2, hk.1.2⟩⟩))).2.1 (Kd.V_F (Kd.V_mono (ok' := (fun k_ => ((P0_ k_ ∨ P1_1_ k_) ∨ w.heap.size ≤ k_) ∧ some k_ ≠ (.slice Ao102 y123.length co102 : Value).ownBlock ∧ k_ ≠ gb118)) (HO1_1.out) (fun k_ hk => ⟨hk.1.1, ⟨hk.2, hk.1.2⟩⟩))))) (Reps.none _ _)))
                            intro v135 w105 ho106 hb hg_ hnew_
                            clear hg_ hnew_
                            (first | rw [← Ny134.out] at ho106 | (simp only [Int.reduceToNat] at ho106; rw [← Ny134.out] at ho106))
                            have n0_ := Aside0.mk (Kd.V_elder' (by (with_reducible repeat (first | apply Kd.V_alloc | apply Kd.V_drewN | apply Kd.V_drew)); exact HO0.out) (Kd.N_base ho106) hb)
                            have n1_ := Aside0.mk (Kd.V_elder' (by (with_reducible repeat (first | apply Kd.V_alloc | apply Kd.V_drewN | apply Kd.V_drew)); exact HO1_1.out) (Kd.N_base ho106) hb)
                            have n2_ := Aside0.mk (Kd.N_elder' (by (with_reducible repeat (first | apply Kd.N_alloc | apply Kd.N_drewN | apply Kd.N_drew)); exact HO125.out) (Kd.N_base ho106) hb)
                            have n3_ := Aside0.mk (Kd.N_lower ho106 (below_size (by repeat (first | (with_reducible first | exact HB.out | apply below_alloc | apply pw_below_drewN | apply below_drew1 | refine below_set ?_ GE118.out) | exact HB.out))))
                            have n4_ := Aside0.mk (blk_below (g := gb118) (o := .cells #[.string a1_0, .slice A1_1 l1_1.length c1_1] 43 (0, 0)) (by (with_reducible repeat (first | refine blk_drewN ?_ _ | refine blk_drew ?_ | refine blk_alloc ?_ _)); exact BK118.out) hb)
                            have n5_ := Aside0.mk (below_step (by repeat (first | (with_reducible first | exact HB.out | apply below_alloc | apply pw_below_drewN | apply below_drew1 | refine below_set ?_ GE118.out) | exact HB.out)) hb)
                            clear HO0
                            clear HO1_1
                            clear HO125
                            clear BK118
                            clear HB
                            have HO0 := n0_
                            have HO1_1 := n1_
                            have HO125 := n2_
                            have HO136 := n3_
                            have BK118 := n4_
                            have HB := n5_
                            clear n0_ n1_ n2_ n3_ n4_ n5_
                            clear hb ho106
                            refine hK.out _ _ ⟨(blk_cell BK118.out 0).trans rfl, (blk_cell BK118.out 1).trans rfl⟩ (fun hHeld => ?_)
                            clear hK K
                            refine norm_ (a' := ?_) ?_ ?_
                            rotate_left
                            · show Act.put _ (some 41) _ = _
                              simp only [Act.put, List.setIfInBounds_toArray, List.set_cons_zero, List.set_cons_succ, i64_w, i32_w]
                              rfl
                            refine one_ (i := 0) (N := some 35) #[true, true, false, true, true, true, true, false, true, false, false, false, false, false, false] rfl rfl (one_of HT_.out (by kernel_rfl)) (by decide) (fun K hK => ?_)
                            refine Kd.N_lit_step k45 _ 45 ?hg (N' := 35) ?hd (xs := ([] : List (S45))) (inner := []) (ok := (fun k_ => ((P0_ k_ ∨ P1_1_ k_) ∨ w.heap.size ≤ k_) ∧ some k_ ≠ (.slice Ao102 y123.length co102 : Value).ownBlock ∧ some k_ ≠ (v135 : Value).ownBlock ∧ k_ ≠ gb118)) (okp := (fun k_ => ((P0_ k_ ∨ P1_1_ k_) ∨ w.heap.size ≤ k_) ∧ some k_ ≠ (.slice Ao102 y123.length co102 : Value).ownBlock ∧ some k_ ≠ (v135 : Value).ownBlock ∧ k_ ≠ gb118)) ?hr ?hp (fun _ hk => hk) ((show ∀ k_, w105.heap.size ≤ k_ → (fun k_ => ((P0_ k_ ∨ P1_1_ k_) ∨ w.heap.size ≤ k_) ∧ some k_ ≠ (.slice Ao102 y123.length co102 : Value).ownBlock ∧ some k_ ≠ (v135 : Value).ownBlock ∧ k_ ≠ gb118) k_ from fun k_ hk => ⟨(.inr (Nat.le_trans (below_size (by repeat (first | (with_reducible first | exact HB.out | apply below_alloc | apply pw_below_drewN | apply below_drew1 | refine below_set ?_ GE118.out) | exact HB.out))) hk)), Kd.fresh' (Kd.N_lt (by (with_reducible repeat (first | apply Kd.N_alloc | apply Kd.N_drewN | apply Kd.N_drew)); exact HO125.out)) k_ hk, Kd.fresh' (Kd.N_lt (by (with_reducible repeat (first | apply Kd.N_alloc | apply Kd.N_drewN | apply Kd.N_drew)); exact HO136.out)) k_ hk, Kd.freshB (g := gb118) (o := .cells #[.string a1_0, .slice A1_1 l1_1.length c1_1] 43 (0, 0)) (by (with_reducible repeat (first | refine blk_drewN ?_ _ | refine blk_drew ?_ | refine blk_alloc ?_ _)); exact BK118.out) k_ hk⟩) _ (Nat.le_refl _)) (Below.refl _ _) (Nat.le_refl _) (by simp) ?_; (case hd => rfl); (case hg => rfl); (case hr => first | (go_simp; done) | (go_simp; rfl)); (case hp => exact (Reps.none _ _))
                            intro v129 w107 ho108 hb hg_ hnew_
                            clear hg_ hnew_
                            (first | rw [← Ny128.out] at ho108 | (simp only [Int.reduceToNat] at ho108; rw [← Ny128.out] at ho108))
                            have n0_ := Aside0.mk (Kd.V_elder' (by (with_reducible repeat (first | apply Kd.V_alloc | apply Kd.V_drewN | apply Kd.V_drew)); exact HO0.out) (Kd.N_base ho108) hb)
                            have n1_ := Aside0.mk (Kd.V_elder' (by (with_reducible repeat (first | apply Kd.V_alloc | apply Kd.V_drewN | apply Kd.V_drew)); exact HO1_1.out) (Kd.N_base ho108) hb)
                            have n2_ := Aside0.mk (Kd.N_elder' (by (with_reducible repeat (first | apply Kd.N_alloc | apply Kd.N_drewN | apply Kd.N_drew)); exact HO125.out) (Kd.N_base ho108) hb)
                            have n3_ := Aside0.mk (Kd.N_elder' (by (with_reducible repeat (first | apply Kd.N_alloc | apply Kd.N_drewN | apply Kd.N_drew)); exact HO136.out) (Kd.N_base ho108) hb)
                            have n4_ := Aside0.mk (Kd.N_lower ho108 (below_size (by repeat (first | (with_reducible first | exact HB.out | apply below_alloc | apply pw_below_drewN | apply below_drew1 | refine below_set ?_ GE118.out) | exact HB.out))))
                            have n5_ := Aside0.mk (blk_below (g := gb118) (o := .cells #[.string a1_0, .slice A1_1 l1_1.length c1_1] 43 (0, 0)) (by (with_reducible repeat (first | refine blk_drewN ?_ _ | refine blk_drew ?_ | refine blk_alloc ?_ _)); exact BK118.out) hb)
                            have n6_ := Aside0.mk (below_step (by repeat (first | (with_reducible first | exact HB.out | apply below_alloc | apply pw_below_drewN | apply below_drew1 | refine below_set ?_ GE118.out) | exact HB.out)) hb)
                            clear HO0
                            clear HO1_1
                            clear HO125
                            clear HO136
                            clear BK118
                            clear HB
                            have HO0 := n0_
                            have HO1_1 := n1_
                            have HO125 := n2_
                            have HO136 := n3_
                            have HO130 := n4_
                            have BK118 := n5_
                            have HB := n6_
                            clear n0_ n1_ n2_ n3_ n4_ n5_ n6_
                            clear hb ho108
                            refine hK.out _ _ ⟨(blk_cell BK118.out 0).trans rfl, (blk_cell BK118.out 1).trans rfl⟩ (fun hHeld => ?_)
                            clear hK K
                            refine norm_ (a' := ?_) ?_ ?_
                            rotate_left
                            · show Act.put _ (some 35) _ = _
                              simp only [Act.put, List.setIfInBounds_toArray, List.set_cons_zero, List.set_cons_succ, i64_w, i32_w]
                              rfl
                            refine one_ (i := 2) (N := some 37) #[true, true, true, true, true, true, true, false, true, false, false, false, false, false, false] rfl rfl (one_of HT_.out (by kernel_rfl)) (by decide) (fun K hK => ?_)
                            refine Kd.N_append_rows_step k45 (w0 := w) w.heap.size (by rfl) (.tmp 35) (.tmp 36) 40 45 (.agg #[(.string ⟨#[]⟩), (.slice none 0 0), (.int .i64 0)]) 48 rfl Try.underlying40 info45 rfl (by decide) (by omega) v129 y128 l0 _ _ _ (fun k_ => ((P0_ k_ ∨ P1_1_ k_) ∨ w.heap.size ≤ k_) ∧ some k_ ≠ (.slice Ao102 y123.length co102 : Value).ownBlock ∧ some k_ ≠ (v135 : Value).ownBlock ∧ k_ ≠ gb118) (fun k_ => ((fun k_ => ((P0_ k_ ∨ P1_1_ k_) ∨ w.heap.size ≤ k_) ∧ some k_ ≠ (.slice Ao102 y123.length co102 : Value).ownBlock ∧ some k_ ≠ (v135 : Value).ownBlock ∧ k_ ≠ gb118)) k_ ∧ some k_ ≠ (v129 : Value).ownBlock) rfl rfl ?aO ?aR (fun _ hk => hk) ?aF ?aB ?aS ?aL ?_
                            (case aR => exact (by skip; exact Kd.V_F (Kd.V_mono (ok' := (fun k_ => ((fun k_ => ((P0_ k_ ∨ P1_1_ k_) ∨ w.heap.size ≤ k_) ∧ some k_ ≠ (.slice Ao102 y123.length co102 : Value).ownBlock ∧ some k_ ≠ (v135 : Value).ownBlock ∧ k_ ≠ gb118)) k_ ∧ some k_ ≠ (v129 : Value).ownBlock)) (HO0.out) (fun k_ hk => ⟨⟨hk.1.1.1.1, ⟨hk.1.1.2, ⟨hk.1.2, hk.1.1.1.2⟩⟩⟩, hk.2⟩))))
                            (case aB => exact (by repeat (first | (with_reducible first | exact HB.out | apply below_alloc | apply pw_below_drewN | apply below_drew1 | refine below_set ?_ GE118.out) | exact HB.out)))
                            (case aF => exact (fun k_ hk => ⟨(.inr (Nat.le_trans (below_size (by repeat (first | (with_reducible first | exact HB.out | apply below_alloc | apply pw_below_drewN | apply below_drew1 | refine below_set ?_ GE118.out) | exact HB.out))) hk)), Kd.fresh' (Kd.N_lt (by (with_reducible repeat (first | apply Kd.N_alloc | apply Kd.N_drewN | apply Kd.N_drew)); exact HO125.out)) k_ hk, Kd.fresh' (Kd.N_lt (by (with_reducible repeat (first | apply Kd.N_alloc | apply Kd.N_drewN | apply Kd.N_drew)); exact HO136.out)) k_ hk, Kd.freshB (g := gb118) (o := .cells #[.string a1_0, .slice A1_1 l1_1.length c1_1] 43 (0, 0)) (by (with_reducible repeat (first | refine blk_drewN ?_ _ | refine blk_drew ?_ | refine blk_alloc ?_ _)); exact BK118.out) k_ hk⟩))
                            (case aO => exact (by (with_reducible repeat (first | apply Kd.N_alloc | apply Kd.N_drewN | apply Kd.N_drew)); exact HO130.out))
                            (case aS => exact (below_size (by repeat (first | (with_reducible first | exact HB.out | apply below_alloc | apply pw_below_drewN | apply below_drew1 | refine below_set ?_ GE118.out) | exact HB.out))))
                            (case aL => have := LMc10.out; omega)
                            intro v132 w109 ho hb hg hat
                            rw [← Ny131.out] at ho
                            have n0_ := Aside0.mk (Kd.V_afterv (ok := (fun k_ => ((P0_ k_ ∨ P1_1_ k_) ∨ w.heap.size ≤ k_) ∧ some k_ ≠ (.slice Ao102 y123.length co102 : Value).ownBlock ∧ some k_ ≠ (v135 : Value).ownBlock ∧ k_ ≠ gb118)) (by (with_reducible repeat (first | apply Kd.V_alloc | apply Kd.V_drewN | apply Kd.V_drew)); exact Kd.V_mono HO0.out (fun _ hk => ⟨⟨hk.1.1.1.1, ⟨hk.1.1.2, ⟨hk.1.2, hk.1.1.1.2⟩⟩⟩, hk.2⟩)) hg hat)
                            have n1_ := Aside0.mk (Kd.V_afterv (ok := (fun k_ => ((P0_ k_ ∨ P1_1_ k_) ∨ w.heap.size ≤ k_) ∧ some k_ ≠ (.slice Ao102 y123.length co102 : Value).ownBlock ∧ some k_ ≠ (v135 : Value).ownBlock ∧ k_ ≠ gb118)) (by (with_reducible repeat (first | apply Kd.V_alloc | apply Kd.V_drewN | apply Kd.V_drew)); exact Kd.V_mono HO1_1.out (fun _ hk => ⟨⟨hk.1.1.1.1, ⟨hk.1.1.2, ⟨hk.1.2, hk.1.1.1.2⟩⟩⟩, hk.2⟩)) hg hat)
                            have n2_ := Aside0.mk (blk_grown (g := gb118) (o := .cells #[.string a1_0, .slice A1_1 l1_1.length c1_1] 43 (0, 0)) (by (with_reducible repeat (first | refine blk_drewN ?_ _ | refine blk_drew ?_ | refine blk_alloc ?_ _)); exact BK118.out) hg (Kd.N_ne HO130.out BK118.out (by decide)))
                            have n3_ := Aside0.mk (Kd.N_afterv (ok := (fun k_ => ((P0_ k_ ∨ P1_1_ k_) ∨ w.heap.size ≤ k_) ∧ some k_ ≠ (v135 : Value).ownBlock ∧ k_ ≠ gb118)) (by (with_reducible repeat (first | apply Kd.N_alloc | apply Kd.N_drewN | apply Kd.N_drew)); exact Kd.N_mono HO125.out (fun _ hk => ⟨⟨hk.1.1.1, ⟨hk.1.2, hk.1.1.2⟩⟩, hk.2⟩)) hg hat)
                            have n4_ := Aside0.mk (Kd.N_afterv (ok := (fun k_ => ((P0_ k_ ∨ P1_1_ k_) ∨ w.heap.size ≤ k_) ∧ some k_ ≠ (.slice Ao102 y123.length co102 : Value).ownBlock ∧ k_ ≠ gb118)) (by (with_reducible repeat (first | apply Kd.N_alloc | apply Kd.N_drewN | apply Kd.N_drew)); exact HO136.out) hg hat)
                            have n5_ := Aside0.mk (hb)
                            have n6_ := Aside0.mk (ho)
                            clear HO0
                            clear HO1_1
                            clear BK118
                            clear HO125
                            clear HO136
                            clear HB
                            clear HO130
                            have HO0 := n0_
                            have HO1_1 := n1_
                            have BK118 := n2_
                            have HO125 := n3_
                            have HO136 := n4_
                            have HB := n5_
                            have HO133 := n6_
                            clear n0_ n1_ n2_ n3_ n4_ n5_ n6_
                            clear ho hb hg hat
                            refine hK.out _ _ ⟨(blk_cell BK118.out 0).trans rfl, (blk_cell BK118.out 1).trans rfl⟩ (fun hHeld => ?_)
                            clear hK K
                            refine norm_ (a' := ?_) ?_ ?_
                            rotate_left
                            · show Act.put _ (some 37) _ = _
                              simp only [Act.put, List.setIfInBounds_toArray, List.set_cons_zero, List.set_cons_succ, i64_w, i32_w]
                              rfl
                            exact norm_ (by simp only [putAll, Act.put, List.setIfInBounds_toArray, List.set_cons_zero, List.set_cons_succ]) (hCont (v129, v132, v135) _ ⟨hHeld, (by (with_reducible repeat (first | apply Kd.V_alloc | apply Kd.V_drewN | apply Kd.V_drew)); exact Kd.V_mono HO0.out (fun _ hk => ⟨hk.1.1, ⟨hk.1.2.1, ⟨hk.2, ⟨hk.1.2.2.1, hk.1.2.2.2⟩⟩⟩⟩)), (by (with_reducible repeat (first | apply Kd.N_alloc | apply Kd.N_drewN | apply Kd.N_drew)); exact Kd.N_mono HO125.out (fun _ hk => ⟨hk.1.1, ⟨hk.2, ⟨hk.1.2.1, hk.1.2.2⟩⟩⟩)), (by (with_reducible repeat (first | apply Kd.N_alloc | apply Kd.N_drewN | apply Kd.N_drew)); exact HO133.out), (by (with_reducible repeat (first | apply Kd.N_alloc | apply Kd.N_drewN | apply Kd.N_drew)); exact Kd.N_mono HO136.out (fun _ hk => ⟨hk.1.1, ⟨hk.1.2.1, ⟨hk.2, hk.1.2.2⟩⟩⟩)), (by (with_reducible repeat (first | apply Kd.V_alloc | apply Kd.V_drewN | apply Kd.V_drew)); exact Kd.V_mono HO1_1.out (fun _ hk => ⟨hk.1.1, ⟨hk.1.2.1, ⟨hk.2, ⟨hk.1.2.2.1, hk.1.2.2.2⟩⟩⟩⟩)), (by (with_reducible repeat (first | refine blk_drewN ?_ _ | refine blk_drew ?_ | refine blk_alloc ?_ _)); exact BK118.out), (by repeat (first | (with_reducible first | exact HB.out | apply below_alloc | apply pw_below_drewN | apply below_drew1 | refine below_set ?_ GE118.out) | exact HB.out))⟩)
                        rintro ⟨v129, v132, v135⟩ w110 ⟨hS_, h0_, h1_, h2_, h3_, h4_, h5_, h6_⟩
                        have n0_ : Aside0 (Kd.V k45 45 w110 w.heap.size (fun k_ => ((P0_ k_ ∨ P1_1_ k_) ∨ w.heap.size ≤ k_) ∧ some k_ ≠ (.slice Ao102 y123.length co102 : Value).ownBlock ∧ some k_ ≠ (v132 : Value).ownBlock ∧ some k_ ≠ (v135 : Value).ownBlock ∧ k_ ≠ gb118) (.slice A0 l0.length c0) l0) := ⟨h0_⟩
                        have n1_ : Aside0 (Kd.N k45 45 w110 w.heap.size (fun k_ => ((P0_ k_ ∨ P1_1_ k_) ∨ w.heap.size ≤ k_) ∧ some k_ ≠ (v132 : Value).ownBlock ∧ some k_ ≠ (v135 : Value).ownBlock ∧ k_ ≠ gb118) (.slice Ao102 y123.length co102) y123) := ⟨h1_⟩
                        have n2_ : Aside0 (Kd.N k45 45 w110 w.heap.size (fun k_ => ((P0_ k_ ∨ P1_1_ k_) ∨ w.heap.size ≤ k_) ∧ some k_ ≠ (.slice Ao102 y123.length co102 : Value).ownBlock ∧ some k_ ≠ (v135 : Value).ownBlock ∧ k_ ≠ gb118) v132 y131) := ⟨h2_⟩
                        have n3_ : Aside0 (Kd.N k45 45 w110 w.heap.size (fun k_ => ((P0_ k_ ∨ P1_1_ k_) ∨ w.heap.size ≤ k_) ∧ some k_ ≠ (.slice Ao102 y123.length co102 : Value).ownBlock ∧ some k_ ≠ (v132 : Value).ownBlock ∧ k_ ≠ gb118) v135 y134) := ⟨h3_⟩
                        have n4_ : Aside0 (Kd.V Kd.string 9 w110 w.heap.size (fun k_ => ((P0_ k_ ∨ P1_1_ k_) ∨ w.heap.size ≤ k_) ∧ some k_ ≠ (.slice Ao102 y123.length co102 : Value).ownBlock ∧ some k_ ≠ (v132 : Value).ownBlock ∧ some k_ ≠ (v135 : Value).ownBlock ∧ k_ ≠ gb118) (.slice A1_1 l1_1.length c1_1) l1_1) := ⟨h4_⟩
                        have n5_ : Aside0 (w110.heap[gb118]? = some (.cells #[.string a1_0, .slice A1_1 l1_1.length c1_1] 43 (0, 0))) := ⟨h5_⟩
                        have n6_ : Aside0 (Below w.heap.size w w110) := ⟨h6_⟩
                        clear HO0
                        clear HO1_1
                        clear HO125
                        clear BK118
                        clear HB
                        clear h0_ h1_ h2_ h3_ h4_ h5_ h6_
                        have HO0 := n0_
                        have HO125 := n1_
                        have HO133 := n2_
                        have HO136 := n3_
                        have HO1_1 := n4_
                        have BK118 := n5_
                        have HB := n6_
                        clear n0_ n1_ n2_ n3_ n4_ n5_ n6_
                        have hHeld : w110.cell? ⟨gb118, 0, none⟩ = some (.string a1_0) ∧ w110.cell? ⟨gb118, 1, none⟩ = some (.slice A1_1 l1_1.length c1_1) := hS_
                        obtain ⟨Ao112, co112, eo112⟩ := Kd.N_slice HO136.out
                        (first | subst eo112 | (injection eo112 with f1_ f2_ f3_; have f4_ := f1_.symm; have f5_ := f3_.symm; clear f1_ f2_ f3_; subst f4_; subst f5_))
                        refine norm_ (a' := ?_) ?_ ?_
                        rotate_left
                        · simp only [putAll, Act.put, List.setIfInBounds_toArray, List.set_cons_zero, List.set_cons_succ]
                          rfl
                        refine one_ (i := 7) (N := some 42) #[true, true, true, true, true, true, true, true, true, false, false, false, false, false, false] rfl rfl (one_of HT_.out (by kernel_rfl)) (by decide) (fun K hK => ?_)
                        refine Kd.N_append_rows_step k45 (w0 := w) w.heap.size (by rfl) (.tmp 37) (.tmp 41) 40 45 (.agg #[(.string ⟨#[]⟩), (.slice none 0 0), (.int .i64 0)]) 48 rfl Try.underlying40 info45 rfl (by decide) (by omega) v132 y131 y134 _ _ _ (fun k_ => ((P0_ k_ ∨ P1_1_ k_) ∨ w.heap.size ≤ k_) ∧ some k_ ≠ (.slice Ao102 y123.length co102 : Value).ownBlock ∧ k_ ≠ gb118) (fun k_ => ((fun k_ => ((P0_ k_ ∨ P1_1_ k_) ∨ w.heap.size ≤ k_) ∧ some k_ ≠ (.slice Ao102 y123.length co102 : Value).ownBlock ∧ k_ ≠ gb118)) k_ ∧ some k_ ≠ (v132 : Value).ownBlock) rfl rfl ?aO ?aR (fun _ hk => hk) ?aF ?aB ?aS ?aL ?_
                        (case aR => exact (by skip; exact Kd.N_F (Kd.N_mono (ok' := (fun k_ => ((fun k_ => ((P0_ k_ ∨ P1_1_ k_) ∨ w.heap.size ≤ k_) ∧ some k_ ≠ (.slice Ao102 y123.length co102 : Value).ownBlock ∧ k_ ≠ gb118)) k_ ∧ some k_ ≠ (v132 : Value).ownBlock)) (HO136.out) (fun k_ hk => ⟨⟨hk.1, ⟨hk.2.1, hk.2.2.2⟩⟩, hk.2.2.1⟩))))
                        (case aB => exact (by repeat (first | (with_reducible first | exact HB.out | apply below_alloc | apply pw_below_drewN | apply below_drew1 | refine below_set ?_ GE118.out) | exact HB.out)))
                        (case aF => exact (fun k_ hk => ⟨(.inr (Nat.le_trans (below_size (by repeat (first | (with_reducible first | exact HB.out | apply below_alloc | apply pw_below_drewN | apply below_drew1 | refine below_set ?_ GE118.out) | exact HB.out))) hk)), Kd.fresh' (Kd.N_lt (by (with_reducible repeat (first | apply Kd.N_alloc | apply Kd.N_drewN | apply Kd.N_drew)); exact HO125.out)) k_ hk, Kd.freshB (g := gb118) (o := .cells #[.string a1_0, .slice A1_1 l1_1.length c1_1] 43 (0, 0)) (by (with_reducible repeat (first | refine blk_drewN ?_ _ | refine blk_drew ?_ | refine blk_alloc ?_ _)); exact BK118.out) k_ hk⟩))
                        (case aO => exact (by (with_reducible repeat (first | apply Kd.N_alloc | apply Kd.N_drewN | apply Kd.N_drew)); exact Kd.N_mono HO133.out (fun _ hk => ⟨hk.1, ⟨hk.2.1, hk.2.2.2⟩⟩)))
                        (case aS => exact (below_size (by repeat (first | (with_reducible first | exact HB.out | apply below_alloc | apply pw_below_drewN | apply below_drew1 | refine below_set ?_ GE118.out) | exact HB.out))))
                        (case aL => have := LMc11.out; omega)
                        intro v138 w111 ho hb hg hat
                        rw [← Ny137.out] at ho
                        have n0_ := Aside0.mk (Kd.V_afterv (ok := (fun k_ => ((P0_ k_ ∨ P1_1_ k_) ∨ w.heap.size ≤ k_) ∧ some k_ ≠ (.slice Ao102 y123.length co102 : Value).ownBlock ∧ some k_ ≠ (.slice Ao112 y134.length co112 : Value).ownBlock ∧ k_ ≠ gb118)) (by (with_reducible repeat (first | apply Kd.V_alloc | apply Kd.V_drewN | apply Kd.V_drew)); exact Kd.V_mono HO0.out (fun _ hk => ⟨⟨hk.1, ⟨hk.2.1, ⟨hk.2.2.2.1, hk.2.2.2.2⟩⟩⟩, hk.2.2.1⟩)) hg hat)
                        have n1_ := Aside0.mk (Kd.V_afterv (ok := (fun k_ => ((P0_ k_ ∨ P1_1_ k_) ∨ w.heap.size ≤ k_) ∧ some k_ ≠ (.slice Ao102 y123.length co102 : Value).ownBlock ∧ some k_ ≠ (.slice Ao112 y134.length co112 : Value).ownBlock ∧ k_ ≠ gb118)) (by (with_reducible repeat (first | apply Kd.V_alloc | apply Kd.V_drewN | apply Kd.V_drew)); exact Kd.V_mono HO1_1.out (fun _ hk => ⟨⟨hk.1, ⟨hk.2.1, ⟨hk.2.2.2.1, hk.2.2.2.2⟩⟩⟩, hk.2.2.1⟩)) hg hat)
                        have n2_ := Aside0.mk (blk_grown (g := gb118) (o := .cells #[.string a1_0, .slice A1_1 l1_1.length c1_1] 43 (0, 0)) (by (with_reducible repeat (first | refine blk_drewN ?_ _ | refine blk_drew ?_ | refine blk_alloc ?_ _)); exact BK118.out) hg (Kd.N_ne HO133.out BK118.out (by decide)))
                        have n3_ := Aside0.mk (Kd.N_afterv (ok := (fun k_ => ((P0_ k_ ∨ P1_1_ k_) ∨ w.heap.size ≤ k_) ∧ some k_ ≠ (.slice Ao112 y134.length co112 : Value).ownBlock ∧ k_ ≠ gb118)) (by (with_reducible repeat (first | apply Kd.N_alloc | apply Kd.N_drewN | apply Kd.N_drew)); exact Kd.N_mono HO125.out (fun _ hk => ⟨⟨hk.1, ⟨hk.2.2.1, hk.2.2.2⟩⟩, hk.2.1⟩)) hg hat)
                        have n4_ := Aside0.mk (Kd.N_afterv (ok := (fun k_ => ((P0_ k_ ∨ P1_1_ k_) ∨ w.heap.size ≤ k_) ∧ some k_ ≠ (.slice Ao102 y123.length co102 : Value).ownBlock ∧ k_ ≠ gb118)) (by (with_reducible repeat (first | apply Kd.N_alloc | apply Kd.N_drewN | apply Kd.N_drew)); exact Kd.N_mono HO136.out (fun _ hk => ⟨⟨hk.1, ⟨hk.2.1, hk.2.2.2⟩⟩, hk.2.2.1⟩)) hg hat)
                        have n5_ := Aside0.mk (hb)
                        have n6_ := Aside0.mk (ho)
                        clear HO0
                        clear HO1_1
                        clear BK118
                        clear HO125
                        clear HO136
                        clear HB
                        clear HO133
                        have HO0 := n0_
                        have HO1_1 := n1_
                        have BK118 := n2_
                        have HO125 := n3_
                        have HO136 := n4_
                        have HB := n5_
                        have HO139 := n6_
                        clear n0_ n1_ n2_ n3_ n4_ n5_ n6_
                        clear ho hb hg hat
                        obtain ⟨Ao113, co113, eo113⟩ := Kd.N_slice HO139.out
                        (first | subst eo113 | (injection eo113 with f1_ f2_ f3_; have f4_ := f1_.symm; have f5_ := f3_.symm; clear f1_ f2_ f3_; subst f4_; subst f5_))
                        refine hK.out _ _ ⟨(blk_cell BK118.out 0).trans rfl, (blk_cell BK118.out 1).trans rfl⟩ (fun hHeld => ?_)
                        clear hK K
                        refine norm_ (a' := ?_) ?_ ?_
                        rotate_left
                        · show Act.put _ (some 42) _ = _
                          simp only [Act.put, List.setIfInBounds_toArray, List.set_cons_zero, List.set_cons_succ, i64_w, i32_w]
                          rfl
                        refine one_ (i := 9) (N := some 44) #[true, true, true, true, true, true, true, true, true, true, false, false, false, false, false] rfl rfl (one_of HT_.out (by kernel_rfl)) (by decide) (fun K hK => ?_)
                        refine goes_ Try.func19 (by kernel_rfl) rfl #[.slice Ao113 y137.length co113, .agg #[.string a1_0, .slice A1_1 l1_1.length c1_1]] (by rfl) rfl rfl (by (try simp only [List.map_toArray, List.map_cons, List.map_nil]); first | done | rfl | (simp only [List.length_drop, List.length_take]; rfl)) ?_
                        with_reducible refine (princs_Lookup.calls _ _ y137 a1_0 _ _ l1_1 t140 true _ ?side1 ?side2 ?side3 ?side4 A12.out).mono ?_
                        (case side1 => repeat (first | exact (Kd.N_reads' HO139.out).2.2 | (with_reducible refine Kd.C_alloc ?_ _) | (with_reducible refine Kd.C_drewN ?_ _) | (with_reducible refine Kd.C_drew ?_)))
                        (case side2 => exact (Kd.N_reads' HO139.out).2.1)
                        (case side3 => repeat (first | exact (Kd.V_reads' HO1_1.out).2.2 | (with_reducible refine Kd.C_alloc ?_ _) | (with_reducible refine Kd.C_drewN ?_ _) | (with_reducible refine Kd.C_drew ?_)))
                        (case side4 => exact (Kd.V_reads' HO1_1.out).2.1)
                        rintro e w114 ⟨rfl, hb⟩
                        refine ⟨_, rfl, ?_⟩
                        have n0_ := Aside0.mk (Kd.V_below (by (with_reducible repeat (first | apply Kd.V_alloc | apply Kd.V_drewN | apply Kd.V_drew)); exact HO0.out) hb)
                        have n1_ := Aside0.mk (Kd.V_below (by (with_reducible repeat (first | apply Kd.V_alloc | apply Kd.V_drewN | apply Kd.V_drew)); exact HO1_1.out) hb)
                        have n2_ := Aside0.mk (Kd.N_below (by (with_reducible repeat (first | apply Kd.N_alloc | apply Kd.N_drewN | apply Kd.N_drew)); exact HO125.out) hb)
                        have n3_ := Aside0.mk (Kd.N_below (by (with_reducible repeat (first | apply Kd.N_alloc | apply Kd.N_drewN | apply Kd.N_drew)); exact HO136.out) hb)
                        have n4_ := Aside0.mk (Kd.N_below (by (with_reducible repeat (first | apply Kd.N_alloc | apply Kd.N_drewN | apply Kd.N_drew)); exact HO139.out) hb)
                        have n5_ := Aside0.mk (blk_below (g := gb118) (o := .cells #[.string a1_0, .slice A1_1 l1_1.length c1_1] 43 (0, 0)) (by (with_reducible repeat (first | refine blk_drewN ?_ _ | refine blk_drew ?_ | refine blk_alloc ?_ _)); exact BK118.out) hb)
                        have n6_ := Aside0.mk (below_step (by repeat (first | (with_reducible first | exact HB.out | apply below_alloc | apply pw_below_drewN | apply below_drew1 | refine below_set ?_ GE118.out) | exact HB.out)) hb)
                        clear HO0
                        clear HO1_1
                        clear HO125
                        clear HO136
                        clear HO139
                        clear BK118
                        clear HB
                        have HO0 := n0_
                        have HO1_1 := n1_
                        have HO125 := n2_
                        have HO136 := n3_
                        have HO139 := n4_
                        have BK118 := n5_
                        have HB := n6_
                        clear n0_ n1_ n2_ n3_ n4_ n5_ n6_
                        (try clear hb)
                        (try clear hb2)
                        (try clear hk)
                        (try clear hi)
                        refine hK.out _ _ ⟨(blk_cell BK118.out 0).trans rfl, (blk_cell BK118.out 1).trans rfl⟩ (fun hHeld => ?_)
                        clear hK K
                        refine norm_ (a' := ?_) ?_ ?_
                        rotate_left
                        · show Act.put _ (some 44) _ = _
                          simp only [Act.put, List.setIfInBounds_toArray, List.set_cons_zero, List.set_cons_succ, i64_w, i32_w]
                          rfl
                        refine pure_ (i := 10) (N := some 34) (v := ?_) (a' := ?_) #[true, true, true, true, true, true, true, true, true, true, true, false, false, false, false] rfl rfl (any_of HT_.out (by kernel_rfl)) (fun _ _ _ h => h) (Or.inl ⟨by rfl, ?_⟩) ?_ ?_
                        rotate_left
                        · intro w'
                          go_simp
                          with_reducible rfl
                        rotate_left
                        · simp only [Act.put, List.setIfInBounds_toArray, List.set_cons_zero, List.set_cons_succ, i64_w, i32_w]
                          rfl
                        refine pure_ (i := 11) (N := some 45) (v := ?_) (a' := ?_) #[true, true, true, true, true, true, true, true, true, true, true, true, false, false, false] rfl rfl (any_of HT_.out (by kernel_rfl)) (fun _ _ _ h => h) (Or.inl ⟨by rfl, ?_⟩) ?_ ?_
                        rotate_left
                        · intro w'
                          go_simp
                          with_reducible rfl
                        rotate_left
                        · simp only [Act.put, List.setIfInBounds_toArray, List.set_cons_zero, List.set_cons_succ, i64_w, i32_w]
                          rfl
                        refine pure_ (i := 12) (N := some 46) (v := ?_) (a' := ?_) #[true, true, true, true, true, true, true, true, true, true, true, true, true, false, false] rfl rfl (any_of HT_.out (by kernel_rfl)) (fun _ _ _ h => h) (Or.inl ⟨by rfl, ?_⟩) ?_ ?_
                        rotate_left
                        · intro w'
                          go_simp
                          with_reducible rfl
                        rotate_left
                        · simp only [Act.put, List.setIfInBounds_toArray, List.set_cons_zero, List.set_cons_succ, i64_w, i32_w]
                          rfl
                        refine pure_ (i := 13) (N := some 11) (v := ?_) (a' := ?_) #[true, true, true, true, true, true, true, true, true, true, true, true, true, true, false] rfl rfl (any_of HT_.out (by kernel_rfl)) (fun _ _ _ h => h) (Or.inl ⟨by rfl, ?_⟩) ?_ ?_
                        rotate_left
                        · intro w'
                          go_simp
                          with_reducible rfl
                        rotate_left
                        · simp only [Act.put, List.setIfInBounds_toArray, List.set_cons_zero, List.set_cons_succ, i64_w, i32_w]
                          rfl
                        refine pure_ (i := 14) (N := some 12) (v := ?_) (a' := ?_) #[true, true, true, true, true, true, true, true, true, true, true, true, true, true, true] rfl rfl (any_of HT_.out (by kernel_rfl)) (fun _ _ _ h => h) (Or.inl ⟨by rfl, ?_⟩) ?_ ?_
                        rotate_left
                        · intro w'
                          go_simp
                          with_reducible rfl
                        rotate_left
                        · simp only [Act.put, List.setIfInBounds_toArray, List.set_cons_zero, List.set_cons_succ, i64_w, i32_w]
                          rfl
                        refine done_ (done_of HT_.out (by kernel_rfl)) ?_
                        have hcz115_0 : w114.cell? ⟨gb118, 0, none⟩ = some (.string a1_0) := (blk_cell BK118.out 0).trans rfl
                        have hcz115_1 : w114.cell? ⟨gb118, 1, none⟩ = some (.slice A1_1 l1_1.length c1_1) := (blk_cell BK118.out 1).trans rfl
                        have hfz115_0 := blk_frozen BK118.out 0
                        have hfz115_1 := blk_frozen BK118.out 1
                        try go_wp2_with (first | ((with_reducible refine gate_callee (f := 19) rfl ?_); refine goesL_ (some 50) rfl rfl Try.func19 (by kernel_rfl) rfl #[.slice A0 l0.length c0, .agg #[.string a1_0, .slice A1_1 l1_1.length c1_1]] rfl (by (try simp only [List.map_toArray, List.map_cons, List.map_nil]); first | done | rfl | (simp only [List.length_drop, List.length_take]; rfl)) ?_; (with_reducible refine (princs_Lookup.calls _ _ l0 a1_0 _ _ l1_1 t142 false _ ?side1 ?side2 ?side3 ?side4 A13.out).mono ?_); (case side1 => repeat (first | exact (Kd.V_reads' HO0.out).2.2 | (with_reducible refine Kd.C_alloc ?_ _) | (with_reducible refine Kd.C_drewN ?_ _) | (with_reducible refine Kd.C_drew ?_))); (case side2 => exact (Kd.V_reads' HO0.out).2.1); (case side3 => repeat (first | exact (Kd.V_reads' HO1_1.out).2.2 | (with_reducible refine Kd.C_alloc ?_ _) | (with_reducible refine Kd.C_drewN ?_ _) | (with_reducible refine Kd.C_drew ?_))); (case side4 => exact (Kd.V_reads' HO1_1.out).2.1); rintro e w116 ⟨rfl, hb⟩; refine ⟨_, rfl, ?_⟩; have n0_ := Aside0.mk (Kd.V_below (by (with_reducible repeat (first | apply Kd.V_alloc | apply Kd.V_drewN | apply Kd.V_drew)); exact HO0.out) hb); have n1_ := Aside0.mk (Kd.V_below (by (with_reducible repeat (first | apply Kd.V_alloc | apply Kd.V_drewN | apply Kd.V_drew)); exact HO1_1.out) hb); have n2_ := Aside0.mk (Kd.N_below (by (with_reducible repeat (first | apply Kd.N_alloc | apply Kd.N_drewN | apply Kd.N_drew)); exact HO125.out) hb); have n3_ := Aside0.mk (Kd.N_below (by (with_reducible repeat (first | apply Kd.N_alloc | apply Kd.N_drewN | apply Kd.N_drew)); exact HO136.out) hb); have n4_ := Aside0.mk (Kd.N_below (by (with_reducible repeat (first | apply Kd.N_alloc | apply Kd.N_drewN | apply Kd.N_drew)); exact HO139.out) hb); have n5_ := Aside0.mk (blk_below (g := gb118) (o := .cells #[.string a1_0, .slice A1_1 l1_1.length c1_1] 43 (0, 0)) (by (with_reducible repeat (first | refine blk_drewN ?_ _ | refine blk_drew ?_ | refine blk_alloc ?_ _)); exact BK118.out) hb); have n6_ := Aside0.mk (below_step (by repeat (first | (with_reducible first | exact HB.out | apply below_alloc | apply pw_below_drewN | apply below_drew1 | refine below_set ?_ GE118.out) | exact HB.out)) hb); clear HO0; clear HO1_1; clear HO125; clear HO136; clear HO139; clear BK118; clear HB; have HO0 := n0_; have HO1_1 := n1_; have HO125 := n2_; have HO136 := n3_; have HO139 := n4_; have BK118 := n5_; have HB := n6_; clear n0_ n1_ n2_ n3_ n4_ n5_ n6_; (try clear hb); (try clear hb2); (try clear hk); (try clear hi); have hcz117_0 : w116.cell? ⟨gb118, 0, none⟩ = some (.string a1_0) := (blk_cell BK118.out 0).trans rfl; have hcz117_1 : w116.cell? ⟨gb118, 1, none⟩ = some (.slice A1_1 l1_1.length c1_1) := (blk_cell BK118.out 1).trans rfl; have hfz117_0 := blk_frozen BK118.out 0; have hfz117_1 := blk_frozen BK118.out 1) | ((with_reducible refine gate_callee (f := 19) rfl ?_); refine goesL_ (some 55) rfl rfl Try.func19 (by kernel_rfl) rfl #[.slice none 0 0, .agg #[.string a1_0, .slice A1_1 l1_1.length c1_1]] rfl (by (try simp only [List.map_toArray, List.map_cons, List.map_nil]); first | done | rfl | (simp only [List.length_drop, List.length_take]; rfl)) ?_; (refine (princs_Lookup.calls _ _ ([] : List (S45)) a1_0 _ _ l1_1 t144 false _ ?side1 ?side2 ?side3 ?side4 A14.out).mono ?_); (case side1 => exact Kd.C_nil _ _); (case side2 => exact Nat.le_refl _); (case side3 => repeat (first | exact (Kd.V_reads' HO1_1.out).2.2 | (with_reducible refine Kd.C_alloc ?_ _) | (with_reducible refine Kd.C_drewN ?_ _) | (with_reducible refine Kd.C_drew ?_))); (case side4 => exact (Kd.V_reads' HO1_1.out).2.1); rintro e w118 ⟨rfl, hb⟩; refine ⟨_, rfl, ?_⟩; have n0_ := Aside0.mk (Kd.V_below (by (with_reducible repeat (first | apply Kd.V_alloc | apply Kd.V_drewN | apply Kd.V_drew)); exact HO0.out) hb); have n1_ := Aside0.mk (Kd.V_below (by (with_reducible repeat (first | apply Kd.V_alloc | apply Kd.V_drewN | apply Kd.V_drew)); exact HO1_1.out) hb); have n2_ := Aside0.mk (Kd.N_below (by (with_reducible repeat (first | apply Kd.N_alloc | apply Kd.N_drewN | apply Kd.N_drew)); exact HO125.out) hb); have n3_ := Aside0.mk (Kd.N_below (by (with_reducible repeat (first | apply Kd.N_alloc | apply Kd.N_drewN | apply Kd.N_drew)); exact HO136.out) hb); have n4_ := Aside0.mk (Kd.N_below (by (with_reducible repeat (first | apply Kd.N_alloc | apply Kd.N_drewN | apply Kd.N_drew)); exact HO139.out) hb); have n5_ := Aside0.mk (blk_below (g := gb118) (o := .cells #[.string a1_0, .slice A1_1 l1_1.length c1_1] 43 (0, 0)) (by (with_reducible repeat (first | refine blk_drewN ?_ _ | refine blk_drew ?_ | refine blk_alloc ?_ _)); exact BK118.out) hb); have n6_ := Aside0.mk (below_step (by repeat (first | (with_reducible first | exact HB.out | apply below_alloc | apply pw_below_drewN | apply below_drew1 | refine below_set ?_ GE118.out) | exact HB.out)) hb); clear HO0; clear HO1_1; clear HO125; clear HO136; clear HO139; clear BK118; clear HB; have HO0 := n0_; have HO1_1 := n1_; have HO125 := n2_; have HO136 := n3_; have HO139 := n4_; have BK118 := n5_; have HB := n6_; clear n0_ n1_ n2_ n3_ n4_ n5_ n6_; (try clear hb); (try clear hb2); (try clear hk); (try clear hi)))
                        go_ret
                        exact ⟨by first | rfl | (simp [errW_none, errW_some] <;> rfl) | (simp [*, errW_none, errW_some] <;> rfl), by repeat (first | (with_reducible first | exact HB.out | apply below_alloc | apply pw_below_drewN | apply below_drew1 | refine below_set ?_ GE118.out) | exact HB.out)⟩
                      · rw [if_neg c94] at H
                        exact absurd ((Option.some.inj H).trans hrt) (by decide)
                · replace c18 := Bool.eq_false_iff.mpr c18
                  subst c18
                  have H1 : (some false) = some r := by rw [if_neg (show ¬ (false = true) by decide)] at H; exact H
                  clear H
                  have H := H1
                  clear H1
                  exact absurd ((Option.some.inj H).trans hrt) (by decide)
              · rw [if_neg c17] at H
                exact absurd ((Option.some.inj H).trans hrt) (by decide)
            · replace c16 := Bool.eq_false_iff.mpr c16
              subst c16
              have H1 : (some false) = some r := by rw [if_neg (show ¬ (false = true) by decide)] at H; exact H
              clear H
              have H := H1
              clear H1
              exact absurd ((Option.some.inj H).trans hrt) (by decide)
          · replace c15 := Bool.eq_false_iff.mpr c15
            subst c15
            have H1 : (some false) = some r := by rw [if_neg (show ¬ (false = true) by decide)] at H; exact H
            clear H
            have H := H1
            clear H1
            exact absurd ((Option.some.inj H).trans hrt) (by decide)
        · rw [if_neg c11] at H
          exact absurd H (by simp)
      · rw [if_neg c10] at H
        exact absurd H (by simp)
    · rw [if_neg c8] at H
      exact absurd H (by simp)

end Go.Proofs.Ytalcfnhcenpniaa.XK
