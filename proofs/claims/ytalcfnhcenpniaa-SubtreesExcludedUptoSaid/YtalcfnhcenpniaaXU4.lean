-- printed by wip/xprint.py (a scratch copy of the kit's print, with contracts by hand)
import Derived.Test.YtalcfnhcenpniaaXU0
import Derived.Test.YtalcfnhcenpniaaXU2
import Derived.Test.YtalcfnhcenpniaaXU3
namespace Go.Proofs.Ytalcfnhcenpniaa.XU
open Go.RowKit Go.Proofs.YtalcfnhcenpniaaW.PrintWords Go.Proofs.YtalcfnhcenpniaaW.PrintLast Go.Proofs.YtalcfnhcenpniaaW.PrintMore
attribute [local go_sem] max2_int min2_int max_two min_two max_three min_three max_four min_four   -- for this text's walks alone
set_option linter.unusedVariables false
set_option linter.unusedSimpArgs false

/-! ### subtrees_Narrow: function 12 -/
def subtrees_Narrow.l0 : Nat → List (List (S35)) → List (List (S35)) → List (List (List (S35))) → Int → Int → List (List (List (S35))) → List (List (S35)) → List (List (List (S35))) → Option ((List (List (List (S35)))) × (List (List (S35))))
  | 0, _, _, _, _, _, _, _, _ => none
  | k + 1, x1, x2, x11, x12, x13, x114000, x114001, x116000 => if x13 < x12 then (if 0 ≤ x13 then (if x13 < (x11.length : Int) then ((subtrees_cloned.f (rd_L6 x11 x13)).bind fun t117 => (if x116000.length < 5864062014805 then (subtrees_Narrow.l0 k x1 x2 x11 x12 (wrap64 (x13 + 1)) x114000 x114001 (x116000 ++ [t117])) else (none))) else (none)) else (none)) else (if (x1.length : Int) > 0 then ((subtrees_cloned.f x1).bind fun t123 => (if x116000.length < 5864062014805 then ((subtrees_cloned.f x114001).bind fun t129 => ((subtrees_cloned.f x2).bind fun t132 => (if t129.length + t132.length < 5864062014805 then (some ((x116000 ++ [t123]), (t129 ++ t132))) else (none)))) else (none))) else ((subtrees_cloned.f x114001).bind fun t138 => ((subtrees_cloned.f x2).bind fun t141 => (if t138.length + t141.length < 5864062014805 then (some (x116000, (t138 ++ t141))) else (none)))))
def subtrees_Narrow.f (k : Nat) (l0_0 : List (List (List (S35)))) (l0_1 : List (List (S35))) (l1 : List (List (S35))) (l2 : List (List (S35))) : Option ((List (List (List (S35)))) × (List (List (S35)))) := subtrees_Narrow.l0 k l1 l2 l0_0 (l0_0.length : Int) 0 l0_0 l0_1 ([] : List (List (List (S35))))
theorem subtrees_Narrow.mono_l : ∀ k, (∀ y0 y1 y2 y3 y4 y5 y6 y7, LeO (subtrees_Narrow.l0 k y0 y1 y2 y3 y4 y5 y6 y7) (subtrees_Narrow.l0 (k + 1) y0 y1 y2 y3 y4 y5 y6 y7))
  | 0 => fun _ _ _ _ _ _ _ _ r h => by simp [subtrees_Narrow.l0] at h
  | k + 1 => by
    have ih0 := subtrees_Narrow.mono_l k
    · intro y0 y1 y2 y3 y4 y5 y6 y7
      unfold subtrees_Narrow.l0
      repeat' first
      | (with_reducible exact ih0 _ _ _ _ _ _ _ _)
      | (with_reducible exact LeO.refl _)
      | (with_reducible exact LeO.none _)
      | (with_reducible refine LeO.ite ?_ ?_)
      | (with_reducible refine LeO.bind ?_ (fun _ => ?_))
      | exact ih0 _ _ _ _ _ _ _ _
      | exact LeO.none _
      | refine LeO.ite ?_ ?_
      | refine LeO.bind ?_ (fun _ => ?_)
theorem subtrees_Narrow.mono : ∀ a0 a1 a2 a3 k, LeO (subtrees_Narrow.f k a0 a1 a2 a3) (subtrees_Narrow.f (k + 1) a0 a1 a2 a3) := by
  intro a0 a1 a2 a3 k
  have ih0 := subtrees_Narrow.mono_l k
  unfold subtrees_Narrow.f
  repeat' first
      | (with_reducible exact ih0 _ _ _ _ _ _ _ _)
      | (with_reducible exact LeO.refl _)
      | (with_reducible exact LeO.none _)
      | (with_reducible refine LeO.ite ?_ ?_)
      | (with_reducible refine LeO.bind ?_ (fun _ => ?_))
      | exact ih0 _ _ _ _ _ _ _ _
      | exact LeO.none _
      | refine LeO.ite ?_ ?_
      | refine LeO.bind ?_ (fun _ => ?_)
def subtrees_Narrow.T5 : Bool × List (List Nat × List Nat) := (true, [([], []), ([0], [0]), ([], []), ([2], [2]), ([3], [3]), ([1, 4, 3], [1, 4]), ([0, 1, 2, 3, 4, 5], []), ([6, 5, 5, 0, 1, 2, 3, 4, 5], [5, 6])])
def subtrees_Narrow.B5 : List Nat := [0, 1, 0, 4, 12, 31, 63, 127]
theorem subtrees_Narrow.tab5 : rtab .any (opsOf Try.f12 5) = subtrees_Narrow.T5 := by kernel_rfl
theorem subtrees_Narrow.bits5 : waitsOk subtrees_Narrow.T5.2 subtrees_Narrow.B5 = true := by kernel_rfl
def subtrees_Narrow.T8 : Bool × List (List Nat × List Nat) := (true, [([], []), ([0], [0]), ([], []), ([2], [2]), ([3], [3]), ([1, 4, 3], [1, 4]), ([0, 1, 2, 3, 4, 5], []), ([6, 5, 5, 0, 1, 2, 3, 4, 5], [5, 6])])
def subtrees_Narrow.B8 : List Nat := [0, 1, 0, 4, 12, 31, 63, 127]
theorem subtrees_Narrow.tab8 : rtab .any (opsOf Try.f12 8) = subtrees_Narrow.T8 := by kernel_rfl
theorem subtrees_Narrow.bits8 : waitsOk subtrees_Narrow.T8.2 subtrees_Narrow.B8 = true := by kernel_rfl
set_option maxHeartbeats 8000000 in
set_option maxRecDepth 100000 in
theorem subtrees_Narrow.calls (k : Nat) (A0_0 : Option Addr) (c0_0 : Nat) (l0_0 : List (List (List (S35)))) (A0_1 : Option Addr) (c0_1 : Nat) (l0_1 : List (List (S35))) (A1 : Option Addr) (c1 : Nat) (l1 : List (List (S35))) (A2 : Option Addr) (c2 : Nat) (l2 : List (List (S35))) (r1 : List (List (List (S35)))) (r2 : List (List (S35))) (w : World) (hr0_0 : Kd.C (Kd.slice 27 (Kd.slice 35 k35)) w A0_0 l0_0.length l0_0) (hc0_0 : l0_0.length ≤ c0_0) (hr0_1 : Kd.C (Kd.slice 35 k35) w A0_1 l0_1.length l0_1) (hc0_1 : l0_1.length ≤ c0_1) (hr1 : Kd.C (Kd.slice 35 k35) w A1 l1.length l1) (hc1 : l1.length ≤ c1) (hr2 : Kd.C (Kd.slice 35 k35) w A2 l2.length l2) (hc2 : l2.length ≤ c2) (h : subtrees_Narrow.f k l0_0 l0_1 l1 l2 = some (r1, r2)) :
    Calls Try.prog 12 #[.agg #[.slice A0_0 l0_0.length c0_0, .slice A0_1 l0_1.length c0_1], .slice A1 l1.length c1, .slice A2 l2.length c2] w fun e w' => ∃ v0_ v1_ : Value, e = .returned (.agg #[v0_, v1_]) ∧ Kd.N (Kd.slice 27 (Kd.slice 35 k35)) 23 w' w.heap.size (fun k_ => (w.heap.size ≤ k_) ∧ some k_ ≠ (v1_ : Value).ownBlock) v0_ r1 ∧ Kd.N (Kd.slice 35 k35) 27 w' w.heap.size (fun k_ => (w.heap.size ≤ k_) ∧ some k_ ≠ (v0_ : Value).ownBlock) v1_ r2 ∧ Below w.heap.size w w' := by
  have hu25 := Try.underlying25
  have HR0_0 := Aside0.mk hr0_0
  have HC0_0 := Aside0.mk hc0_0
  clear hr0_0 hc0_0
  have HR0_1 := Aside0.mk hr0_1
  have HC0_1 := Aside0.mk hc0_1
  clear hr0_1 hc0_1
  have HR1 := Aside0.mk hr1
  have HC1 := Aside0.mk hc1
  clear hr1 hc1
  have HR2 := Aside0.mk hr2
  have HC2 := Aside0.mk hc2
  clear hr2 hc2
  have HB := Aside0.mk (Below.refl w.heap.size w)
  have H : (subtrees_Narrow.l0 k l1 l2 l0_0 (l0_0.length : Int) 0 l0_0 l0_1 ([] : List (List (List (S35))))) = some (r1, r2) := h
  clear h
  have H' := Aside0.mk H
  clear H
  go_enter Try.func12, Try.ntmps12
  go_wp2_with (first | ((with_reducible refine gate_dst (N := 3) rfl ?_); refine box_event ?hg (N := 3) ?hd (cs := #[.slice A0_0 l0_0.length c0_0, .slice A0_1 l0_1.length c0_1]) (t := 25) ?hr ?_; (case hd => rfl); (case hg => rfl); (case hr => first | (go_simp; done) | (go_simp; rfl)); intro gb113 hg w4 hbox hb; have n0_ := Aside0.mk (below_step (by repeat (first | (with_reducible first | exact HB.out | apply below_alloc | apply pw_below_drewN | apply below_drew1) | exact HB.out)) hb); have n1_ := Aside0.mk (hbox); have n2_ := Aside0.mk ((by rw [hg]; exact (below_size (by repeat (first | (with_reducible first | exact HB.out | apply below_alloc | apply pw_below_drewN | apply below_drew1) | exact HB.out))) : w.heap.size ≤ gb113)); have n3_ := Aside0.mk ((by rw [hg]; exact (below_size (by repeat (first | (with_reducible first | exact HB.out | apply below_alloc | apply pw_below_drewN | apply below_drew1) | exact HB.out))) : w.heap.size ≤ gb113)); clear HB; have HB := n0_; have BK113 := n1_; have GW113 := n2_; have GE113 := n3_; clear n0_ n1_ n2_ n3_; clear hb hbox hg) | ((with_reducible refine gate_dst (N := 6) rfl ?_); refine box_event ?hg (N := 6) ?hd (cs := #[.slice none 0 0, .slice none 0 0]) (t := 25) ?hr ?_; (case hd => rfl); (case hg => rfl); (case hr => first | (go_simp; done) | (go_simp; rfl)); intro gb114 hg w5 hbox hb; have n0_ := Aside0.mk (blk_below (g := gb113) (o := .cells #[.slice A0_0 l0_0.length c0_0, .slice A0_1 l0_1.length c0_1] 25 (0, 0)) (by (with_reducible repeat (first | refine blk_drewN ?_ _ | refine blk_drew ?_ | refine blk_alloc ?_ _)); exact BK113.out) hb); have n1_ := Aside0.mk (below_step (by repeat (first | (with_reducible first | exact HB.out | apply below_alloc | apply pw_below_drewN | apply below_drew1 | refine below_set ?_ GE113.out) | exact HB.out)) hb); have n2_ := Aside0.mk (hbox); have n3_ := Aside0.mk ((by rw [hg]; exact (below_size (by repeat (first | (with_reducible first | exact HB.out | apply below_alloc | apply pw_below_drewN | apply below_drew1 | refine below_set ?_ GE113.out) | exact HB.out))) : w.heap.size ≤ gb114)); have n4_ := Aside0.mk ((by rw [hg]; exact (below_size (by repeat (first | (with_reducible first | exact HB.out | apply below_alloc | apply pw_below_drewN | apply below_drew1 | refine below_set ?_ GE113.out) | exact HB.out))) : w.heap.size ≤ gb114)); have n5_ := Aside0.mk ((by rw [hg]; exact Nat.ne_of_lt (blk_lt (g := gb113) (o := .cells #[.slice A0_0 l0_0.length c0_0, .slice A0_1 l0_1.length c0_1] 25 (0, 0)) (by (with_reducible repeat (first | refine blk_drewN ?_ _ | refine blk_drew ?_ | refine blk_alloc ?_ _)); exact BK113.out)) : gb113 ≠ gb114)); have n6_ := Aside0.mk ((by rw [hg]; exact Nat.ne_of_gt (blk_lt (g := gb113) (o := .cells #[.slice A0_0 l0_0.length c0_0, .slice A0_1 l0_1.length c0_1] 25 (0, 0)) (by (with_reducible repeat (first | refine blk_drewN ?_ _ | refine blk_drew ?_ | refine blk_alloc ?_ _)); exact BK113.out)) : gb114 ≠ gb113)); clear BK113; clear HB; have BK113 := n0_; have HB := n1_; have BK114 := n2_; have GW114 := n3_; have GE114 := n4_; have NB113_114 := n5_; have NB114_113 := n6_; clear n0_ n1_ n2_ n3_ n4_ n5_ n6_; clear hb hbox hg) | ((with_reducible refine gate_dst (N := 7) rfl ?_); refine box_event ?hg (N := 7) ?hd (cs := #[.slice none 0 0, .slice none 0 0]) (t := 25) ?hr ?_; (case hd => rfl); (case hg => rfl); (case hr => first | (go_simp; done) | (go_simp; rfl)); intro gb115 hg w6 hbox hb; have n0_ := Aside0.mk (blk_below (g := gb113) (o := .cells #[.slice A0_0 l0_0.length c0_0, .slice A0_1 l0_1.length c0_1] 25 (0, 0)) (by (with_reducible repeat (first | refine blk_drewN ?_ _ | refine blk_drew ?_ | refine blk_alloc ?_ _)); exact BK113.out) hb); have n1_ := Aside0.mk (blk_below (g := gb114) (o := .cells #[.slice none 0 0, .slice none 0 0] 25 (0, 0)) (by (with_reducible repeat (first | refine blk_drewN ?_ _ | refine blk_drew ?_ | refine blk_alloc ?_ _)); exact BK114.out) hb); have n2_ := Aside0.mk (below_step (by repeat (first | (with_reducible first | exact HB.out | apply below_alloc | apply pw_below_drewN | apply below_drew1 | refine below_set ?_ GE113.out | refine below_set ?_ GE114.out) | exact HB.out)) hb); have n3_ := Aside0.mk (hbox); have n4_ := Aside0.mk ((by rw [hg]; exact (below_size (by repeat (first | (with_reducible first | exact HB.out | apply below_alloc | apply pw_below_drewN | apply below_drew1 | refine below_set ?_ GE113.out | refine below_set ?_ GE114.out) | exact HB.out))) : w.heap.size ≤ gb115)); have n5_ := Aside0.mk ((by rw [hg]; exact (below_size (by repeat (first | (with_reducible first | exact HB.out | apply below_alloc | apply pw_below_drewN | apply below_drew1 | refine below_set ?_ GE113.out | refine below_set ?_ GE114.out) | exact HB.out))) : w.heap.size ≤ gb115)); have n6_ := Aside0.mk ((by rw [hg]; exact Nat.ne_of_lt (blk_lt (g := gb113) (o := .cells #[.slice A0_0 l0_0.length c0_0, .slice A0_1 l0_1.length c0_1] 25 (0, 0)) (by (with_reducible repeat (first | refine blk_drewN ?_ _ | refine blk_drew ?_ | refine blk_alloc ?_ _)); exact BK113.out)) : gb113 ≠ gb115)); have n7_ := Aside0.mk ((by rw [hg]; exact Nat.ne_of_gt (blk_lt (g := gb113) (o := .cells #[.slice A0_0 l0_0.length c0_0, .slice A0_1 l0_1.length c0_1] 25 (0, 0)) (by (with_reducible repeat (first | refine blk_drewN ?_ _ | refine blk_drew ?_ | refine blk_alloc ?_ _)); exact BK113.out)) : gb115 ≠ gb113)); have n8_ := Aside0.mk ((by rw [hg]; exact Nat.ne_of_lt (blk_lt (g := gb114) (o := .cells #[.slice none 0 0, .slice none 0 0] 25 (0, 0)) (by (with_reducible repeat (first | refine blk_drewN ?_ _ | refine blk_drew ?_ | refine blk_alloc ?_ _)); exact BK114.out)) : gb114 ≠ gb115)); have n9_ := Aside0.mk ((by rw [hg]; exact Nat.ne_of_gt (blk_lt (g := gb114) (o := .cells #[.slice none 0 0, .slice none 0 0] 25 (0, 0)) (by (with_reducible repeat (first | refine blk_drewN ?_ _ | refine blk_drew ?_ | refine blk_alloc ?_ _)); exact BK114.out)) : gb115 ≠ gb114)); clear BK113; clear BK114; clear HB; have BK113 := n0_; have BK114 := n1_; have HB := n2_; have BK115 := n3_; have GW115 := n4_; have GE115 := n5_; have NB113_115 := n6_; have NB115_113 := n7_; have NB114_115 := n8_; have NB115_114 := n9_; clear n0_ n1_ n2_ n3_ n4_ n5_ n6_ n7_ n8_ n9_; clear hb hbox hg; have hnb7 := NB113_114.out; have hnc7 := NB114_113.out; have hnb8 := NB113_115.out; have hnc8 := NB115_113.out; have hcz9_0 : w6.cell? ⟨gb113, 0, none⟩ = some (.slice A0_0 l0_0.length c0_0) := (blk_cell BK113.out 0).trans rfl; have hcz9_1 : w6.cell? ⟨gb113, 1, none⟩ = some (.slice A0_1 l0_1.length c0_1) := (blk_cell BK113.out 1).trans rfl; have hfz9_0 := blk_frozen BK113.out 0; have hfz9_1 := blk_frozen BK113.out 1))
  go_loopg [13] k (fun kq v13 w' => ∃ (x13_1 : Int) (x116000_1 : List (List (List (S35)))) (u116000 : Value), v13 = .int .i64 x13_1 ∧ Aside0 (subtrees_Narrow.l0 kq l1 l2 l0_0 (l0_0.length : Int) x13_1 l0_0 l0_1 x116000_1 = some (r1, r2)) ∧ Aside0 (kq ≤ k) ∧ Aside0 (Kd.N (Kd.slice 27 (Kd.slice 35 k35)) 23 w' w.heap.size (fun k_ => (w.heap.size ≤ k_) ∧ k_ ≠ gb113 ∧ k_ ≠ gb114 ∧ k_ ≠ gb115) u116000 x116000_1) ∧ Aside0 (w'.heap[gb113]? = some (.cells #[(.slice A0_0 l0_0.length c0_0), (.slice A0_1 l0_1.length c0_1)] 25 (0, 0))) ∧ Aside0 (w'.heap[gb114]? = some (.cells #[(.slice none 0 0), (.slice none 0 0)] 25 (0, 0))) ∧ Aside0 (w'.heap[gb115]? = some (.cells #[u116000, (.slice none 0 0)] 25 (0, 0))) ∧ Aside0 (Below w.heap.size w w'))
  case atStart => exact ⟨(0), (([] : List (List (List (S35))))), (.slice none 0 0), (by first | rfl | (simp; done) | (simp [*]; done)), H', ⟨Nat.le_refl _⟩, ⟨by first | exact Kd.R_nil _ _ _ _ _ | exact Kd.N_nil _ _ _ _ _ | exact Kd.V_nil _ _ _ _ _ | exact Kd.Q_nil _ _ _ _ _ | exact Kd.S_nil _ _ _ _ _⟩, ⟨by (with_reducible repeat (first | refine blk_drewN ?_ _ | refine blk_drew ?_ | refine blk_alloc ?_ _)); exact BK113.out⟩, ⟨by (with_reducible repeat (first | refine blk_drewN ?_ _ | refine blk_drew ?_ | refine blk_alloc ?_ _)); exact BK114.out⟩, ⟨by (with_reducible repeat (first | refine blk_drewN ?_ _ | refine blk_drew ?_ | refine blk_alloc ?_ _)); exact BK115.out⟩, ⟨by repeat (first | (with_reducible first | exact HB.out | apply below_alloc | apply pw_below_drewN | apply below_drew1 | refine below_set ?_ GE113.out | refine below_set ?_ GE114.out | refine below_set ?_ GE115.out) | exact HB.out)⟩⟩
  case round =>
    clear H'
    try clear c1
    try clear c2
    try clear p2
    try clear c7
    try clear c8
    try clear hcz9_0
    try clear hcz9_1
    try clear hfz9_0
    try clear hfz9_1
    obtain ⟨x13_1, x116000_1, u116000, rfl, HA, HK1, HO_116000, BK113, BK114, BK115, HB⟩ := hrel
    cases gk with
    | zero => exact absurd HA.out (by simp [subtrees_Narrow.l0])
    | succ k1 =>
      have H := HA.out
      clear HA
      simp only [subtrees_Narrow.l0] at H
      by_cases c10 : x13_1 < (l0_0.length : Int)
      · rw [if_pos c10] at H
        have c10b0 : decide (x13_1 < (l0_0.length : Int)) = true := decide_eq_true c10
        clear c10
        by_cases c11 : 0 ≤ x13_1
        · rw [if_pos c11] at H
          have c11b0 : decide (0 ≤ x13_1) = true := decide_eq_true c11
          clear c11
          by_cases c12 : x13_1 < (l0_0.length : Int)
          · rw [if_pos c12] at H
            have c12b0 : decide (x13_1 < (l0_0.length : Int)) = true := decide_eq_true c12
            clear c12
            replace H := Option.bind_eq_some_iff.mp H
            obtain ⟨t117, A130, H⟩ := H
            replace H : (if x116000_1.length < 5864062014805 then (subtrees_Narrow.l0 k1 l1 l2 l0_0 (l0_0.length : Int) (wrap64 (x13_1 + 1)) l0_0 l0_1 (x116000_1 ++ [t117])) else (none)) = some (r1, r2) := H
            have A13 := Aside0.mk A130
            clear A130
            by_cases c14 : x116000_1.length < 5864062014805
            · rw [if_pos c14] at H
              have LMc14 := Aside0.mk c14
              clear c14
              obtain ⟨y120, hy120⟩ : ∃ y_ : List (List (List (S35))), y_ = (x116000_1 ++ [t117]) := ⟨_, rfl⟩
              replace H : (subtrees_Narrow.l0 k1 l1 l2 l0_0 (l0_0.length : Int) (wrap64 (x13_1 + 1)) l0_0 l0_1 y120) = some (r1, r2) := by first | (rw [hy120]; with_reducible exact H) | (have H2_ := (Option.bind_some _ _).symm.trans H; rw [hy120]; with_reducible exact H2_) | (have H2_ := (Option.bind_some _ _).symm.trans H; with_reducible exact H2_) | with_reducible exact H | (rw [hy120]; exact H) | exact H
              have Ny120 := Aside0.mk hy120
              clear hy120
              have H' := Aside0.mk H
              clear H
              have p116 : 0 ≤ (x13_1 : Int) := of_decide_eq_true (by first | (with_reducible assumption) | assumption)
              have q116 : x13_1 < (l0_0.length : Int) := of_decide_eq_true (by first | (with_reducible assumption) | assumption)
              obtain ⟨ad116, A116_0, c116_0, e116, hx116_0, hl116_0, hi116_0⟩ := at_L6 HR0_0.out x13_1 p116 q116
              cases e116
              replace hx116_0 := (HB.out.cell (World.block_lt_of_cell? w _ hx116_0)).trans hx116_0
              have HR116_0 := Aside0.mk hi116_0
              have HC116_0 := Aside0.mk hl116_0
              clear hi116_0 hl116_0
              replace p116 := eq_true p116
              replace q116 := eq_true q116
              try go_wp2
              have n0_ := Aside0.mk (Kd.N_drew HO_116000.out)
              have n1_ := Aside0.mk (blk_drew BK113.out)
              have n2_ := Aside0.mk (blk_drew BK114.out)
              have n3_ := Aside0.mk (blk_drew BK115.out)
              have n4_ := Aside0.mk (below_drew1 HB.out)
              clear HO_116000
              clear BK113
              clear BK114
              clear BK115
              clear HB
              have HO_116000 := n0_
              have BK113 := n1_
              have BK114 := n2_
              have BK115 := n3_
              have HB := n4_
              clear n0_ n1_ n2_ n3_ n4_
              refine start_ (n := 8) (S := fun w' => w'.cell? ⟨gb115, 0, none⟩ = some (u116000) ∧ w'.cell? ⟨gb115, 1, none⟩ = some (.slice none 0 0)) (ds := [7]) #[false, false, false, false, false, false, false, false] (by kernel_rfl) rfl rfl ⟨(blk_cell BK115.out 0).trans rfl, (blk_cell BK115.out 1).trans rfl⟩ (fun hHeld => ?_); refine with_tabW subtrees_Narrow.tab5 subtrees_Narrow.bits5 (fun HT_ HW_ => ?_)
              generalize wr.drew = w15 at HO_116000 BK113 BK114 BK115 HB hHeld ⊢
              refine pure_ (i := 0) (N := some 17) (v := ?_) (a' := ?_) #[true, false, false, false, false, false, false, false] rfl rfl (any_of HT_.out (by kernel_rfl)) (fun _ _ _ h => h) (Or.inl ⟨by rfl, ?_⟩) ?_ ?_
              rotate_left
              · intro w'
                go_simp
                with_reducible rfl
              rotate_left
              · simp only [Act.put, List.setIfInBounds_toArray, List.set_cons_zero, List.set_cons_succ, i64_w, i32_w]
                rfl
              refine pure_ (i := 2) (N := some 19) (v := ?_) (a' := ?_) #[true, false, true, false, false, false, false, false] rfl rfl (any_of HT_.out (by kernel_rfl)) (fun _ _ _ h => h) (Or.inl ⟨by rfl, ?_⟩) ?_ ?_
              rotate_left
              · intro w'
                go_simp
                with_reducible rfl
              rotate_left
              · simp only [Act.put, List.setIfInBounds_toArray, List.set_cons_zero, List.set_cons_succ, i64_w, i32_w]
                rfl
              refine take_ (i := 1) (N := some 18) (v := ?_) (a' := ?_) #[true, true, true, false, false, false, false, false] rfl rfl (take_ofW HT_.out HW_.out (by kernel_rfl)) (fun _ _ _ h => h) (Or.inl ⟨by rfl, ?_⟩) hHeld ?_ ?_
              rotate_left
              · rintro w' ⟨s0, s1⟩
                go_simp
                with_reducible rfl
              rotate_left
              · simp only [Act.put, List.setIfInBounds_toArray, List.set_cons_zero, List.set_cons_succ, i64_w, i32_w]
                rfl
              refine one_ (i := 3) (N := some 20) #[true, true, true, true, false, false, false, false] rfl rfl (one_of HT_.out (by kernel_rfl)) (by decide) (fun K hK => ?_)
              refine goes_ Try.func27 (by kernel_rfl) rfl #[.slice A116_0 (rd_L6 l0_0 x13_1).length c116_0] (by rfl) rfl rfl (by (try simp only [List.map_toArray, List.map_cons, List.map_nil]); first | done | rfl | (simp only [List.length_drop, List.length_take]; rfl)) ?_
              with_reducible refine (subtrees_cloned.calls _ _ (rd_L6 l0_0 x13_1) t117 _ ?side1 ?side2 A13.out).mono ?_
              (case side1 => repeat (first | exact (Kd.C_below HR116_0.out HB.out) | (with_reducible refine Kd.C_alloc ?_ _) | (with_reducible refine Kd.C_drewN ?_ _) | (with_reducible refine Kd.C_drew ?_)))
              (case side2 => exact HC116_0.out)
              rintro e w16 ⟨v118, rfl, ho0, hb⟩
              refine ⟨_, rfl, ?_⟩
              have n0_ := Aside0.mk (Kd.N_elder' (by (with_reducible repeat (first | apply Kd.N_alloc | apply Kd.N_drewN | apply Kd.N_drew)); exact HO_116000.out) (Kd.N_base ho0) hb)
              have n1_ := Aside0.mk (Kd.N_lower (Kd.N_mono (ok' := fun k_ => (w.heap.size ≤ k_) ∧ some k_ ≠ (u116000 : Value).ownBlock ∧ k_ ≠ gb113 ∧ k_ ≠ gb114 ∧ k_ ≠ gb115) ho0 (fun k_ hk_ => ⟨(Nat.le_trans (below_size (by repeat (first | (with_reducible first | exact HB.out | apply below_alloc | apply pw_below_drewN | apply below_drew1 | refine below_set ?_ GE113.out | refine below_set ?_ GE114.out | refine below_set ?_ GE115.out) | exact HB.out))) hk_), (Kd.fresh' (Kd.N_lt (by (with_reducible repeat (first | apply Kd.N_alloc | apply Kd.N_drewN | apply Kd.N_drew)); exact HO_116000.out)) k_ hk_), (Kd.freshB (g := gb113) (o := .cells #[.slice (some ad116) l0_0.length c0_0, .slice A0_1 l0_1.length c0_1] 25 (0, 0)) (by (with_reducible repeat (first | refine blk_drewN ?_ _ | refine blk_drew ?_ | refine blk_alloc ?_ _)); exact BK113.out) k_ hk_), (Kd.freshB (g := gb114) (o := .cells #[.slice none 0 0, .slice none 0 0] 25 (0, 0)) (by (with_reducible repeat (first | refine blk_drewN ?_ _ | refine blk_drew ?_ | refine blk_alloc ?_ _)); exact BK114.out) k_ hk_), (Kd.freshB (g := gb115) (o := .cells #[u116000, .slice none 0 0] 25 (0, 0)) (by (with_reducible repeat (first | refine blk_drewN ?_ _ | refine blk_drew ?_ | refine blk_alloc ?_ _)); exact BK115.out) k_ hk_)⟩)) (below_size (by repeat (first | (with_reducible first | exact HB.out | apply below_alloc | apply pw_below_drewN | apply below_drew1 | refine below_set ?_ GE113.out | refine below_set ?_ GE114.out | refine below_set ?_ GE115.out) | exact HB.out))))
              have n2_ := Aside0.mk (blk_below (g := gb113) (o := .cells #[.slice (some ad116) l0_0.length c0_0, .slice A0_1 l0_1.length c0_1] 25 (0, 0)) (by (with_reducible repeat (first | refine blk_drewN ?_ _ | refine blk_drew ?_ | refine blk_alloc ?_ _)); exact BK113.out) hb)
              have n3_ := Aside0.mk (blk_below (g := gb114) (o := .cells #[.slice none 0 0, .slice none 0 0] 25 (0, 0)) (by (with_reducible repeat (first | refine blk_drewN ?_ _ | refine blk_drew ?_ | refine blk_alloc ?_ _)); exact BK114.out) hb)
              have n4_ := Aside0.mk (blk_below (g := gb115) (o := .cells #[u116000, .slice none 0 0] 25 (0, 0)) (by (with_reducible repeat (first | refine blk_drewN ?_ _ | refine blk_drew ?_ | refine blk_alloc ?_ _)); exact BK115.out) hb)
              have n5_ := Aside0.mk (below_step (by repeat (first | (with_reducible first | exact HB.out | apply below_alloc | apply pw_below_drewN | apply below_drew1 | refine below_set ?_ GE113.out | refine below_set ?_ GE114.out | refine below_set ?_ GE115.out) | exact HB.out)) hb)
              clear HO_116000
              clear BK113
              clear BK114
              clear BK115
              clear HB
              have HO_116000 := n0_
              have HO119 := n1_
              have BK113 := n2_
              have BK114 := n3_
              have BK115 := n4_
              have HB := n5_
              clear n0_ n1_ n2_ n3_ n4_ n5_
              (try clear hb)
              (try clear hb2)
              (try clear hk)
              (try clear hi)
              (try clear ho0)
              obtain ⟨Ao18, co18, eo18⟩ := Kd.N_slice HO119.out
              (first | subst eo18 | (injection eo18 with f1_ f2_ f3_; have f4_ := f1_.symm; have f5_ := f3_.symm; clear f1_ f2_ f3_; subst f4_; subst f5_))
              refine hK.out _ _ ⟨(blk_cell BK115.out 0).trans rfl, (blk_cell BK115.out 1).trans rfl⟩ (fun hHeld => ?_)
              clear hK K
              refine norm_ (a' := ?_) ?_ ?_
              rotate_left
              · show Act.put _ (some 20) _ = _
                simp only [Act.put, List.setIfInBounds_toArray, List.set_cons_zero, List.set_cons_succ, i64_w, i32_w]
                rfl
              refine one_ (i := 4) (N := some 21) #[true, true, true, true, true, false, false, false] rfl rfl (one_of HT_.out (by kernel_rfl)) (by decide) (fun K hK => ?_)
              refine value_ (w1 := ?_) (v := ?_) (by rfl) rfl ?_ ?_
              rotate_left 2
              · go_simp
                constructor
                · rfl
                · rfl
              refine hK.out _ _ ⟨(blk_cell (blk_alloc BK115.out _) 0).trans rfl, (blk_cell (blk_alloc BK115.out _) 1).trans rfl⟩ (fun hHeld => ?_)
              clear hK K
              refine norm_ (a' := ?_) ?_ ?_
              rotate_left
              · show Act.put _ (some 21) _ = _
                simp only [Act.put, List.setIfInBounds_toArray, List.set_cons_zero, List.set_cons_succ, i64_w, i32_w]
                rfl
              refine one_ (i := 5) (N := some 22) #[true, true, true, true, true, true, false, false] rfl rfl (one_of HT_.out (by kernel_rfl)) (by decide) (fun K hK => ?_)
              refine Kd.N_append_step (Kd.slice 27 (Kd.slice 35 k35)) (w0 := w) w.heap.size (by rfl) (.tmp 18) (.tmp 21) 22 23 (.slice none 0 0) 24 rfl Try.underlying22 info23 rfl (by decide) (by omega) u116000 x116000_1 t117 [.slice Ao18 t117.length co18] (fun k_ => (w.heap.size ≤ k_) ∧ k_ ≠ gb113 ∧ k_ ≠ gb114 ∧ k_ ≠ gb115) (fun k_ => ((fun k_ => (w.heap.size ≤ k_) ∧ k_ ≠ gb113 ∧ k_ ≠ gb114 ∧ k_ ≠ gb115)) k_ ∧ some k_ ≠ (u116000 : Value).ownBlock) rfl rfl ?aP (fun _ hk => hk) ?aF ?aO ?aB ?aS ?aL ?_
              (case aP => exact (Kd.FK_slice_mk (Kd.N_reads' (Kd.N_mono (ok' := (fun k_ => ((fun k_ => (w.heap.size ≤ k_) ∧ k_ ≠ gb113 ∧ k_ ≠ gb114 ∧ k_ ≠ gb115)) k_ ∧ some k_ ≠ (u116000 : Value).ownBlock)) (HO119.out) (fun k_ hk => ⟨⟨hk.1, ⟨hk.2.2.1, ⟨hk.2.2.2.1, hk.2.2.2.2⟩⟩⟩, hk.2.1⟩))).2.1 (Kd.N_F (Kd.N_mono (ok' := (fun k_ => ((fun k_ => (w.heap.size ≤ k_) ∧ k_ ≠ gb113 ∧ k_ ≠ gb114 ∧ k_ ≠ gb115)) k_ ∧ some k_ ≠ (u116000 : Value).ownBlock)) (HO119.out) (fun k_ hk => ⟨⟨hk.1, ⟨hk.2.2.1, ⟨hk.2.2.2.1, hk.2.2.2.2⟩⟩⟩, hk.2.1⟩)))))
              (case aB => exact (by repeat (first | (with_reducible first | exact HB.out | apply below_alloc | apply pw_below_drewN | apply below_drew1 | refine below_set ?_ GE113.out | refine below_set ?_ GE114.out | refine below_set ?_ GE115.out) | exact HB.out)))
              (case aF => exact (fun k_ hk => ⟨(Nat.le_trans (below_size (by repeat (first | (with_reducible first | exact HB.out | apply below_alloc | apply pw_below_drewN | apply below_drew1 | refine below_set ?_ GE113.out | refine below_set ?_ GE114.out | refine below_set ?_ GE115.out) | exact HB.out))) hk), Kd.freshB (g := gb113) (o := .cells #[.slice (some ad116) l0_0.length c0_0, .slice A0_1 l0_1.length c0_1] 25 (0, 0)) (by (with_reducible repeat (first | refine blk_drewN ?_ _ | refine blk_drew ?_ | refine blk_alloc ?_ _)); exact BK113.out) k_ hk, Kd.freshB (g := gb114) (o := .cells #[.slice none 0 0, .slice none 0 0] 25 (0, 0)) (by (with_reducible repeat (first | refine blk_drewN ?_ _ | refine blk_drew ?_ | refine blk_alloc ?_ _)); exact BK114.out) k_ hk, Kd.freshB (g := gb115) (o := .cells #[u116000, .slice none 0 0] 25 (0, 0)) (by (with_reducible repeat (first | refine blk_drewN ?_ _ | refine blk_drew ?_ | refine blk_alloc ?_ _)); exact BK115.out) k_ hk⟩))
              (case aO => exact (by (with_reducible repeat (first | apply Kd.N_alloc | apply Kd.N_drewN | apply Kd.N_drew)); exact Kd.N_mono HO_116000.out (fun _ hk => ⟨hk.1.1, ⟨hk.1.2.1, ⟨hk.1.2.2.1, hk.1.2.2.2⟩⟩⟩)))
              (case aS => exact (below_size (by repeat (first | (with_reducible first | exact HB.out | apply below_alloc | apply pw_below_drewN | apply below_drew1 | refine below_set ?_ GE113.out | refine below_set ?_ GE114.out | refine below_set ?_ GE115.out) | exact HB.out))))
              (case aL => have := LMc14.out; omega)
              intro v121 w17 ho hb hg hat
              rw [← Ny120.out] at ho
              have n0_ := Aside0.mk (blk_grown (g := gb113) (o := .cells #[.slice (some ad116) l0_0.length c0_0, .slice A0_1 l0_1.length c0_1] 25 (0, 0)) (by (with_reducible repeat (first | refine blk_drewN ?_ _ | refine blk_drew ?_ | refine blk_alloc ?_ _)); exact BK113.out) hg (Kd.N_ne HO_116000.out BK113.out (by decide)))
              have n1_ := Aside0.mk (blk_grown (g := gb114) (o := .cells #[.slice none 0 0, .slice none 0 0] 25 (0, 0)) (by (with_reducible repeat (first | refine blk_drewN ?_ _ | refine blk_drew ?_ | refine blk_alloc ?_ _)); exact BK114.out) hg (Kd.N_ne HO_116000.out BK114.out (by decide)))
              have n2_ := Aside0.mk (blk_grown (g := gb115) (o := .cells #[u116000, .slice none 0 0] 25 (0, 0)) (by (with_reducible repeat (first | refine blk_drewN ?_ _ | refine blk_drew ?_ | refine blk_alloc ?_ _)); exact BK115.out) hg (Kd.N_ne HO_116000.out BK115.out (by decide)))
              have n3_ := Aside0.mk (hb)
              have n4_ := Aside0.mk (ho)
              clear BK113
              clear BK114
              clear BK115
              clear HB
              clear HO_116000
              clear HO119
              have BK113 := n0_
              have BK114 := n1_
              have BK115 := n2_
              have HB := n3_
              have HO122 := n4_
              clear n0_ n1_ n2_ n3_ n4_
              clear ho hb hg hat
              obtain ⟨Ao19, co19, eo19⟩ := Kd.N_slice HO122.out
              (first | subst eo19 | (injection eo19 with f1_ f2_ f3_; have f4_ := f1_.symm; have f5_ := f3_.symm; clear f1_ f2_ f3_; subst f4_; subst f5_))
              refine hK.out _ _ ⟨(blk_cell BK115.out 0).trans rfl, (blk_cell BK115.out 1).trans rfl⟩ (fun hHeld => ?_)
              clear hK K
              refine norm_ (a' := ?_) ?_ ?_
              rotate_left
              · show Act.put _ (some 22) _ = _
                simp only [Act.put, List.setIfInBounds_toArray, List.set_cons_zero, List.set_cons_succ, i64_w, i32_w]
                rfl
              refine pure_ (i := 6) (N := some 23) (v := ?_) (a' := ?_) #[true, true, true, true, true, true, true, false] rfl rfl (any_of HT_.out (by kernel_rfl)) (fun _ _ _ h => h) (Or.inl ⟨by rfl, ?_⟩) ?_ ?_
              rotate_left
              · intro w'
                go_simp
                with_reducible rfl
              rotate_left
              · simp only [Act.put, List.setIfInBounds_toArray, List.set_cons_zero, List.set_cons_succ, i64_w, i32_w]
                rfl
              refine last_ (i := 7) (N := none) #[true, true, true, true, true, true, true, true] rfl rfl (one_of HT_.out (by kernel_rfl)) (by decide) (fun K hK => ?_)
              have hs20 : w17.cell? ⟨gb115, 0, none⟩ = some (u116000) := (blk_cell BK115.out 0).trans rfl
              have hfs20 := blk_frozen BK115.out 0
              have hns20_0 := NB113_115.out
              have hns20_1 := NB114_115.out
              have hms20_0 := NB115_113.out
              have hms20_1 := NB115_114.out
              refine skip_ (w1 := ?_) (by rfl) rfl ?_ ?_
              rotate_left
              · go_simp
                rfl
              refine hK.out _ _ ?_
              clear hK K
              refine done_ (done_of HT_.out (by kernel_rfl)) ?_
              try go_wp2
              go_roundg k1
              case measure => have := HK1.out; omega
              case rel => exact ⟨(wrap64 (x13_1 + 1)), (y120), (.slice Ao19 y120.length co19), (by first | rfl | (simp; done) | (simp [*]; done)), H', ⟨by have := HK1.out; omega⟩, ⟨by (with_reducible repeat (first | apply Kd.N_alloc | apply Kd.N_drewN | apply Kd.N_drew)); exact Kd.N_mono (Kd.N_far (p := ⟨gb115, 0, none⟩) (Kd.N_mono HO122.out (fun k_ hk => (⟨hk, hk.2.2.2⟩ : _ ∧ k_ ≠ gb115))) (fun _ hk => hk.2) (.slice Ao19 y120.length co19)) (fun _ hk => ⟨hk.1.1, ⟨hk.1.2.1, ⟨hk.1.2.2.1, hk.1.2.2.2⟩⟩⟩)⟩, ⟨by (with_reducible repeat (first | refine blk_drewN ?_ _ | refine blk_drew ?_ | refine blk_alloc ?_ _)); refine blk_far ?_ NB113_115.out _; (with_reducible repeat (first | refine blk_drewN ?_ _ | refine blk_drew ?_ | refine blk_alloc ?_ _)); exact BK113.out⟩, ⟨by (with_reducible repeat (first | refine blk_drewN ?_ _ | refine blk_drew ?_ | refine blk_alloc ?_ _)); refine blk_far ?_ NB114_115.out _; (with_reducible repeat (first | refine blk_drewN ?_ _ | refine blk_drew ?_ | refine blk_alloc ?_ _)); exact BK114.out⟩, ⟨by (with_reducible repeat (first | refine blk_drewN ?_ _ | refine blk_drew ?_ | refine blk_alloc ?_ _)); refine blk_put (cs := #[u116000, .slice none 0 0]) ?_ 0 _ rfl; (with_reducible repeat (first | refine blk_drewN ?_ _ | refine blk_drew ?_ | refine blk_alloc ?_ _)); exact BK115.out⟩, ⟨by repeat (first | (with_reducible first | exact HB.out | apply below_alloc | apply pw_below_drewN | apply below_drew1 | refine below_set ?_ GE113.out | refine below_set ?_ GE114.out | refine below_set ?_ GE115.out) | exact HB.out)⟩⟩
            · rw [if_neg c14] at H
              exact absurd H (by simp)
          · rw [if_neg c12] at H
            exact absurd H (by simp)
        · rw [if_neg c11] at H
          exact absurd H (by simp)
      · rw [if_neg c10] at H
        have c10b0 : decide (x13_1 < (l0_0.length : Int)) = false := decide_eq_false c10
        clear c10
        by_cases c21 : (l1.length : Int) > 0
        · rw [if_pos c21] at H
          have c21b0 : decide (0 < (l1.length : Int)) = true := decide_eq_true c21
          have c21b1 : decide (0 < l1.length) = true := decide_eq_true (by omega)
          clear c21
          replace H := Option.bind_eq_some_iff.mp H
          obtain ⟨t123, A220, H⟩ := H
          replace H : (if x116000_1.length < 5864062014805 then ((subtrees_cloned.f l0_1).bind fun t129 => ((subtrees_cloned.f l2).bind fun t132 => (if t129.length + t132.length < 5864062014805 then (some ((x116000_1 ++ [t123]), (t129 ++ t132))) else (none)))) else (none)) = some (r1, r2) := H
          have A22 := Aside0.mk A220
          clear A220
          by_cases c23 : x116000_1.length < 5864062014805
          · rw [if_pos c23] at H
            have LMc23 := Aside0.mk c23
            clear c23
            obtain ⟨y126, hy126⟩ : ∃ y_ : List (List (List (S35))), y_ = (x116000_1 ++ [t123]) := ⟨_, rfl⟩
            replace H : ((subtrees_cloned.f l0_1).bind fun t129 => ((subtrees_cloned.f l2).bind fun t132 => (if t129.length + t132.length < 5864062014805 then (some (y126, (t129 ++ t132))) else (none)))) = some (r1, r2) := by first | (rw [hy126]; with_reducible exact H) | (have H2_ := (Option.bind_some _ _).symm.trans H; rw [hy126]; with_reducible exact H2_) | (have H2_ := (Option.bind_some _ _).symm.trans H; with_reducible exact H2_) | with_reducible exact H | (rw [hy126]; exact H) | exact H
            have Ny126 := Aside0.mk hy126
            clear hy126
            replace H := Option.bind_eq_some_iff.mp H
            obtain ⟨t129, A240, H⟩ := H
            replace H : ((subtrees_cloned.f l2).bind fun t132 => (if t129.length + t132.length < 5864062014805 then (some (y126, (t129 ++ t132))) else (none))) = some (r1, r2) := H
            have A24 := Aside0.mk A240
            clear A240
            replace H := Option.bind_eq_some_iff.mp H
            obtain ⟨t132, A250, H⟩ := H
            replace H : (if t129.length + t132.length < 5864062014805 then (some (y126, (t129 ++ t132))) else (none)) = some (r1, r2) := H
            have A25 := Aside0.mk A250
            clear A250
            by_cases c26 : t129.length + t132.length < 5864062014805
            · rw [if_pos c26] at H
              have LMc26 := Aside0.mk c26
              clear c26
              obtain ⟨y135, hy135⟩ : ∃ y_ : List (List (S35)), y_ = (t129 ++ t132) := ⟨_, rfl⟩
              replace H : (some (y126, y135)) = some (r1, r2) := by first | (rw [hy135]; with_reducible exact H) | (have H2_ := (Option.bind_some _ _).symm.trans H; rw [hy135]; with_reducible exact H2_) | (have H2_ := (Option.bind_some _ _).symm.trans H; with_reducible exact H2_) | with_reducible exact H | (rw [hy135]; exact H) | exact H
              have Ny135 := Aside0.mk hy135
              clear hy135
              simp only [Option.some.injEq, Prod.mk.injEq] at H
              obtain ⟨rfl, rfl⟩ := H
              try go_wp2
              have n0_ := Aside0.mk (Kd.N_drew HO_116000.out)
              have n1_ := Aside0.mk (blk_drew BK113.out)
              have n2_ := Aside0.mk (blk_drew BK114.out)
              have n3_ := Aside0.mk (blk_drew BK115.out)
              have n4_ := Aside0.mk (below_drew1 HB.out)
              clear HO_116000
              clear BK113
              clear BK114
              clear BK115
              clear HB
              have HO_116000 := n0_
              have BK113 := n1_
              have BK114 := n2_
              have BK115 := n3_
              have HB := n4_
              clear n0_ n1_ n2_ n3_ n4_
              refine start_ (n := 8) (S := fun w' => w'.cell? ⟨gb115, 0, none⟩ = some (u116000) ∧ w'.cell? ⟨gb115, 1, none⟩ = some (.slice none 0 0)) (ds := [7]) #[false, false, false, false, false, false, false, false] (by kernel_rfl) rfl rfl ⟨(blk_cell BK115.out 0).trans rfl, (blk_cell BK115.out 1).trans rfl⟩ (fun hHeld => ?_); refine with_tabW subtrees_Narrow.tab8 subtrees_Narrow.bits8 (fun HT_ HW_ => ?_)
              generalize wr.drew = w27 at HO_116000 BK113 BK114 BK115 HB hHeld ⊢
              refine pure_ (i := 0) (N := some 28) (v := ?_) (a' := ?_) #[true, false, false, false, false, false, false, false] rfl rfl (any_of HT_.out (by kernel_rfl)) (fun _ _ _ h => h) (Or.inl ⟨by rfl, ?_⟩) ?_ ?_
              rotate_left
              · intro w'
                go_simp
                with_reducible rfl
              rotate_left
              · simp only [Act.put, List.setIfInBounds_toArray, List.set_cons_zero, List.set_cons_succ, i64_w, i32_w]
                rfl
              refine pure_ (i := 2) (N := some 30) (v := ?_) (a' := ?_) #[true, false, true, false, false, false, false, false] rfl rfl (any_of HT_.out (by kernel_rfl)) (fun _ _ _ h => h) (Or.inl ⟨by rfl, ?_⟩) ?_ ?_
              rotate_left
              · intro w'
                go_simp
                with_reducible rfl
              rotate_left
              · simp only [Act.put, List.setIfInBounds_toArray, List.set_cons_zero, List.set_cons_succ, i64_w, i32_w]
                rfl
              refine take_ (i := 1) (N := some 29) (v := ?_) (a' := ?_) #[true, true, true, false, false, false, false, false] rfl rfl (take_ofW HT_.out HW_.out (by kernel_rfl)) (fun _ _ _ h => h) (Or.inl ⟨by rfl, ?_⟩) hHeld ?_ ?_
              rotate_left
              · rintro w' ⟨s0, s1⟩
                go_simp
                with_reducible rfl
              rotate_left
              · simp only [Act.put, List.setIfInBounds_toArray, List.set_cons_zero, List.set_cons_succ, i64_w, i32_w]
                rfl
              refine one_ (i := 3) (N := some 31) #[true, true, true, true, false, false, false, false] rfl rfl (one_of HT_.out (by kernel_rfl)) (by decide) (fun K hK => ?_)
              refine goes_ Try.func27 (by kernel_rfl) rfl #[.slice A1 l1.length c1] (by rfl) rfl rfl (by (try simp only [List.map_toArray, List.map_cons, List.map_nil]); first | done | rfl | (simp only [List.length_drop, List.length_take]; rfl)) ?_
              with_reducible refine (subtrees_cloned.calls _ _ l1 t123 _ ?side1 ?side2 A22.out).mono ?_
              (case side1 => repeat (first | exact (Kd.C_below HR1.out HB.out) | (with_reducible refine Kd.C_alloc ?_ _) | (with_reducible refine Kd.C_drewN ?_ _) | (with_reducible refine Kd.C_drew ?_)))
              (case side2 => exact HC1.out)
              rintro e w28 ⟨v124, rfl, ho0, hb⟩
              refine ⟨_, rfl, ?_⟩
              have n0_ := Aside0.mk (Kd.N_elder' (by (with_reducible repeat (first | apply Kd.N_alloc | apply Kd.N_drewN | apply Kd.N_drew)); exact HO_116000.out) (Kd.N_base ho0) hb)
              have n1_ := Aside0.mk (Kd.N_lower (Kd.N_mono (ok' := fun k_ => (w.heap.size ≤ k_) ∧ some k_ ≠ (u116000 : Value).ownBlock ∧ k_ ≠ gb113 ∧ k_ ≠ gb114 ∧ k_ ≠ gb115) ho0 (fun k_ hk_ => ⟨(Nat.le_trans (below_size (by repeat (first | (with_reducible first | exact HB.out | apply below_alloc | apply pw_below_drewN | apply below_drew1 | refine below_set ?_ GE113.out | refine below_set ?_ GE114.out | refine below_set ?_ GE115.out) | exact HB.out))) hk_), (Kd.fresh' (Kd.N_lt (by (with_reducible repeat (first | apply Kd.N_alloc | apply Kd.N_drewN | apply Kd.N_drew)); exact HO_116000.out)) k_ hk_), (Kd.freshB (g := gb113) (o := .cells #[.slice A0_0 l0_0.length c0_0, .slice A0_1 l0_1.length c0_1] 25 (0, 0)) (by (with_reducible repeat (first | refine blk_drewN ?_ _ | refine blk_drew ?_ | refine blk_alloc ?_ _)); exact BK113.out) k_ hk_), (Kd.freshB (g := gb114) (o := .cells #[.slice none 0 0, .slice none 0 0] 25 (0, 0)) (by (with_reducible repeat (first | refine blk_drewN ?_ _ | refine blk_drew ?_ | refine blk_alloc ?_ _)); exact BK114.out) k_ hk_), (Kd.freshB (g := gb115) (o := .cells #[u116000, .slice none 0 0] 25 (0, 0)) (by (with_reducible repeat (first | refine blk_drewN ?_ _ | refine blk_drew ?_ | refine blk_alloc ?_ _)); exact BK115.out) k_ hk_)⟩)) (below_size (by repeat (first | (with_reducible first | exact HB.out | apply below_alloc | apply pw_below_drewN | apply below_drew1 | refine below_set ?_ GE113.out | refine below_set ?_ GE114.out | refine below_set ?_ GE115.out) | exact HB.out))))
              have n2_ := Aside0.mk (blk_below (g := gb113) (o := .cells #[.slice A0_0 l0_0.length c0_0, .slice A0_1 l0_1.length c0_1] 25 (0, 0)) (by (with_reducible repeat (first | refine blk_drewN ?_ _ | refine blk_drew ?_ | refine blk_alloc ?_ _)); exact BK113.out) hb)
              have n3_ := Aside0.mk (blk_below (g := gb114) (o := .cells #[.slice none 0 0, .slice none 0 0] 25 (0, 0)) (by (with_reducible repeat (first | refine blk_drewN ?_ _ | refine blk_drew ?_ | refine blk_alloc ?_ _)); exact BK114.out) hb)
              have n4_ := Aside0.mk (blk_below (g := gb115) (o := .cells #[u116000, .slice none 0 0] 25 (0, 0)) (by (with_reducible repeat (first | refine blk_drewN ?_ _ | refine blk_drew ?_ | refine blk_alloc ?_ _)); exact BK115.out) hb)
              have n5_ := Aside0.mk (below_step (by repeat (first | (with_reducible first | exact HB.out | apply below_alloc | apply pw_below_drewN | apply below_drew1 | refine below_set ?_ GE113.out | refine below_set ?_ GE114.out | refine below_set ?_ GE115.out) | exact HB.out)) hb)
              clear HO_116000
              clear BK113
              clear BK114
              clear BK115
              clear HB
              have HO_116000 := n0_
              have HO125 := n1_
              have BK113 := n2_
              have BK114 := n3_
              have BK115 := n4_
              have HB := n5_
              clear n0_ n1_ n2_ n3_ n4_ n5_
              (try clear hb)
              (try clear hb2)
              (try clear hk)
              (try clear hi)
              (try clear ho0)
              obtain ⟨Ao30, co30, eo30⟩ := Kd.N_slice HO125.out
              (first | subst eo30 | (injection eo30 with f1_ f2_ f3_; have f4_ := f1_.symm; have f5_ := f3_.symm; clear f1_ f2_ f3_; subst f4_; subst f5_))
              refine hK.out _ _ ⟨(blk_cell BK115.out 0).trans rfl, (blk_cell BK115.out 1).trans rfl⟩ (fun hHeld => ?_)
              clear hK K
              refine norm_ (a' := ?_) ?_ ?_
              rotate_left
              · show Act.put _ (some 31) _ = _
                simp only [Act.put, List.setIfInBounds_toArray, List.set_cons_zero, List.set_cons_succ, i64_w, i32_w]
                rfl
              refine one_ (i := 4) (N := some 32) #[true, true, true, true, true, false, false, false] rfl rfl (one_of HT_.out (by kernel_rfl)) (by decide) (fun K hK => ?_)
              refine value_ (w1 := ?_) (v := ?_) (by rfl) rfl ?_ ?_
              rotate_left 2
              · go_simp
                constructor
                · rfl
                · rfl
              refine hK.out _ _ ⟨(blk_cell (blk_alloc BK115.out _) 0).trans rfl, (blk_cell (blk_alloc BK115.out _) 1).trans rfl⟩ (fun hHeld => ?_)
              clear hK K
              refine norm_ (a' := ?_) ?_ ?_
              rotate_left
              · show Act.put _ (some 32) _ = _
                simp only [Act.put, List.setIfInBounds_toArray, List.set_cons_zero, List.set_cons_succ, i64_w, i32_w]
                rfl
              refine one_ (i := 5) (N := some 33) #[true, true, true, true, true, true, false, false] rfl rfl (one_of HT_.out (by kernel_rfl)) (by decide) (fun K hK => ?_)
              refine Kd.N_append_step (Kd.slice 27 (Kd.slice 35 k35)) (w0 := w) w.heap.size (by rfl) (.tmp 29) (.tmp 32) 22 23 (.slice none 0 0) 24 rfl Try.underlying22 info23 rfl (by decide) (by omega) u116000 x116000_1 t123 [.slice Ao30 t123.length co30] (fun k_ => (w.heap.size ≤ k_) ∧ k_ ≠ gb113 ∧ k_ ≠ gb114 ∧ k_ ≠ gb115) (fun k_ => ((fun k_ => (w.heap.size ≤ k_) ∧ k_ ≠ gb113 ∧ k_ ≠ gb114 ∧ k_ ≠ gb115)) k_ ∧ some k_ ≠ (u116000 : Value).ownBlock) rfl rfl ?aP (fun _ hk => hk) ?aF ?aO ?aB ?aS ?aL ?_
              (case aP => exact (Kd.FK_slice_mk (Kd.N_reads' (Kd.N_mono (ok' := (fun k_ => ((fun k_ => (w.heap.size ≤ k_) ∧ k_ ≠ gb113 ∧ k_ ≠ gb114 ∧ k_ ≠ gb115)) k_ ∧ some k_ ≠ (u116000 : Value).ownBlock)) (HO125.out) (fun k_ hk => ⟨⟨hk.1, ⟨hk.2.2.1, ⟨hk.2.2.2.1, hk.2.2.2.2⟩⟩⟩, hk.2.1⟩))).2.1 (Kd.N_F (Kd.N_mono (ok' := (fun k_ => ((fun k_ => (w.heap.size ≤ k_) ∧ k_ ≠ gb113 ∧ k_ ≠ gb114 ∧ k_ ≠ gb115)) k_ ∧ some k_ ≠ (u116000 : Value).ownBlock)) (HO125.out) (fun k_ hk => ⟨⟨hk.1, ⟨hk.2.2.1, ⟨hk.2.2.2.1, hk.2.2.2.2⟩⟩⟩, hk.2.1⟩)))))
              (case aB => exact (by repeat (first | (with_reducible first | exact HB.out | apply below_alloc | apply pw_below_drewN | apply below_drew1 | refine below_set ?_ GE113.out | refine below_set ?_ GE114.out | refine below_set ?_ GE115.out) | exact HB.out)))
              (case aF => exact (fun k_ hk => ⟨(Nat.le_trans (below_size (by repeat (first | (with_reducible first | exact HB.out | apply below_alloc | apply pw_below_drewN | apply below_drew1 | refine below_set ?_ GE113.out | refine below_set ?_ GE114.out | refine below_set ?_ GE115.out) | exact HB.out))) hk), Kd.freshB (g := gb113) (o := .cells #[.slice A0_0 l0_0.length c0_0, .slice A0_1 l0_1.length c0_1] 25 (0, 0)) (by (with_reducible repeat (first | refine blk_drewN ?_ _ | refine blk_drew ?_ | refine blk_alloc ?_ _)); exact BK113.out) k_ hk, Kd.freshB (g := gb114) (o := .cells #[.slice none 0 0, .slice none 0 0] 25 (0, 0)) (by (with_reducible repeat (first | refine blk_drewN ?_ _ | refine blk_drew ?_ | refine blk_alloc ?_ _)); exact BK114.out) k_ hk, Kd.freshB (g := gb115) (o := .cells #[u116000, .slice none 0 0] 25 (0, 0)) (by (with_reducible repeat (first | refine blk_drewN ?_ _ | refine blk_drew ?_ | refine blk_alloc ?_ _)); exact BK115.out) k_ hk⟩))
              (case aO => exact (by (with_reducible repeat (first | apply Kd.N_alloc | apply Kd.N_drewN | apply Kd.N_drew)); exact Kd.N_mono HO_116000.out (fun _ hk => ⟨hk.1.1, ⟨hk.1.2.1, ⟨hk.1.2.2.1, hk.1.2.2.2⟩⟩⟩)))
              (case aS => exact (below_size (by repeat (first | (with_reducible first | exact HB.out | apply below_alloc | apply pw_below_drewN | apply below_drew1 | refine below_set ?_ GE113.out | refine below_set ?_ GE114.out | refine below_set ?_ GE115.out) | exact HB.out))))
              (case aL => have := LMc23.out; omega)
              intro v127 w29 ho hb hg hat
              rw [← Ny126.out] at ho
              have n0_ := Aside0.mk (blk_grown (g := gb113) (o := .cells #[.slice A0_0 l0_0.length c0_0, .slice A0_1 l0_1.length c0_1] 25 (0, 0)) (by (with_reducible repeat (first | refine blk_drewN ?_ _ | refine blk_drew ?_ | refine blk_alloc ?_ _)); exact BK113.out) hg (Kd.N_ne HO_116000.out BK113.out (by decide)))
              have n1_ := Aside0.mk (blk_grown (g := gb114) (o := .cells #[.slice none 0 0, .slice none 0 0] 25 (0, 0)) (by (with_reducible repeat (first | refine blk_drewN ?_ _ | refine blk_drew ?_ | refine blk_alloc ?_ _)); exact BK114.out) hg (Kd.N_ne HO_116000.out BK114.out (by decide)))
              have n2_ := Aside0.mk (blk_grown (g := gb115) (o := .cells #[u116000, .slice none 0 0] 25 (0, 0)) (by (with_reducible repeat (first | refine blk_drewN ?_ _ | refine blk_drew ?_ | refine blk_alloc ?_ _)); exact BK115.out) hg (Kd.N_ne HO_116000.out BK115.out (by decide)))
              have n3_ := Aside0.mk (hb)
              have n4_ := Aside0.mk (ho)
              clear BK113
              clear BK114
              clear BK115
              clear HB
              clear HO_116000
              clear HO125
              have BK113 := n0_
              have BK114 := n1_
              have BK115 := n2_
              have HB := n3_
              have HO128 := n4_
              clear n0_ n1_ n2_ n3_ n4_
              clear ho hb hg hat
              obtain ⟨Ao31, co31, eo31⟩ := Kd.N_slice HO128.out
              (first | subst eo31 | (injection eo31 with f1_ f2_ f3_; have f4_ := f1_.symm; have f5_ := f3_.symm; clear f1_ f2_ f3_; subst f4_; subst f5_))
              refine hK.out _ _ ⟨(blk_cell BK115.out 0).trans rfl, (blk_cell BK115.out 1).trans rfl⟩ (fun hHeld => ?_)
              clear hK K
              refine norm_ (a' := ?_) ?_ ?_
              rotate_left
              · show Act.put _ (some 33) _ = _
                simp only [Act.put, List.setIfInBounds_toArray, List.set_cons_zero, List.set_cons_succ, i64_w, i32_w]
                rfl
              refine pure_ (i := 6) (N := some 34) (v := ?_) (a' := ?_) #[true, true, true, true, true, true, true, false] rfl rfl (any_of HT_.out (by kernel_rfl)) (fun _ _ _ h => h) (Or.inl ⟨by rfl, ?_⟩) ?_ ?_
              rotate_left
              · intro w'
                go_simp
                with_reducible rfl
              rotate_left
              · simp only [Act.put, List.setIfInBounds_toArray, List.set_cons_zero, List.set_cons_succ, i64_w, i32_w]
                rfl
              refine last_ (i := 7) (N := none) #[true, true, true, true, true, true, true, true] rfl rfl (one_of HT_.out (by kernel_rfl)) (by decide) (fun K hK => ?_)
              have hs32 : w29.cell? ⟨gb115, 0, none⟩ = some (u116000) := (blk_cell BK115.out 0).trans rfl
              have hfs32 := blk_frozen BK115.out 0
              have hns32_0 := NB113_115.out
              have hns32_1 := NB114_115.out
              have hms32_0 := NB115_113.out
              have hms32_1 := NB115_114.out
              refine skip_ (w1 := ?_) (by rfl) rfl ?_ ?_
              rotate_left
              · go_simp
                rfl
              refine hK.out _ _ ?_
              clear hK K
              refine done_ (done_of HT_.out (by kernel_rfl)) ?_
              have hnb33 := NB113_114.out
              have hnc33 := NB114_113.out
              have hnb34 := NB113_115.out
              have hnc34 := NB115_113.out
              have hcz35_0 : w29.cell? ⟨gb113, 0, none⟩ = some (.slice A0_0 l0_0.length c0_0) := (blk_cell BK113.out 0).trans rfl
              have hcz35_1 : w29.cell? ⟨gb113, 1, none⟩ = some (.slice A0_1 l0_1.length c0_1) := (blk_cell BK113.out 1).trans rfl
              have hfz35_0 := blk_frozen BK113.out 0
              have hfz35_1 := blk_frozen BK113.out 1
              try go_wp2_with (first | ((with_reducible refine gate_callee (f := 27) rfl ?_); refine goesL_ (some 37) rfl rfl Try.func27 (by kernel_rfl) rfl #[.slice A0_1 l0_1.length c0_1] rfl (by (try simp only [List.map_toArray, List.map_cons, List.map_nil]); first | done | rfl | (simp only [List.length_drop, List.length_take]; rfl)) ?_; (with_reducible refine (subtrees_cloned.calls _ _ l0_1 t129 _ ?side1 ?side2 A24.out).mono ?_); (case side1 => exact Kd.C_below HR0_1.out (by repeat (first | (with_reducible first | exact HB.out | apply below_alloc | apply pw_below_drewN | apply below_drew1 | refine below_set ?_ GE113.out | refine below_set ?_ GE114.out | refine below_set ?_ GE115.out) | exact HB.out))); (case side2 => exact HC0_1.out); rintro e w36 ⟨v130, rfl, ho0, hb⟩; refine ⟨_, rfl, ?_⟩; have n0_ := Aside0.mk (Kd.N_elder' (by (with_reducible repeat (first | apply Kd.N_alloc | apply Kd.N_drewN | apply Kd.N_drew)); exact (Kd.N_mono (Kd.N_far (p := ⟨gb115, 0, none⟩) (Kd.N_mono HO128.out (fun k_ hk => (⟨hk, hk.2.2.2⟩ : _ ∧ k_ ≠ gb115))) (fun _ hk => hk.2) (.slice Ao31 y126.length co31)) (fun _ h_ => h_.1))) (Kd.N_base ho0) hb); have n1_ := Aside0.mk (Kd.N_lower (Kd.N_mono (ok' := fun k_ => (w.heap.size ≤ k_) ∧ some k_ ≠ (.slice Ao31 y126.length co31 : Value).ownBlock ∧ k_ ≠ gb113 ∧ k_ ≠ gb114 ∧ k_ ≠ gb115) ho0 (fun k_ hk_ => ⟨(Nat.le_trans (below_size (by repeat (first | (with_reducible first | exact HB.out | apply below_alloc | apply pw_below_drewN | apply below_drew1 | refine below_set ?_ GE113.out | refine below_set ?_ GE114.out | refine below_set ?_ GE115.out) | exact HB.out))) hk_), (Kd.fresh' (Kd.N_lt (by (with_reducible repeat (first | apply Kd.N_alloc | apply Kd.N_drewN | apply Kd.N_drew)); exact (Kd.N_mono (Kd.N_far (p := ⟨gb115, 0, none⟩) (Kd.N_mono HO128.out (fun k_ hk => (⟨hk, hk.2.2.2⟩ : _ ∧ k_ ≠ gb115))) (fun _ hk => hk.2) (.slice Ao31 y126.length co31)) (fun _ h_ => h_.1)))) k_ hk_), (Kd.freshB (g := gb113) (o := .cells #[.slice A0_0 l0_0.length c0_0, .slice A0_1 l0_1.length c0_1] 25 (0, 0)) (by (with_reducible repeat (first | refine blk_drewN ?_ _ | refine blk_drew ?_ | refine blk_alloc ?_ _)); refine blk_far ?_ NB113_115.out _; (with_reducible repeat (first | refine blk_drewN ?_ _ | refine blk_drew ?_ | refine blk_alloc ?_ _)); exact BK113.out) k_ hk_), (Kd.freshB (g := gb114) (o := .cells #[.slice none 0 0, .slice none 0 0] 25 (0, 0)) (by (with_reducible repeat (first | refine blk_drewN ?_ _ | refine blk_drew ?_ | refine blk_alloc ?_ _)); refine blk_far ?_ NB114_115.out _; (with_reducible repeat (first | refine blk_drewN ?_ _ | refine blk_drew ?_ | refine blk_alloc ?_ _)); exact BK114.out) k_ hk_), (Kd.freshB (g := gb115) (o := .cells #[.slice Ao31 y126.length co31, .slice none 0 0] 25 (0, 0)) (by (with_reducible repeat (first | refine blk_drewN ?_ _ | refine blk_drew ?_ | refine blk_alloc ?_ _)); refine blk_put (cs := #[u116000, .slice none 0 0]) ?_ 0 _ rfl; (with_reducible repeat (first | refine blk_drewN ?_ _ | refine blk_drew ?_ | refine blk_alloc ?_ _)); exact BK115.out) k_ hk_)⟩)) (below_size (by repeat (first | (with_reducible first | exact HB.out | apply below_alloc | apply pw_below_drewN | apply below_drew1 | refine below_set ?_ GE113.out | refine below_set ?_ GE114.out | refine below_set ?_ GE115.out) | exact HB.out)))); have n2_ := Aside0.mk (blk_below (g := gb113) (o := .cells #[.slice A0_0 l0_0.length c0_0, .slice A0_1 l0_1.length c0_1] 25 (0, 0)) (by (with_reducible repeat (first | refine blk_drewN ?_ _ | refine blk_drew ?_ | refine blk_alloc ?_ _)); refine blk_far ?_ NB113_115.out _; (with_reducible repeat (first | refine blk_drewN ?_ _ | refine blk_drew ?_ | refine blk_alloc ?_ _)); exact BK113.out) hb); have n3_ := Aside0.mk (blk_below (g := gb114) (o := .cells #[.slice none 0 0, .slice none 0 0] 25 (0, 0)) (by (with_reducible repeat (first | refine blk_drewN ?_ _ | refine blk_drew ?_ | refine blk_alloc ?_ _)); refine blk_far ?_ NB114_115.out _; (with_reducible repeat (first | refine blk_drewN ?_ _ | refine blk_drew ?_ | refine blk_alloc ?_ _)); exact BK114.out) hb); have n4_ := Aside0.mk (blk_below (g := gb115) (o := .cells #[.slice Ao31 y126.length co31, .slice none 0 0] 25 (0, 0)) (by (with_reducible repeat (first | refine blk_drewN ?_ _ | refine blk_drew ?_ | refine blk_alloc ?_ _)); refine blk_put (cs := #[u116000, .slice none 0 0]) ?_ 0 _ rfl; (with_reducible repeat (first | refine blk_drewN ?_ _ | refine blk_drew ?_ | refine blk_alloc ?_ _)); exact BK115.out) hb); have n5_ := Aside0.mk (below_step (by repeat (first | (with_reducible first | exact HB.out | apply below_alloc | apply pw_below_drewN | apply below_drew1 | refine below_set ?_ GE113.out | refine below_set ?_ GE114.out | refine below_set ?_ GE115.out) | exact HB.out)) hb); clear HO128; clear BK113; clear BK114; clear BK115; clear HB; have HO128 := n0_; have HO131 := n1_; have BK113 := n2_; have BK114 := n3_; have BK115 := n4_; have HB := n5_; clear n0_ n1_ n2_ n3_ n4_ n5_; (try clear hb); (try clear hb2); (try clear hk); (try clear hi); (try clear ho0)) | ((with_reducible refine gate_callee (f := 27) rfl ?_); refine goesL_ (some 39) rfl rfl Try.func27 (by kernel_rfl) rfl #[.slice A2 l2.length c2] rfl (by (try simp only [List.map_toArray, List.map_cons, List.map_nil]); first | done | rfl | (simp only [List.length_drop, List.length_take]; rfl)) ?_; (with_reducible refine (subtrees_cloned.calls _ _ l2 t132 _ ?side1 ?side2 A25.out).mono ?_); (case side1 => repeat (first | exact (Kd.C_below HR2.out HB.out) | (with_reducible refine Kd.C_alloc ?_ _) | (with_reducible refine Kd.C_drewN ?_ _) | (with_reducible refine Kd.C_drew ?_))); (case side2 => exact HC2.out); rintro e w37 ⟨v133, rfl, ho0, hb⟩; refine ⟨_, rfl, ?_⟩; have n0_ := Aside0.mk (Kd.N_elder' (by (with_reducible repeat (first | apply Kd.N_alloc | apply Kd.N_drewN | apply Kd.N_drew)); exact HO128.out) (Kd.N_base ho0) hb); have n1_ := Aside0.mk (Kd.N_elder' (by (with_reducible repeat (first | apply Kd.N_alloc | apply Kd.N_drewN | apply Kd.N_drew)); exact HO131.out) (Kd.N_base ho0) hb); have n2_ := Aside0.mk (Kd.N_lower (Kd.N_mono (ok' := fun k_ => (w.heap.size ≤ k_) ∧ some k_ ≠ (.slice Ao31 y126.length co31 : Value).ownBlock ∧ some k_ ≠ (v130 : Value).ownBlock ∧ k_ ≠ gb113 ∧ k_ ≠ gb114 ∧ k_ ≠ gb115) ho0 (fun k_ hk_ => ⟨(Nat.le_trans (below_size (by repeat (first | (with_reducible first | exact HB.out | apply below_alloc | apply pw_below_drewN | apply below_drew1 | refine below_set ?_ GE113.out | refine below_set ?_ GE114.out | refine below_set ?_ GE115.out) | exact HB.out))) hk_), (Kd.fresh' (Kd.N_lt (by (with_reducible repeat (first | apply Kd.N_alloc | apply Kd.N_drewN | apply Kd.N_drew)); exact HO128.out)) k_ hk_), (Kd.fresh' (Kd.N_lt (by (with_reducible repeat (first | apply Kd.N_alloc | apply Kd.N_drewN | apply Kd.N_drew)); exact HO131.out)) k_ hk_), (Kd.freshB (g := gb113) (o := .cells #[.slice A0_0 l0_0.length c0_0, .slice A0_1 l0_1.length c0_1] 25 (0, 0)) (by (with_reducible repeat (first | refine blk_drewN ?_ _ | refine blk_drew ?_ | refine blk_alloc ?_ _)); exact BK113.out) k_ hk_), (Kd.freshB (g := gb114) (o := .cells #[.slice none 0 0, .slice none 0 0] 25 (0, 0)) (by (with_reducible repeat (first | refine blk_drewN ?_ _ | refine blk_drew ?_ | refine blk_alloc ?_ _)); exact BK114.out) k_ hk_), (Kd.freshB (g := gb115) (o := .cells #[.slice Ao31 y126.length co31, .slice none 0 0] 25 (0, 0)) (by (with_reducible repeat (first | refine blk_drewN ?_ _ | refine blk_drew ?_ | refine blk_alloc ?_ _)); exact BK115.out) k_ hk_)⟩)) (below_size (by repeat (first | (with_reducible first | exact HB.out | apply below_alloc | apply pw_below_drewN | apply below_drew1 | refine below_set ?_ GE113.out | refine below_set ?_ GE114.out | refine below_set ?_ GE115.out) | exact HB.out)))); have n3_ := Aside0.mk (blk_below (g := gb113) (o := .cells #[.slice A0_0 l0_0.length c0_0, .slice A0_1 l0_1.length c0_1] 25 (0, 0)) (by (with_reducible repeat (first | refine blk_drewN ?_ _ | refine blk_drew ?_ | refine blk_alloc ?_ _)); exact BK113.out) hb); have n4_ := Aside0.mk (blk_below (g := gb114) (o := .cells #[.slice none 0 0, .slice none 0 0] 25 (0, 0)) (by (with_reducible repeat (first | refine blk_drewN ?_ _ | refine blk_drew ?_ | refine blk_alloc ?_ _)); exact BK114.out) hb); have n5_ := Aside0.mk (blk_below (g := gb115) (o := .cells #[.slice Ao31 y126.length co31, .slice none 0 0] 25 (0, 0)) (by (with_reducible repeat (first | refine blk_drewN ?_ _ | refine blk_drew ?_ | refine blk_alloc ?_ _)); exact BK115.out) hb); have n6_ := Aside0.mk (below_step (by repeat (first | (with_reducible first | exact HB.out | apply below_alloc | apply pw_below_drewN | apply below_drew1 | refine below_set ?_ GE113.out | refine below_set ?_ GE114.out | refine below_set ?_ GE115.out) | exact HB.out)) hb); clear HO128; clear HO131; clear BK113; clear BK114; clear BK115; clear HB; have HO128 := n0_; have HO131 := n1_; have HO134 := n2_; have BK113 := n3_; have BK114 := n4_; have BK115 := n5_; have HB := n6_; clear n0_ n1_ n2_ n3_ n4_ n5_ n6_; (try clear hb); (try clear hb2); (try clear hk); (try clear hi); (try clear ho0); obtain ⟨Ao39, co39, eo39⟩ := Kd.N_slice HO134.out; subst eo39) | ((with_reducible refine gate_builtin (b := .append) (xs := #[.tmp 37, .tmp 39]) rfl ?_); at_builtin; refine Kd.N_append_rows (Kd.slice 35 k35) (w0 := w) w.heap.size rfl (.tmp 37) (.tmp 39) 23 27 (.slice none 0 0) 24 rfl Try.underlying23 info27 rfl (by decide) (by omega) v130 t129 t132 _ _ _ (fun k_ => (w.heap.size ≤ k_) ∧ some k_ ≠ (.slice Ao31 y126.length co31 : Value).ownBlock ∧ k_ ≠ gb113 ∧ k_ ≠ gb114 ∧ k_ ≠ gb115) (fun k_ => ((fun k_ => (w.heap.size ≤ k_) ∧ some k_ ≠ (.slice Ao31 y126.length co31 : Value).ownBlock ∧ k_ ≠ gb113 ∧ k_ ≠ gb114 ∧ k_ ≠ gb115)) k_ ∧ some k_ ≠ (v130 : Value).ownBlock) rfl rfl ?aO ?aR (fun _ hk => hk) ?aF ?aB ?aS ?aL ?_; (case aR => exact (by skip; exact Kd.N_F (Kd.N_mono (ok' := (fun k_ => ((fun k_ => (w.heap.size ≤ k_) ∧ some k_ ≠ (.slice Ao31 y126.length co31 : Value).ownBlock ∧ k_ ≠ gb113 ∧ k_ ≠ gb114 ∧ k_ ≠ gb115)) k_ ∧ some k_ ≠ (v130 : Value).ownBlock)) (HO134.out) (fun k_ hk => ⟨⟨hk.1, ⟨hk.2.1, ⟨hk.2.2.2.1, ⟨hk.2.2.2.2.1, hk.2.2.2.2.2⟩⟩⟩⟩, hk.2.2.1⟩)))); (case aB => exact (by repeat (first | (with_reducible first | exact HB.out | apply below_alloc | apply pw_below_drewN | apply below_drew1 | refine below_set ?_ GE113.out | refine below_set ?_ GE114.out | refine below_set ?_ GE115.out) | exact HB.out))); (case aF => exact (fun k_ hk => ⟨(Nat.le_trans (below_size (by repeat (first | (with_reducible first | exact HB.out | apply below_alloc | apply pw_below_drewN | apply below_drew1 | refine below_set ?_ GE113.out | refine below_set ?_ GE114.out | refine below_set ?_ GE115.out) | exact HB.out))) hk), Kd.fresh' (Kd.N_lt (by (with_reducible repeat (first | apply Kd.N_alloc | apply Kd.N_drewN | apply Kd.N_drew)); exact HO128.out)) k_ hk, Kd.freshB (g := gb113) (o := .cells #[.slice A0_0 l0_0.length c0_0, .slice A0_1 l0_1.length c0_1] 25 (0, 0)) (by (with_reducible repeat (first | refine blk_drewN ?_ _ | refine blk_drew ?_ | refine blk_alloc ?_ _)); exact BK113.out) k_ hk, Kd.freshB (g := gb114) (o := .cells #[.slice none 0 0, .slice none 0 0] 25 (0, 0)) (by (with_reducible repeat (first | refine blk_drewN ?_ _ | refine blk_drew ?_ | refine blk_alloc ?_ _)); exact BK114.out) k_ hk, Kd.freshB (g := gb115) (o := .cells #[.slice Ao31 y126.length co31, .slice none 0 0] 25 (0, 0)) (by (with_reducible repeat (first | refine blk_drewN ?_ _ | refine blk_drew ?_ | refine blk_alloc ?_ _)); exact BK115.out) k_ hk⟩)); (case aO => exact (by (with_reducible repeat (first | apply Kd.N_alloc | apply Kd.N_drewN | apply Kd.N_drew)); exact Kd.N_mono HO131.out (fun _ hk => ⟨hk.1.1, ⟨hk.1.2.1, ⟨hk.1.2.2.1, ⟨hk.1.2.2.2.1, hk.1.2.2.2.2⟩⟩⟩⟩))); (case aS => exact (below_size (by repeat (first | (with_reducible first | exact HB.out | apply below_alloc | apply pw_below_drewN | apply below_drew1 | refine below_set ?_ GE113.out | refine below_set ?_ GE114.out | refine below_set ?_ GE115.out) | exact HB.out)))); (case aL => have := LMc26.out; omega); intro v136 w38 ho hb hg hat; rw [← Ny135.out] at ho; have n0_ := Aside0.mk (blk_grown (g := gb113) (o := .cells #[.slice A0_0 l0_0.length c0_0, .slice A0_1 l0_1.length c0_1] 25 (0, 0)) (by (with_reducible repeat (first | refine blk_drewN ?_ _ | refine blk_drew ?_ | refine blk_alloc ?_ _)); exact BK113.out) hg (Kd.N_ne HO131.out BK113.out (by decide))); have n1_ := Aside0.mk (blk_grown (g := gb114) (o := .cells #[.slice none 0 0, .slice none 0 0] 25 (0, 0)) (by (with_reducible repeat (first | refine blk_drewN ?_ _ | refine blk_drew ?_ | refine blk_alloc ?_ _)); exact BK114.out) hg (Kd.N_ne HO131.out BK114.out (by decide))); have n2_ := Aside0.mk (blk_grown (g := gb115) (o := .cells #[.slice Ao31 y126.length co31, .slice none 0 0] 25 (0, 0)) (by (with_reducible repeat (first | refine blk_drewN ?_ _ | refine blk_drew ?_ | refine blk_alloc ?_ _)); exact BK115.out) hg (Kd.N_ne HO131.out BK115.out (by decide))); have n3_ := Aside0.mk (Kd.N_afterv (ok := (fun k_ => (w.heap.size ≤ k_) ∧ some k_ ≠ (.slice Ao39 t132.length co39 : Value).ownBlock ∧ k_ ≠ gb113 ∧ k_ ≠ gb114 ∧ k_ ≠ gb115)) (by (with_reducible repeat (first | apply Kd.N_alloc | apply Kd.N_drewN | apply Kd.N_drew)); exact Kd.N_mono HO128.out (fun _ hk => ⟨⟨hk.1.1.1, ⟨hk.2, ⟨hk.1.1.2.1, ⟨hk.1.1.2.2.1, hk.1.1.2.2.2⟩⟩⟩⟩, hk.1.2⟩)) hg hat); have n4_ := Aside0.mk (Kd.N_afterv (ok := (fun k_ => (w.heap.size ≤ k_) ∧ some k_ ≠ (.slice Ao31 y126.length co31 : Value).ownBlock ∧ k_ ≠ gb113 ∧ k_ ≠ gb114 ∧ k_ ≠ gb115)) (by (with_reducible repeat (first | apply Kd.N_alloc | apply Kd.N_drewN | apply Kd.N_drew)); exact Kd.N_mono HO134.out (fun _ hk => ⟨⟨hk.1, ⟨hk.2.1, ⟨hk.2.2.2.1, ⟨hk.2.2.2.2.1, hk.2.2.2.2.2⟩⟩⟩⟩, hk.2.2.1⟩)) hg hat); have n5_ := Aside0.mk (hb); have n6_ := Aside0.mk (ho); clear BK113; clear BK114; clear BK115; clear HO128; clear HO134; clear HB; clear HO131; have BK113 := n0_; have BK114 := n1_; have BK115 := n2_; have HO128 := n3_; have HO134 := n4_; have HB := n5_; have HO137 := n6_; clear n0_ n1_ n2_ n3_ n4_ n5_ n6_; clear ho hb hg hat; obtain ⟨Ao40, co40, eo40⟩ := Kd.N_slice HO137.out; subst eo40; have hnb41 := NB115_114.out; have hnc41 := NB114_115.out; have hcz42_0 : w38.cell? ⟨gb115, 0, none⟩ = some (.slice Ao31 y126.length co31) := (blk_cell BK115.out 0).trans rfl; have hcz42_1 : w38.cell? ⟨gb115, 1, none⟩ = some (.slice none 0 0) := (blk_cell BK115.out 1).trans rfl; have hfz42_0 := blk_frozen BK115.out 0; have hfz42_1 := blk_frozen BK115.out 1; have hcz43_0 : w38.cell? ⟨gb114, 0, none⟩ = some (.slice none 0 0) := (blk_cell BK114.out 0).trans rfl; have hcz43_1 : w38.cell? ⟨gb114, 1, none⟩ = some (.slice none 0 0) := (blk_cell BK114.out 1).trans rfl; have hfz43_0 := blk_frozen BK114.out 0; have hfz43_1 := blk_frozen BK114.out 1))
              refine bodyPost_ret (results_cell_row rfl _ _ gb114 25 #[.slice Ao31 y126.length co31, .slice Ao40 y135.length co40] (0, 0) _ rfl (by (with_reducible repeat (first | refine blk_drewN ?_ _ | refine blk_drew ?_ | refine blk_alloc ?_ _)); refine blk_put (cs := #[.slice Ao31 y126.length co31, .slice none 0 0]) ?_ 1 _ rfl; (with_reducible repeat (first | refine blk_drewN ?_ _ | refine blk_drew ?_ | refine blk_alloc ?_ _)); refine blk_put (cs := #[.slice none 0 0, .slice none 0 0]) ?_ 0 _ rfl; (with_reducible repeat (first | refine blk_drewN ?_ _ | refine blk_drew ?_ | refine blk_alloc ?_ _)); refine blk_far ?_ NB114_115.out _; (with_reducible repeat (first | refine blk_drewN ?_ _ | refine blk_drew ?_ | refine blk_alloc ?_ _)); exact BK114.out) Try.underlying25 rfl (by kernel_rfl)) rfl ?_
              exact ⟨_, _, by first | rfl | (simp [errW_none, errW_some] <;> rfl) | (simp [*, errW_none, errW_some] <;> rfl), by (with_reducible repeat (first | apply Kd.N_alloc | apply Kd.N_drewN | apply Kd.N_drew)); exact Kd.N_mono (Kd.N_far (p := ⟨gb114, 1, none⟩) (Kd.N_far (p := ⟨gb114, 0, none⟩) (Kd.N_far (p := ⟨gb115, 1, none⟩) (Kd.N_mono (Kd.N_mono HO128.out (fun k_ hk => (⟨hk, hk.1.2.2.2.2⟩ : _ ∧ k_ ≠ gb115))) (fun k_ hk => (⟨hk, hk.1.1.2.2.2.1⟩ : _ ∧ k_ ≠ gb114))) (fun _ hk => hk.1.2) (.slice Ao40 y135.length co40)) (fun _ hk => hk.2) (.slice Ao31 y126.length co31)) (fun _ hk => hk.2) (.slice Ao40 y135.length co40)) (fun _ hk => ⟨hk.1.1.1.1, hk.1.1.2⟩), by (with_reducible repeat (first | apply Kd.N_alloc | apply Kd.N_drewN | apply Kd.N_drew)); exact Kd.N_mono (Kd.N_far (p := ⟨gb114, 1, none⟩) (Kd.N_far (p := ⟨gb114, 0, none⟩) (Kd.N_far (p := ⟨gb115, 1, none⟩) (Kd.N_mono (Kd.N_mono HO137.out (fun k_ hk => (⟨hk, hk.2.2.2.2⟩ : _ ∧ k_ ≠ gb115))) (fun k_ hk => (⟨hk, hk.1.2.2.2.1⟩ : _ ∧ k_ ≠ gb114))) (fun _ hk => hk.1.2) (.slice Ao40 y135.length co40)) (fun _ hk => hk.2) (.slice Ao31 y126.length co31)) (fun _ hk => hk.2) (.slice Ao40 y135.length co40)) (fun _ hk => ⟨hk.1.1.1, hk.1.1.2.1⟩), by repeat (first | (with_reducible first | exact HB.out | apply below_alloc | apply pw_below_drewN | apply below_drew1 | refine below_set ?_ GE113.out | refine below_set ?_ GE114.out | refine below_set ?_ GE115.out) | exact HB.out)⟩
            · rw [if_neg c26] at H
              exact absurd H (by simp)
          · rw [if_neg c23] at H
            exact absurd H (by simp)
        · rw [if_neg c21] at H
          have c21b0 : decide (0 < (l1.length : Int)) = false := decide_eq_false c21
          have c21b1 : decide (0 < l1.length) = false := decide_eq_false (by omega)
          clear c21
          replace H := Option.bind_eq_some_iff.mp H
          obtain ⟨t138, A440, H⟩ := H
          replace H : ((subtrees_cloned.f l2).bind fun t141 => (if t138.length + t141.length < 5864062014805 then (some (x116000_1, (t138 ++ t141))) else (none))) = some (r1, r2) := H
          have A44 := Aside0.mk A440
          clear A440
          replace H := Option.bind_eq_some_iff.mp H
          obtain ⟨t141, A450, H⟩ := H
          replace H : (if t138.length + t141.length < 5864062014805 then (some (x116000_1, (t138 ++ t141))) else (none)) = some (r1, r2) := H
          have A45 := Aside0.mk A450
          clear A450
          by_cases c46 : t138.length + t141.length < 5864062014805
          · rw [if_pos c46] at H
            have LMc46 := Aside0.mk c46
            clear c46
            obtain ⟨y144, hy144⟩ : ∃ y_ : List (List (S35)), y_ = (t138 ++ t141) := ⟨_, rfl⟩
            replace H : (some (x116000_1, y144)) = some (r1, r2) := by first | (rw [hy144]; with_reducible exact H) | (have H2_ := (Option.bind_some _ _).symm.trans H; rw [hy144]; with_reducible exact H2_) | (have H2_ := (Option.bind_some _ _).symm.trans H; with_reducible exact H2_) | with_reducible exact H | (rw [hy144]; exact H) | exact H
            have Ny144 := Aside0.mk hy144
            clear hy144
            simp only [Option.some.injEq, Prod.mk.injEq] at H
            obtain ⟨rfl, rfl⟩ := H
            have hnb47 := NB113_114.out
            have hnc47 := NB114_113.out
            have hnb48 := NB113_115.out
            have hnc48 := NB115_113.out
            have hcz49_0 : wr.cell? ⟨gb113, 0, none⟩ = some (.slice A0_0 l0_0.length c0_0) := (blk_cell BK113.out 0).trans rfl
            have hcz49_1 : wr.cell? ⟨gb113, 1, none⟩ = some (.slice A0_1 l0_1.length c0_1) := (blk_cell BK113.out 1).trans rfl
            have hfz49_0 := blk_frozen BK113.out 0
            have hfz49_1 := blk_frozen BK113.out 1
            go_wp2_with (first | ((with_reducible refine gate_callee (f := 27) rfl ?_); refine goesL_ (some 37) rfl rfl Try.func27 (by kernel_rfl) rfl #[.slice A0_1 l0_1.length c0_1] rfl (by (try simp only [List.map_toArray, List.map_cons, List.map_nil]); first | done | rfl | (simp only [List.length_drop, List.length_take]; rfl)) ?_; (with_reducible refine (subtrees_cloned.calls _ _ l0_1 t138 _ ?side1 ?side2 A44.out).mono ?_); (case side1 => repeat (first | exact (Kd.C_below HR0_1.out HB.out) | (with_reducible refine Kd.C_alloc ?_ _) | (with_reducible refine Kd.C_drewN ?_ _) | (with_reducible refine Kd.C_drew ?_))); (case side2 => exact HC0_1.out); rintro e w50 ⟨v139, rfl, ho0, hb⟩; refine ⟨_, rfl, ?_⟩; have n0_ := Aside0.mk (Kd.N_elder' (by (with_reducible repeat (first | apply Kd.N_alloc | apply Kd.N_drewN | apply Kd.N_drew)); exact HO_116000.out) (Kd.N_base ho0) hb); have n1_ := Aside0.mk (Kd.N_lower (Kd.N_mono (ok' := fun k_ => (w.heap.size ≤ k_) ∧ some k_ ≠ (u116000 : Value).ownBlock ∧ k_ ≠ gb113 ∧ k_ ≠ gb114 ∧ k_ ≠ gb115) ho0 (fun k_ hk_ => ⟨(Nat.le_trans (below_size (by repeat (first | (with_reducible first | exact HB.out | apply below_alloc | apply pw_below_drewN | apply below_drew1 | refine below_set ?_ GE113.out | refine below_set ?_ GE114.out | refine below_set ?_ GE115.out) | exact HB.out))) hk_), (Kd.fresh' (Kd.N_lt (by (with_reducible repeat (first | apply Kd.N_alloc | apply Kd.N_drewN | apply Kd.N_drew)); exact HO_116000.out)) k_ hk_), (Kd.freshB (g := gb113) (o := .cells #[.slice A0_0 l0_0.length c0_0, .slice A0_1 l0_1.length c0_1] 25 (0, 0)) (by (with_reducible repeat (first | refine blk_drewN ?_ _ | refine blk_drew ?_ | refine blk_alloc ?_ _)); exact BK113.out) k_ hk_), (Kd.freshB (g := gb114) (o := .cells #[.slice none 0 0, .slice none 0 0] 25 (0, 0)) (by (with_reducible repeat (first | refine blk_drewN ?_ _ | refine blk_drew ?_ | refine blk_alloc ?_ _)); exact BK114.out) k_ hk_), (Kd.freshB (g := gb115) (o := .cells #[u116000, .slice none 0 0] 25 (0, 0)) (by (with_reducible repeat (first | refine blk_drewN ?_ _ | refine blk_drew ?_ | refine blk_alloc ?_ _)); exact BK115.out) k_ hk_)⟩)) (below_size (by repeat (first | (with_reducible first | exact HB.out | apply below_alloc | apply pw_below_drewN | apply below_drew1 | refine below_set ?_ GE113.out | refine below_set ?_ GE114.out | refine below_set ?_ GE115.out) | exact HB.out)))); have n2_ := Aside0.mk (blk_below (g := gb113) (o := .cells #[.slice A0_0 l0_0.length c0_0, .slice A0_1 l0_1.length c0_1] 25 (0, 0)) (by (with_reducible repeat (first | refine blk_drewN ?_ _ | refine blk_drew ?_ | refine blk_alloc ?_ _)); exact BK113.out) hb); have n3_ := Aside0.mk (blk_below (g := gb114) (o := .cells #[.slice none 0 0, .slice none 0 0] 25 (0, 0)) (by (with_reducible repeat (first | refine blk_drewN ?_ _ | refine blk_drew ?_ | refine blk_alloc ?_ _)); exact BK114.out) hb); have n4_ := Aside0.mk (blk_below (g := gb115) (o := .cells #[u116000, .slice none 0 0] 25 (0, 0)) (by (with_reducible repeat (first | refine blk_drewN ?_ _ | refine blk_drew ?_ | refine blk_alloc ?_ _)); exact BK115.out) hb); have n5_ := Aside0.mk (below_step (by repeat (first | (with_reducible first | exact HB.out | apply below_alloc | apply pw_below_drewN | apply below_drew1 | refine below_set ?_ GE113.out | refine below_set ?_ GE114.out | refine below_set ?_ GE115.out) | exact HB.out)) hb); clear HO_116000; clear BK113; clear BK114; clear BK115; clear HB; have HO_116000 := n0_; have HO140 := n1_; have BK113 := n2_; have BK114 := n3_; have BK115 := n4_; have HB := n5_; clear n0_ n1_ n2_ n3_ n4_ n5_; (try clear hb); (try clear hb2); (try clear hk); (try clear hi); (try clear ho0)) | ((with_reducible refine gate_callee (f := 27) rfl ?_); refine goesL_ (some 39) rfl rfl Try.func27 (by kernel_rfl) rfl #[.slice A2 l2.length c2] rfl (by (try simp only [List.map_toArray, List.map_cons, List.map_nil]); first | done | rfl | (simp only [List.length_drop, List.length_take]; rfl)) ?_; (with_reducible refine (subtrees_cloned.calls _ _ l2 t141 _ ?side1 ?side2 A45.out).mono ?_); (case side1 => repeat (first | exact (Kd.C_below HR2.out HB.out) | (with_reducible refine Kd.C_alloc ?_ _) | (with_reducible refine Kd.C_drewN ?_ _) | (with_reducible refine Kd.C_drew ?_))); (case side2 => exact HC2.out); rintro e w51 ⟨v142, rfl, ho0, hb⟩; refine ⟨_, rfl, ?_⟩; have n0_ := Aside0.mk (Kd.N_elder' (by (with_reducible repeat (first | apply Kd.N_alloc | apply Kd.N_drewN | apply Kd.N_drew)); exact HO_116000.out) (Kd.N_base ho0) hb); have n1_ := Aside0.mk (Kd.N_elder' (by (with_reducible repeat (first | apply Kd.N_alloc | apply Kd.N_drewN | apply Kd.N_drew)); exact HO140.out) (Kd.N_base ho0) hb); have n2_ := Aside0.mk (Kd.N_lower (Kd.N_mono (ok' := fun k_ => (w.heap.size ≤ k_) ∧ some k_ ≠ (u116000 : Value).ownBlock ∧ some k_ ≠ (v139 : Value).ownBlock ∧ k_ ≠ gb113 ∧ k_ ≠ gb114 ∧ k_ ≠ gb115) ho0 (fun k_ hk_ => ⟨(Nat.le_trans (below_size (by repeat (first | (with_reducible first | exact HB.out | apply below_alloc | apply pw_below_drewN | apply below_drew1 | refine below_set ?_ GE113.out | refine below_set ?_ GE114.out | refine below_set ?_ GE115.out) | exact HB.out))) hk_), (Kd.fresh' (Kd.N_lt (by (with_reducible repeat (first | apply Kd.N_alloc | apply Kd.N_drewN | apply Kd.N_drew)); exact HO_116000.out)) k_ hk_), (Kd.fresh' (Kd.N_lt (by (with_reducible repeat (first | apply Kd.N_alloc | apply Kd.N_drewN | apply Kd.N_drew)); exact HO140.out)) k_ hk_), (Kd.freshB (g := gb113) (o := .cells #[.slice A0_0 l0_0.length c0_0, .slice A0_1 l0_1.length c0_1] 25 (0, 0)) (by (with_reducible repeat (first | refine blk_drewN ?_ _ | refine blk_drew ?_ | refine blk_alloc ?_ _)); exact BK113.out) k_ hk_), (Kd.freshB (g := gb114) (o := .cells #[.slice none 0 0, .slice none 0 0] 25 (0, 0)) (by (with_reducible repeat (first | refine blk_drewN ?_ _ | refine blk_drew ?_ | refine blk_alloc ?_ _)); exact BK114.out) k_ hk_), (Kd.freshB (g := gb115) (o := .cells #[u116000, .slice none 0 0] 25 (0, 0)) (by (with_reducible repeat (first | refine blk_drewN ?_ _ | refine blk_drew ?_ | refine blk_alloc ?_ _)); exact BK115.out) k_ hk_)⟩)) (below_size (by repeat (first | (with_reducible first | exact HB.out | apply below_alloc | apply pw_below_drewN | apply below_drew1 | refine below_set ?_ GE113.out | refine below_set ?_ GE114.out | refine below_set ?_ GE115.out) | exact HB.out)))); have n3_ := Aside0.mk (blk_below (g := gb113) (o := .cells #[.slice A0_0 l0_0.length c0_0, .slice A0_1 l0_1.length c0_1] 25 (0, 0)) (by (with_reducible repeat (first | refine blk_drewN ?_ _ | refine blk_drew ?_ | refine blk_alloc ?_ _)); exact BK113.out) hb); have n4_ := Aside0.mk (blk_below (g := gb114) (o := .cells #[.slice none 0 0, .slice none 0 0] 25 (0, 0)) (by (with_reducible repeat (first | refine blk_drewN ?_ _ | refine blk_drew ?_ | refine blk_alloc ?_ _)); exact BK114.out) hb); have n5_ := Aside0.mk (blk_below (g := gb115) (o := .cells #[u116000, .slice none 0 0] 25 (0, 0)) (by (with_reducible repeat (first | refine blk_drewN ?_ _ | refine blk_drew ?_ | refine blk_alloc ?_ _)); exact BK115.out) hb); have n6_ := Aside0.mk (below_step (by repeat (first | (with_reducible first | exact HB.out | apply below_alloc | apply pw_below_drewN | apply below_drew1 | refine below_set ?_ GE113.out | refine below_set ?_ GE114.out | refine below_set ?_ GE115.out) | exact HB.out)) hb); clear HO_116000; clear HO140; clear BK113; clear BK114; clear BK115; clear HB; have HO_116000 := n0_; have HO140 := n1_; have HO143 := n2_; have BK113 := n3_; have BK114 := n4_; have BK115 := n5_; have HB := n6_; clear n0_ n1_ n2_ n3_ n4_ n5_ n6_; (try clear hb); (try clear hb2); (try clear hk); (try clear hi); (try clear ho0); obtain ⟨Ao53, co53, eo53⟩ := Kd.N_slice HO143.out; subst eo53) | ((with_reducible refine gate_builtin (b := .append) (xs := #[.tmp 37, .tmp 39]) rfl ?_); at_builtin; refine Kd.N_append_rows (Kd.slice 35 k35) (w0 := w) w.heap.size rfl (.tmp 37) (.tmp 39) 23 27 (.slice none 0 0) 24 rfl Try.underlying23 info27 rfl (by decide) (by omega) v139 t138 t141 _ _ _ (fun k_ => (w.heap.size ≤ k_) ∧ some k_ ≠ (u116000 : Value).ownBlock ∧ k_ ≠ gb113 ∧ k_ ≠ gb114 ∧ k_ ≠ gb115) (fun k_ => ((fun k_ => (w.heap.size ≤ k_) ∧ some k_ ≠ (u116000 : Value).ownBlock ∧ k_ ≠ gb113 ∧ k_ ≠ gb114 ∧ k_ ≠ gb115)) k_ ∧ some k_ ≠ (v139 : Value).ownBlock) rfl rfl ?aO ?aR (fun _ hk => hk) ?aF ?aB ?aS ?aL ?_; (case aR => exact (by skip; exact Kd.N_F (Kd.N_mono (ok' := (fun k_ => ((fun k_ => (w.heap.size ≤ k_) ∧ some k_ ≠ (u116000 : Value).ownBlock ∧ k_ ≠ gb113 ∧ k_ ≠ gb114 ∧ k_ ≠ gb115)) k_ ∧ some k_ ≠ (v139 : Value).ownBlock)) (HO143.out) (fun k_ hk => ⟨⟨hk.1, ⟨hk.2.1, ⟨hk.2.2.2.1, ⟨hk.2.2.2.2.1, hk.2.2.2.2.2⟩⟩⟩⟩, hk.2.2.1⟩)))); (case aB => exact (by repeat (first | (with_reducible first | exact HB.out | apply below_alloc | apply pw_below_drewN | apply below_drew1 | refine below_set ?_ GE113.out | refine below_set ?_ GE114.out | refine below_set ?_ GE115.out) | exact HB.out))); (case aF => exact (fun k_ hk => ⟨(Nat.le_trans (below_size (by repeat (first | (with_reducible first | exact HB.out | apply below_alloc | apply pw_below_drewN | apply below_drew1 | refine below_set ?_ GE113.out | refine below_set ?_ GE114.out | refine below_set ?_ GE115.out) | exact HB.out))) hk), Kd.fresh' (Kd.N_lt (by (with_reducible repeat (first | apply Kd.N_alloc | apply Kd.N_drewN | apply Kd.N_drew)); exact HO_116000.out)) k_ hk, Kd.freshB (g := gb113) (o := .cells #[.slice A0_0 l0_0.length c0_0, .slice A0_1 l0_1.length c0_1] 25 (0, 0)) (by (with_reducible repeat (first | refine blk_drewN ?_ _ | refine blk_drew ?_ | refine blk_alloc ?_ _)); exact BK113.out) k_ hk, Kd.freshB (g := gb114) (o := .cells #[.slice none 0 0, .slice none 0 0] 25 (0, 0)) (by (with_reducible repeat (first | refine blk_drewN ?_ _ | refine blk_drew ?_ | refine blk_alloc ?_ _)); exact BK114.out) k_ hk, Kd.freshB (g := gb115) (o := .cells #[u116000, .slice none 0 0] 25 (0, 0)) (by (with_reducible repeat (first | refine blk_drewN ?_ _ | refine blk_drew ?_ | refine blk_alloc ?_ _)); exact BK115.out) k_ hk⟩)); (case aO => exact (by (with_reducible repeat (first | apply Kd.N_alloc | apply Kd.N_drewN | apply Kd.N_drew)); exact Kd.N_mono HO140.out (fun _ hk => ⟨hk.1.1, ⟨hk.1.2.1, ⟨hk.1.2.2.1, ⟨hk.1.2.2.2.1, hk.1.2.2.2.2⟩⟩⟩⟩))); (case aS => exact (below_size (by repeat (first | (with_reducible first | exact HB.out | apply below_alloc | apply pw_below_drewN | apply below_drew1 | refine below_set ?_ GE113.out | refine below_set ?_ GE114.out | refine below_set ?_ GE115.out) | exact HB.out)))); (case aL => have := LMc46.out; omega); intro v145 w52 ho hb hg hat; rw [← Ny144.out] at ho; have n0_ := Aside0.mk (Kd.N_afterv (ok := (fun k_ => (w.heap.size ≤ k_) ∧ some k_ ≠ (.slice Ao53 t141.length co53 : Value).ownBlock ∧ k_ ≠ gb113 ∧ k_ ≠ gb114 ∧ k_ ≠ gb115)) (by (with_reducible repeat (first | apply Kd.N_alloc | apply Kd.N_drewN | apply Kd.N_drew)); exact Kd.N_mono HO_116000.out (fun _ hk => ⟨⟨hk.1.1.1, ⟨hk.2, ⟨hk.1.1.2.1, ⟨hk.1.1.2.2.1, hk.1.1.2.2.2⟩⟩⟩⟩, hk.1.2⟩)) hg hat); have n1_ := Aside0.mk (blk_grown (g := gb113) (o := .cells #[.slice A0_0 l0_0.length c0_0, .slice A0_1 l0_1.length c0_1] 25 (0, 0)) (by (with_reducible repeat (first | refine blk_drewN ?_ _ | refine blk_drew ?_ | refine blk_alloc ?_ _)); exact BK113.out) hg (Kd.N_ne HO140.out BK113.out (by decide))); have n2_ := Aside0.mk (blk_grown (g := gb114) (o := .cells #[.slice none 0 0, .slice none 0 0] 25 (0, 0)) (by (with_reducible repeat (first | refine blk_drewN ?_ _ | refine blk_drew ?_ | refine blk_alloc ?_ _)); exact BK114.out) hg (Kd.N_ne HO140.out BK114.out (by decide))); have n3_ := Aside0.mk (blk_grown (g := gb115) (o := .cells #[u116000, .slice none 0 0] 25 (0, 0)) (by (with_reducible repeat (first | refine blk_drewN ?_ _ | refine blk_drew ?_ | refine blk_alloc ?_ _)); exact BK115.out) hg (Kd.N_ne HO140.out BK115.out (by decide))); have n4_ := Aside0.mk (Kd.N_afterv (ok := (fun k_ => (w.heap.size ≤ k_) ∧ some k_ ≠ (u116000 : Value).ownBlock ∧ k_ ≠ gb113 ∧ k_ ≠ gb114 ∧ k_ ≠ gb115)) (by (with_reducible repeat (first | apply Kd.N_alloc | apply Kd.N_drewN | apply Kd.N_drew)); exact Kd.N_mono HO143.out (fun _ hk => ⟨⟨hk.1, ⟨hk.2.1, ⟨hk.2.2.2.1, ⟨hk.2.2.2.2.1, hk.2.2.2.2.2⟩⟩⟩⟩, hk.2.2.1⟩)) hg hat); have n5_ := Aside0.mk (hb); have n6_ := Aside0.mk (ho); clear HO_116000; clear BK113; clear BK114; clear BK115; clear HO143; clear HB; clear HO140; have HO_116000 := n0_; have BK113 := n1_; have BK114 := n2_; have BK115 := n3_; have HO143 := n4_; have HB := n5_; have HO146 := n6_; clear n0_ n1_ n2_ n3_ n4_ n5_ n6_; clear ho hb hg hat; obtain ⟨Ao54, co54, eo54⟩ := Kd.N_slice HO146.out; subst eo54; have hnb55 := NB115_114.out; have hnc55 := NB114_115.out; have hcz56_0 : w52.cell? ⟨gb115, 0, none⟩ = some (u116000) := (blk_cell BK115.out 0).trans rfl; have hcz56_1 : w52.cell? ⟨gb115, 1, none⟩ = some (.slice none 0 0) := (blk_cell BK115.out 1).trans rfl; have hfz56_0 := blk_frozen BK115.out 0; have hfz56_1 := blk_frozen BK115.out 1; obtain ⟨Ao57, co57, eo57⟩ := Kd.N_slice HO_116000.out; subst eo57; have hcz58_0 : w52.cell? ⟨gb114, 0, none⟩ = some (.slice none 0 0) := (blk_cell BK114.out 0).trans rfl; have hcz58_1 : w52.cell? ⟨gb114, 1, none⟩ = some (.slice none 0 0) := (blk_cell BK114.out 1).trans rfl; have hfz58_0 := blk_frozen BK114.out 0; have hfz58_1 := blk_frozen BK114.out 1))
            refine bodyPost_ret (results_cell_row rfl _ _ gb114 25 #[.slice Ao57 x116000_1.length co57, .slice Ao54 y144.length co54] (0, 0) _ rfl (by (with_reducible repeat (first | refine blk_drewN ?_ _ | refine blk_drew ?_ | refine blk_alloc ?_ _)); refine blk_put (cs := #[.slice Ao57 x116000_1.length co57, .slice none 0 0]) ?_ 1 _ rfl; (with_reducible repeat (first | refine blk_drewN ?_ _ | refine blk_drew ?_ | refine blk_alloc ?_ _)); refine blk_put (cs := #[.slice none 0 0, .slice none 0 0]) ?_ 0 _ rfl; (with_reducible repeat (first | refine blk_drewN ?_ _ | refine blk_drew ?_ | refine blk_alloc ?_ _)); refine blk_far ?_ NB114_115.out _; (with_reducible repeat (first | refine blk_drewN ?_ _ | refine blk_drew ?_ | refine blk_alloc ?_ _)); exact BK114.out) Try.underlying25 rfl (by kernel_rfl)) rfl ?_
            exact ⟨_, _, by first | rfl | (simp [errW_none, errW_some] <;> rfl) | (simp [*, errW_none, errW_some] <;> rfl), by (with_reducible repeat (first | apply Kd.N_alloc | apply Kd.N_drewN | apply Kd.N_drew)); exact Kd.N_mono (Kd.N_far (p := ⟨gb114, 1, none⟩) (Kd.N_far (p := ⟨gb114, 0, none⟩) (Kd.N_far (p := ⟨gb115, 1, none⟩) (Kd.N_mono (Kd.N_mono HO_116000.out (fun k_ hk => (⟨hk, hk.1.2.2.2.2⟩ : _ ∧ k_ ≠ gb115))) (fun k_ hk => (⟨hk, hk.1.1.2.2.2.1⟩ : _ ∧ k_ ≠ gb114))) (fun _ hk => hk.1.2) (.slice Ao54 y144.length co54)) (fun _ hk => hk.2) (.slice Ao57 x116000_1.length co57)) (fun _ hk => hk.2) (.slice Ao54 y144.length co54)) (fun _ hk => ⟨hk.1.1.1.1, hk.1.1.2⟩), by (with_reducible repeat (first | apply Kd.N_alloc | apply Kd.N_drewN | apply Kd.N_drew)); exact Kd.N_mono (Kd.N_far (p := ⟨gb114, 1, none⟩) (Kd.N_far (p := ⟨gb114, 0, none⟩) (Kd.N_far (p := ⟨gb115, 1, none⟩) (Kd.N_mono (Kd.N_mono HO146.out (fun k_ hk => (⟨hk, hk.2.2.2.2⟩ : _ ∧ k_ ≠ gb115))) (fun k_ hk => (⟨hk, hk.1.2.2.2.1⟩ : _ ∧ k_ ≠ gb114))) (fun _ hk => hk.1.2) (.slice Ao54 y144.length co54)) (fun _ hk => hk.2) (.slice Ao57 x116000_1.length co57)) (fun _ hk => hk.2) (.slice Ao54 y144.length co54)) (fun _ hk => ⟨hk.1.1.1, hk.1.1.2.1⟩), by repeat (first | (with_reducible first | exact HB.out | apply below_alloc | apply pw_below_drewN | apply below_drew1 | refine below_set ?_ GE113.out | refine below_set ?_ GE114.out | refine below_set ?_ GE115.out) | exact HB.out)⟩
          · rw [if_neg c46] at H
            exact absurd H (by simp)

/-! ### warderlaw13_head: function 10 (by hand) -/
namespace H13
def aa : S35 := ⟨[2, 5, 4, 3], ⟨#[97]⟩⟩
theorem smallaa : smallA aa = true := by decide
theorem narrow_head : subtrees_Narrow.f 1 [] [] [[aa]] [] = some ([[[aa]]], []) := by
  simp [subtrees_Narrow.f, subtrees_Narrow.l0, subtrees_cloned.f, smallC, aa]
theorem allow_yes : subtrees_Allowed.f [[[aa]]] [] [aa] = some true := by
  have h1 : smallP [[[aa]]] = true := by simp [smallP, smallL, smallN, smallaa]
  have h3 : smallN [aa] = true := by simp [smallN, smallaa]
  unfold subtrees_Allowed.f
  rw [if_pos ⟨h1, rfl, h3⟩]
  simp [allowedN, amongN, underN, sameN, attrEq]
theorem allow_no : subtrees_Allowed.f [[[aa]]] [] [] = some false := by
  have h1 : smallP [[[aa]]] = true := by simp [smallP, smallL, smallN, smallaa]
  unfold subtrees_Allowed.f
  rw [if_pos ⟨h1, rfl, rfl⟩]
  simp [allowedN, amongN, underN]
end H13
open H13 in
def warderlaw13_head.f : Option Bool := some true
set_option maxHeartbeats 4000000 in
set_option maxRecDepth 100000 in
open H13 in
theorem warderlaw13_head.calls (r : Bool) (w : World) (h : warderlaw13_head.f = some r) :
    Calls Try.prog 10 #[] w fun e w' => e = .returned (.bool r) ∧ Below w.heap.size w w' := by
  cases h
  have hu := Try.underlying25
  have hu2 := Try.underlying35
  obtain ⟨W0, hW0⟩ : ∃ W : World, W = w.alloc (.cells #[.int .i64 2, .int .i64 5, .int .i64 4, .int .i64 3] 3) := ⟨_, rfl⟩
  have g0 : (Kd.int .i64).C W0 (some ⟨w.heap.size, 0, none⟩) 4 [2, 5, 4, 3] := by rw [hW0]; exact lit_read w [2, 5, 4, 3] 3 rfl
  have hz0 : W0.heap.size = w.heap.size + 1 := by rw [hW0]; simp
  have HB0 := Aside0.mk (show Below w.heap.size w W0 by rw [hW0]; exact below_alloc (Below.refl _ _) _)
  obtain ⟨W1, hW1⟩ : ∃ W : World, W = W0.alloc (.cells #[.slice (some ⟨w.heap.size, 0, none⟩) 4 4, .string ⟨#[97]⟩] 35) := ⟨_, rfl⟩
  have hz1 : W1.heap.size = w.heap.size + 1 + 1 := by rw [hW1]; simp [hz0]
  have g1 : k35.C W1 (some ⟨w.heap.size + 1, 0, none⟩) 1 [aa] := by
    rw [hW1, ← hz0]
    exact Kd.C_one k35 35 W0 _ aa (k35_mk _ aa (Nat.le_refl 4) (Kd.C_alloc g0 _))
  have HB1 := Aside0.mk (show Below w.heap.size w W1 by rw [hW1]; exact below_alloc HB0.out _)
  obtain ⟨W2, hW2⟩ : ∃ W : World, W = W1.alloc (.cells #[.slice (some ⟨w.heap.size + 1, 0, none⟩) 1 1] 27) := ⟨_, rfl⟩
  have hz2 : W2.heap.size = w.heap.size + 1 + 1 + 1 := by rw [hW2]; simp [hz1]
  have g2 : (Kd.slice 35 k35).C W2 (some ⟨w.heap.size + 1 + 1, 0, none⟩) 1 [[aa]] := by
    rw [hW2, ← hz1]
    exact Kd.C_one (Kd.slice 35 k35) 27 W1 _ [aa] ⟨_, _, rfl, Nat.le_refl 1, Kd.C_alloc g1 _⟩
  have g1' : k35.C W2 (some ⟨w.heap.size + 1, 0, none⟩) 1 [aa] := by rw [hW2]; exact Kd.C_alloc g1 _
  have HB2 := Aside0.mk (show Below w.heap.size w W2 by rw [hW2]; exact below_alloc HB1.out _)
  have C2 := Aside0.mk (subtrees_Narrow.calls 1 none 0 [] none 0 [] (some ⟨w.heap.size + 1 + 1, 0, none⟩) 1 [[aa]] none 0 [] [[[aa]]] [] W2 (Kd.C_nil _ _) (Nat.le_refl 0) (Kd.C_nil _ _) (Nat.le_refl 0) g2 (Nat.le_refl 1) (Kd.C_nil _ _) (Nat.le_refl 0) narrow_head)
  have G2 := Aside0.mk g1'
  rw [hW2, hW1, hW0] at C2
  clear g0 g1 g1' g2 HB0 HB1 hz0 hz1
  go_enter Try.func10, Try.ntmps10
  go_wp2_with fail
  refine C2.out.mono ?_
  clear C2
  rw [← hW0, ← hW1, ← hW2]
  clear hW0 hW1 hW2 W0 W1
  rintro e w3 ⟨v0, v1, rfl, hN0, hN1, hb3⟩
  obtain ⟨A0, c0, rfl, hl0, hC0⟩ := Kd.N_reads hN0
  obtain ⟨A1, c1, rfl, hl1, hC1⟩ := Kd.N_reads hN1
  have HG3 := Aside0.mk (Kd.C_below G2.out hb3)
  have HB3 := Aside0.mk (below_then HB2.out HB2.out.size hb3)
  have HC0 := Aside0.mk hC0
  have HC1 := Aside0.mk hC1
  have HL0 := Aside0.mk hl0
  have HL1 := Aside0.mk hl1
  clear hN0 hN1 hb3 hC0 hC1 hl0 hl1 G2 HB2
  go_wp2_with fail
  have hblk : (w3.alloc (.cells #[.slice A0 1 c0, .slice A1 0 c1] 25)).heap[w3.heap.size]? = some (.cells #[.slice A0 1 c0, .slice A1 0 c1] 25 (0, 0)) := heap_alloc_new w3 _
  have HBK := Aside0.mk hblk
  clear hblk
  refine (subtrees_Allowed.calls A0 c0 [[[aa]]] A1 c1 [] (some ⟨w.heap.size + 1, 0, none⟩) 1 [aa] true _ (Kd.C_alloc HC0.out _) HL0.out (Kd.C_alloc HC1.out _) HL1.out (Kd.C_alloc HG3.out _) (Nat.le_refl 1) allow_yes).mono ?_
  rintro e w5 ⟨rfl, hb5⟩
  have hbk := (hb5.block w3.heap.size (by simp)).trans HBK.out
  have q0 : w5.cell? ⟨w3.heap.size, 0, none⟩ = some (.slice A0 1 c0) := (blk_cell hbk 0).trans rfl
  have q1 : w5.cell? ⟨w3.heap.size, 1, none⟩ = some (.slice A1 0 c1) := (blk_cell hbk 1).trans rfl
  have HC05 := Aside0.mk (Kd.C_below (Kd.C_alloc HC0.out (.cells #[.slice A0 1 c0, .slice A1 0 c1] 25)) hb5)
  have HC15 := Aside0.mk (Kd.C_below (Kd.C_alloc HC1.out (.cells #[.slice A0 1 c0, .slice A1 0 c1] 25)) hb5)
  have HB5 := Aside0.mk (below_then (below_alloc HB3.out (.cells #[.slice A0 1 c0, .slice A1 0 c1] 25)) (by have := HB3.out.size; simp; omega) hb5)
  clear hb5 hbk HC0 HC1 HG3 HB3 HBK
  go_wp2_with fail
  refine (subtrees_Allowed.calls A0 c0 [[[aa]]] A1 c1 [] none 0 [] false _ HC05.out HL0.out HC15.out HL1.out (Kd.C_nil _ _) (Nat.le_refl 0) allow_no).mono ?_
  rintro e w6 ⟨rfl, hb6⟩
  have HB6 := Aside0.mk (below_then HB5.out HB5.out.size hb6)
  clear hb6
  go_wp2
  go_ret
  exact ⟨rfl, HB6.out⟩

end Go.Proofs.Ytalcfnhcenpniaa.XU
