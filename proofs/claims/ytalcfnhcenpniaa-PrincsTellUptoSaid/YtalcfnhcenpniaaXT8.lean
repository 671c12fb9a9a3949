-- printed by wip/xprint.py (a scratch copy of the kit's print, with contracts by hand)
import Derived.Test.YtalcfnhcenpniaaXT0
import Derived.Test.YtalcfnhcenpniaaXT6
namespace Go.Proofs.Ytalcfnhcenpniaa.XT
open Go.RowKit Go.Proofs.YtalcfnhcenpniaaW.PrintWords Go.Proofs.YtalcfnhcenpniaaW.PrintLast Go.Proofs.YtalcfnhcenpniaaW.PrintMore
attribute [local go_sem] max2_int min2_int max_two min_two max_three min_three max_four min_four   -- for this text's walks alone
set_option linter.unusedVariables false
set_option linter.unusedSimpArgs false

/-! ### warderref21_use: function 45 -/
def warderref21_use.l0 : Nat → Int → Int → Int → List (S35) → Int → Int → List (S35) → Int → Bool → Bool → Int → Int → List (List Int) → List (S43) → List (List (S35)) → List (List (S35)) → List (S134) → Int → Option (Bool)
 | 0, _, _, _, _, _, _, _, _, _, _, _, _, _, _, _, _, _, _ => none
 | k + 1, x1, x5, x136000, x136001, x136002, x136003, x136004, x136005, x136006, x136007, x136008, x136009, x136010, x136011, x136012, x136013, x136014, x136015 => if x5 < (x136010.length : Int) then (if 0 ≤ x5 then ((warderref02_Same.f k (rd_L8 x136010 x5) (([1, 3, 6, 1, 5, 2, 3, x1] : List Int))).bind fun t140 => (if t140 = true then (some true) else (warderref21_use.l0 k x1 (wrap64 (x5 + 1)) x136000 x136001 x136002 x136003 x136004 x136005 x136006 x136007 x136008 x136009 x136010 x136011 x136012 x136013 x136014 x136015))) else (none)) else (some false)
def warderref21_use.f (k : Nat) (a0_0 : Int) (l0_1 : List (S35)) (a0_2 : Int) (a0_3 : Int) (l0_4 : List (S35)) (a0_5 : Int) (a0_6 : Bool) (a0_7 : Bool) (a0_8 : Int) (a0_9 : Int) (l0_10 : List (List Int)) (l0_11 : List (S43)) (l0_12 : List (List (S35))) (l0_13 : List (List (S35))) (l0_14 : List (S134)) (a0_15 : Int) (a1 : Int) : Option (Bool) := warderref21_use.l0 k a1 0 a0_0 l0_1 a0_2 a0_3 l0_4 a0_5 a0_6 a0_7 a0_8 a0_9 l0_10 l0_11 l0_12 l0_13 l0_14 a0_15
set_option maxHeartbeats 8000000 in
set_option maxRecDepth 100000 in
theorem warderref21_use.calls (k : Nat) (a0_0 : Int) (A0_1 : Option Addr) (c0_1 : Nat) (l0_1 : List (S35)) (a0_2 : Int) (a0_3 : Int) (A0_4 : Option Addr) (c0_4 : Nat) (l0_4 : List (S35)) (a0_5 : Int) (a0_6 : Bool) (a0_7 : Bool) (a0_8 : Int) (a0_9 : Int) (A0_10 : Option Addr) (c0_10 : Nat) (l0_10 : List (List Int)) (A0_11 : Option Addr) (c0_11 : Nat) (l0_11 : List (S43)) (A0_12 : Option Addr) (c0_12 : Nat) (l0_12 : List (List (S35))) (A0_13 : Option Addr) (c0_13 : Nat) (l0_13 : List (List (S35))) (A0_14 : Option Addr) (c0_14 : Nat) (l0_14 : List (S134)) (a0_15 : Int) (a1 : Int) (r : Bool) (w : World) (hr0_1 : Kd.C k35 w A0_1 l0_1.length l0_1) (hc0_1 : l0_1.length ≤ c0_1) (hr0_4 : Kd.C k35 w A0_4 l0_4.length l0_4) (hc0_4 : l0_4.length ≤ c0_4) (hr0_10 : Kd.C (Kd.slice 3 (Kd.int .i64)) w A0_10 l0_10.length l0_10) (hc0_10 : l0_10.length ≤ c0_10) (hr0_11 : Kd.C k43 w A0_11 l0_11.length l0_11) (hc0_11 : l0_11.length ≤ c0_11) (hr0_12 : Kd.C (Kd.slice 35 k35) w A0_12 l0_12.length l0_12) (hc0_12 : l0_12.length ≤ c0_12) (hr0_13 : Kd.C (Kd.slice 35 k35) w A0_13 l0_13.length l0_13) (hc0_13 : l0_13.length ≤ c0_13) (hr0_14 : Kd.C k134 w A0_14 l0_14.length l0_14) (hc0_14 : l0_14.length ≤ c0_14) (h : warderref21_use.f k a0_0 l0_1 a0_2 a0_3 l0_4 a0_5 a0_6 a0_7 a0_8 a0_9 l0_10 l0_11 l0_12 l0_13 l0_14 a0_15 a1 = some r) :
  Calls Try.prog 45 #[.agg #[.int .i64 a0_0, .slice A0_1 l0_1.length c0_1, .int .i64 a0_2, .int .i64 a0_3, .slice A0_4 l0_4.length c0_4, .int .i64 a0_5, .bool a0_6, .bool a0_7, .int .i64 a0_8, .int .u16 a0_9, .slice A0_10 l0_10.length c0_10, .slice A0_11 l0_11.length c0_11, .slice A0_12 l0_12.length c0_12, .slice A0_13 l0_13.length c0_13, .slice A0_14 l0_14.length c0_14, .int .i64 a0_15], .int .i64 a1] w fun e w' => e = .returned (.bool r) ∧ Below w.heap.size w w' := by
 have hu57 := Try.underlying57
 have HR0_1 := Aside0.mk hr0_1
 have HC0_1 := Aside0.mk hc0_1
 clear hr0_1 hc0_1
 have HR0_4 := Aside0.mk hr0_4
 have HC0_4 := Aside0.mk hc0_4
 clear hr0_4 hc0_4
 have HR0_10 := Aside0.mk hr0_10
 have HC0_10 := Aside0.mk hc0_10
 clear hr0_10 hc0_10
 have HR0_11 := Aside0.mk hr0_11
 have HC0_11 := Aside0.mk hc0_11
 clear hr0_11 hc0_11
 have HR0_12 := Aside0.mk hr0_12
 have HC0_12 := Aside0.mk hc0_12
 clear hr0_12 hc0_12
 have HR0_13 := Aside0.mk hr0_13
 have HC0_13 := Aside0.mk hc0_13
 clear hr0_13 hc0_13
 have HR0_14 := Aside0.mk hr0_14
 have HC0_14 := Aside0.mk hc0_14
 clear hr0_14 hc0_14
 have HB := Aside0.mk (Below.refl w.heap.size w)
 have H : (warderref21_use.l0 k a1 0 a0_0 l0_1 a0_2 a0_3 l0_4 a0_5 a0_6 a0_7 a0_8 a0_9 l0_10 l0_11 l0_12 l0_13 l0_14 a0_15) = some r := h
 clear h
 have H' := Aside0.mk H
 clear H
 go_enter Try.func45, Try.ntmps45
 go_wp2_with (first | ((with_reducible refine gate_dst (N := 2) rfl ?_); refine box_event ?hg (N := 2) ?hd (cs := #[.int .i64 a0_0, .slice A0_1 l0_1.length c0_1, .int .i64 a0_2, .int .i64 a0_3, .slice A0_4 l0_4.length c0_4, .int .i64 a0_5, .bool a0_6, .bool a0_7, .int .i64 a0_8, .int .u16 a0_9, .slice A0_10 l0_10.length c0_10, .slice A0_11 l0_11.length c0_11, .slice A0_12 l0_12.length c0_12, .slice A0_13 l0_13.length c0_13, .slice A0_14 l0_14.length c0_14, .int .i64 a0_15]) (t := 57) ?hr ?_; (case hd => rfl); (case hg => rfl); (case hr => first | (go_simp; done) | (go_simp; rfl)); intro gb135 hg w3 hbox hb; have n0_ := Aside0.mk (below_step (by repeat (first | (with_reducible first | exact HB.out | apply below_alloc | apply pw_below_drewN | apply below_drew1) | exact HB.out)) hb); have n1_ := Aside0.mk (hbox); have n2_ := Aside0.mk ((by rw [hg]; exact (below_size (by repeat (first | (with_reducible first | exact HB.out | apply below_alloc | apply pw_below_drewN | apply below_drew1) | exact HB.out))) : w.heap.size ≤ gb135)); have n3_ := Aside0.mk ((by rw [hg]; exact (below_size (by repeat (first | (with_reducible first | exact HB.out | apply below_alloc | apply pw_below_drewN | apply below_drew1) | exact HB.out))) : w.heap.size ≤ gb135)); clear HB; have HB := n0_; have BK135 := n1_; have GW135 := n2_; have GE135 := n3_; clear n0_ n1_ n2_ n3_; clear hb hbox hg))
 go_loopg [5] k (fun kq v5 w' => ∃ (x5_1 : Int), v5 = .int .i64 x5_1 ∧ Aside0 (warderref21_use.l0 kq a1 x5_1 a0_0 l0_1 a0_2 a0_3 l0_4 a0_5 a0_6 a0_7 a0_8 a0_9 l0_10 l0_11 l0_12 l0_13 l0_14 a0_15 = some r) ∧ Aside0 (kq ≤ k) ∧ Aside0 (w'.heap[gb135]? = some (.cells #[.int .i64 a0_0, (.slice A0_1 l0_1.length c0_1), .int .i64 a0_2, .int .i64 a0_3, (.slice A0_4 l0_4.length c0_4), .int .i64 a0_5, .bool a0_6, .bool a0_7, .int .i64 a0_8, .int .u16 a0_9, (.slice A0_10 l0_10.length c0_10), (.slice A0_11 l0_11.length c0_11), (.slice A0_12 l0_12.length c0_12), (.slice A0_13 l0_13.length c0_13), (.slice A0_14 l0_14.length c0_14), .int .i64 a0_15] 57 (0, 0))) ∧ Aside0 (Below w.heap.size w w'))
 case atStart => exact ⟨(0), (by first | rfl | (simp; done) | (simp [*]; done)), H', ⟨Nat.le_refl _⟩, ⟨by (with_reducible repeat (first | refine blk_drewN ?_ _ | refine blk_drew ?_ | refine blk_alloc ?_ _)); exact BK135.out⟩, ⟨by repeat (first | (with_reducible first | exact HB.out | apply below_alloc | apply pw_below_drewN | apply below_drew1 | refine below_set ?_ GE135.out) | exact HB.out)⟩⟩
 case round =>
  clear H'
  try clear p2
  obtain ⟨x5_1, rfl, HA, HK1, BK135, HB⟩ := hrel
  cases gk with
  | zero => exact absurd HA.out (by simp [warderref21_use.l0])
  | succ k1 =>
   have H := HA.out
   clear HA
   simp only [warderref21_use.l0] at H
   by_cases c4 : x5_1 < (l0_10.length : Int)
   ·rw [if_pos c4] at H
    have c4b0 : decide (x5_1 < (l0_10.length : Int)) = true := decide_eq_true c4
    clear c4
    by_cases c5 : 0 ≤ x5_1
    ·rw [if_pos c5] at H
     have c5b0 : decide (0 ≤ x5_1) = true := decide_eq_true c5
     clear c5
     obtain ⟨y137, hy137⟩ : ∃ y_ : List Int, y_ = (([1, 3, 6, 1, 5, 2, 3, a1] : List Int)) := ⟨_, rfl⟩
     replace H : ((warderref02_Same.f k1 (rd_L8 l0_10 x5_1) y137).bind fun t140 => (if t140 = true then (some true) else (warderref21_use.l0 k1 a1 (wrap64 (x5_1 + 1)) a0_0 l0_1 a0_2 a0_3 l0_4 a0_5 a0_6 a0_7 a0_8 a0_9 l0_10 l0_11 l0_12 l0_13 l0_14 a0_15))) = some r := by first | (rw [hy137]; with_reducible exact H) | (have H2_ := (Option.bind_some _ _).symm.trans H; rw [hy137]; with_reducible exact H2_) | (have H2_ := (Option.bind_some _ _).symm.trans H; with_reducible exact H2_) | with_reducible exact H | (rw [hy137]; exact H) | exact H
     have Ny137 := Aside0.mk hy137
     clear hy137
     replace H := Option.bind_eq_some_iff.mp H
     obtain ⟨t140, A60, H⟩ := H
     replace H : (if t140 = true then (some true) else (warderref21_use.l0 k1 a1 (wrap64 (x5_1 + 1)) a0_0 l0_1 a0_2 a0_3 l0_4 a0_5 a0_6 a0_7 a0_8 a0_9 l0_10 l0_11 l0_12 l0_13 l0_14 a0_15)) = some r := H
     have A6 := Aside0.mk A60
     clear A60
     by_cases c7 : t140 = true
     ·subst c7
      have H1 : (some true) = some r := by rw [if_pos rfl] at H; exact H
      clear H
      have H := H1
      clear H1
      obtain rfl := Option.some.inj H
      have hcz8_0 : wr.cell? ⟨gb135, 0, none⟩ = some (.int .i64 a0_0) := (blk_cell BK135.out 0).trans rfl
      have hcz8_1 : wr.cell? ⟨gb135, 1, none⟩ = some (.slice A0_1 l0_1.length c0_1) := (blk_cell BK135.out 1).trans rfl
      have hcz8_2 : wr.cell? ⟨gb135, 2, none⟩ = some (.int .i64 a0_2) := (blk_cell BK135.out 2).trans rfl
      have hcz8_3 : wr.cell? ⟨gb135, 3, none⟩ = some (.int .i64 a0_3) := (blk_cell BK135.out 3).trans rfl
      have hcz8_4 : wr.cell? ⟨gb135, 4, none⟩ = some (.slice A0_4 l0_4.length c0_4) := (blk_cell BK135.out 4).trans rfl
      have hcz8_5 : wr.cell? ⟨gb135, 5, none⟩ = some (.int .i64 a0_5) := (blk_cell BK135.out 5).trans rfl
      have hcz8_6 : wr.cell? ⟨gb135, 6, none⟩ = some (.bool a0_6) := (blk_cell BK135.out 6).trans rfl
      have hcz8_7 : wr.cell? ⟨gb135, 7, none⟩ = some (.bool a0_7) := (blk_cell BK135.out 7).trans rfl
      have hcz8_8 : wr.cell? ⟨gb135, 8, none⟩ = some (.int .i64 a0_8) := (blk_cell BK135.out 8).trans rfl
      have hcz8_9 : wr.cell? ⟨gb135, 9, none⟩ = some (.int .u16 a0_9) := (blk_cell BK135.out 9).trans rfl
      have hcz8_10 : wr.cell? ⟨gb135, 10, none⟩ = some (.slice A0_10 l0_10.length c0_10) := (blk_cell BK135.out 10).trans rfl
      have hcz8_11 : wr.cell? ⟨gb135, 11, none⟩ = some (.slice A0_11 l0_11.length c0_11) := (blk_cell BK135.out 11).trans rfl
      have hcz8_12 : wr.cell? ⟨gb135, 12, none⟩ = some (.slice A0_12 l0_12.length c0_12) := (blk_cell BK135.out 12).trans rfl
      have hcz8_13 : wr.cell? ⟨gb135, 13, none⟩ = some (.slice A0_13 l0_13.length c0_13) := (blk_cell BK135.out 13).trans rfl
      have hcz8_14 : wr.cell? ⟨gb135, 14, none⟩ = some (.slice A0_14 l0_14.length c0_14) := (blk_cell BK135.out 14).trans rfl
      have hcz8_15 : wr.cell? ⟨gb135, 15, none⟩ = some (.int .i64 a0_15) := (blk_cell BK135.out 15).trans rfl
      have hfz8_0 := blk_frozen BK135.out 0
      have hfz8_1 := blk_frozen BK135.out 1
      have hfz8_2 := blk_frozen BK135.out 2
      have hfz8_3 := blk_frozen BK135.out 3
      have hfz8_4 := blk_frozen BK135.out 4
      have hfz8_5 := blk_frozen BK135.out 5
      have hfz8_6 := blk_frozen BK135.out 6
      have hfz8_7 := blk_frozen BK135.out 7
      have hfz8_8 := blk_frozen BK135.out 8
      have hfz8_9 := blk_frozen BK135.out 9
      have hfz8_10 := blk_frozen BK135.out 10
      have hfz8_11 := blk_frozen BK135.out 11
      have hfz8_12 := blk_frozen BK135.out 12
      have hfz8_13 := blk_frozen BK135.out 13
      have hfz8_14 := blk_frozen BK135.out 14
      have hfz8_15 := blk_frozen BK135.out 15
      have p136 : 0 ≤ (x5_1 : Int) := of_decide_eq_true (by first | (with_reducible assumption) | assumption)
      have q136 : x5_1 < (l0_10.length : Int) := of_decide_eq_true (by first | (with_reducible assumption) | assumption)
      obtain ⟨ad136, A136_0, c136_0, e136, hx136_0, hl136_0, hi136_0⟩ := at_L8 HR0_10.out x5_1 p136 q136
      cases e136
      replace hx136_0 := (HB.out.cell (World.block_lt_of_cell? w _ hx136_0)).trans hx136_0
      have HR136_0 := Aside0.mk hi136_0
      have HC136_0 := Aside0.mk hl136_0
      clear hi136_0 hl136_0
      replace p136 := eq_true p136
      replace q136 := eq_true q136
      go_wp2_with (first | ((with_reducible refine gate_dst (N := 21) rfl ?_); refine Kd.R_lit (Kd.int .i64) _ 3 ?hg (N := 21) ?hd (xs := ([1, 3, 6, 1, 5, 2, 3, a1] : List Int)) (inner := [.int .i64 1, .int .i64 3, .int .i64 6, .int .i64 1, .int .i64 5, .int .i64 2, .int .i64 3, .int .i64 a1]) (ok := fun _ => True) (okp := fun _ => True) ?hr ?hp (fun _ hk => hk) trivial (Below.refl _ _) (Nat.le_refl _) (by simp) ?_; (case hd => rfl); (case hg => rfl); (case hr => first | (go_simp; done) | (go_simp; rfl)); (case hp => exact (Reps.one (show Kd.M (Kd.int .i64) _ _ _ 1 [.int .i64 1] from rfl) (Reps.one (show Kd.M (Kd.int .i64) _ _ _ 3 [.int .i64 3] from rfl) (Reps.one (show Kd.M (Kd.int .i64) _ _ _ 6 [.int .i64 6] from rfl) (Reps.one (show Kd.M (Kd.int .i64) _ _ _ 1 [.int .i64 1] from rfl) (Reps.one (show Kd.M (Kd.int .i64) _ _ _ 5 [.int .i64 5] from rfl) (Reps.one (show Kd.M (Kd.int .i64) _ _ _ 2 [.int .i64 2] from rfl) (Reps.one (show Kd.M (Kd.int .i64) _ _ _ 3 [.int .i64 3] from rfl) (Reps.one (show Kd.M (Kd.int .i64) _ _ _ a1 [.int .i64 a1] from rfl) (Reps.none _ _)))))))))); intro v138 w9 ho10 hb hg_ hnew_; clear hg_ hnew_; (first | rw [← Ny137.out] at ho10 | (simp only [Int.reduceToNat] at ho10; rw [← Ny137.out] at ho10)); have n0_ := Aside0.mk (Kd.R_lower ho10 (below_size (by repeat (first | (with_reducible first | exact HB.out | apply below_alloc | apply pw_below_drewN | apply below_drew1 | refine below_set ?_ GE135.out) | exact HB.out)))); have n1_ := Aside0.mk (blk_below (g := gb135) (o := .cells #[.int .i64 a0_0, .slice A0_1 l0_1.length c0_1, .int .i64 a0_2, .int .i64 a0_3, .slice A0_4 l0_4.length c0_4, .int .i64 a0_5, .bool a0_6, .bool a0_7, .int .i64 a0_8, .int .u16 a0_9, .slice (some ad136) l0_10.length c0_10, .slice A0_11 l0_11.length c0_11, .slice A0_12 l0_12.length c0_12, .slice A0_13 l0_13.length c0_13, .slice A0_14 l0_14.length c0_14, .int .i64 a0_15] 57 (0, 0)) (by (with_reducible repeat (first | refine blk_drewN ?_ _ | refine blk_drew ?_ | refine blk_alloc ?_ _)); exact BK135.out) hb); have n2_ := Aside0.mk (below_step (by repeat (first | (with_reducible first | exact HB.out | apply below_alloc | apply pw_below_drewN | apply below_drew1 | refine below_set ?_ GE135.out) | exact HB.out)) hb); clear BK135; clear HB; have HO139 := n0_; have BK135 := n1_; have HB := n2_; clear n0_ n1_ n2_; clear hb ho10; obtain ⟨Ao11, co11, eo11⟩ := Kd.R_slice HO139.out; subst eo11) | ((with_reducible refine gate_callee (f := 54) rfl ?_); refine goesL_ (some 22) rfl rfl Try.func54 (by kernel_rfl) rfl #[.slice A136_0 (rd_L8 l0_10 x5_1).length c136_0, .slice Ao11 y137.length co11] rfl (by (try simp only [List.map_toArray, List.map_cons, List.map_nil]); first | done | rfl | (simp only [List.length_drop, List.length_take]; rfl)) ?_; (with_reducible refine (warderref02_Same.calls k1 _ _ (rd_L8 l0_10 x5_1) _ _ y137 true _ ?side1 ?side2 ?side3 ?side4 A6.out).mono ?_); (case side1 => repeat (first | exact (Kd.C_below HR136_0.out HB.out) | (with_reducible refine Kd.C_alloc ?_ _) | (with_reducible refine Kd.C_drewN ?_ _) | (with_reducible refine Kd.C_drew ?_))); (case side2 => exact HC136_0.out); (case side3 => repeat (first | exact (Kd.R_reads' HO139.out).2.2 | (with_reducible refine Kd.C_alloc ?_ _) | (with_reducible refine Kd.C_drewN ?_ _) | (with_reducible refine Kd.C_drew ?_))); (case side4 => exact (Kd.R_reads' HO139.out).2.1); rintro e w' ⟨rfl, ⟨nd, rfl⟩⟩; refine ⟨_, rfl, ?_⟩))
      go_ret
      exact ⟨by first | rfl | (simp [errW_none, errW_some] <;> rfl) | (simp [*, errW_none, errW_some] <;> rfl), by repeat (first | (with_reducible first | exact HB.out | apply below_alloc | apply pw_below_drewN | apply below_drew1 | refine below_set ?_ GE135.out) | exact HB.out)⟩
     ·replace c7 := Bool.eq_false_iff.mpr c7
      subst c7
      have H1 : (warderref21_use.l0 k1 a1 (wrap64 (x5_1 + 1)) a0_0 l0_1 a0_2 a0_3 l0_4 a0_5 a0_6 a0_7 a0_8 a0_9 l0_10 l0_11 l0_12 l0_13 l0_14 a0_15) = some r := by rw [if_neg (show ¬ (false = true) by decide)] at H; exact H
      clear H
      have H := H1
      clear H1
      have H' := Aside0.mk H
      clear H
      have hcz12_0 : wr.cell? ⟨gb135, 0, none⟩ = some (.int .i64 a0_0) := (blk_cell BK135.out 0).trans rfl
      have hcz12_1 : wr.cell? ⟨gb135, 1, none⟩ = some (.slice A0_1 l0_1.length c0_1) := (blk_cell BK135.out 1).trans rfl
      have hcz12_2 : wr.cell? ⟨gb135, 2, none⟩ = some (.int .i64 a0_2) := (blk_cell BK135.out 2).trans rfl
      have hcz12_3 : wr.cell? ⟨gb135, 3, none⟩ = some (.int .i64 a0_3) := (blk_cell BK135.out 3).trans rfl
      have hcz12_4 : wr.cell? ⟨gb135, 4, none⟩ = some (.slice A0_4 l0_4.length c0_4) := (blk_cell BK135.out 4).trans rfl
      have hcz12_5 : wr.cell? ⟨gb135, 5, none⟩ = some (.int .i64 a0_5) := (blk_cell BK135.out 5).trans rfl
      have hcz12_6 : wr.cell? ⟨gb135, 6, none⟩ = some (.bool a0_6) := (blk_cell BK135.out 6).trans rfl
      have hcz12_7 : wr.cell? ⟨gb135, 7, none⟩ = some (.bool a0_7) := (blk_cell BK135.out 7).trans rfl
      have hcz12_8 : wr.cell? ⟨gb135, 8, none⟩ = some (.int .i64 a0_8) := (blk_cell BK135.out 8).trans rfl
      have hcz12_9 : wr.cell? ⟨gb135, 9, none⟩ = some (.int .u16 a0_9) := (blk_cell BK135.out 9).trans rfl
      have hcz12_10 : wr.cell? ⟨gb135, 10, none⟩ = some (.slice A0_10 l0_10.length c0_10) := (blk_cell BK135.out 10).trans rfl
      have hcz12_11 : wr.cell? ⟨gb135, 11, none⟩ = some (.slice A0_11 l0_11.length c0_11) := (blk_cell BK135.out 11).trans rfl
      have hcz12_12 : wr.cell? ⟨gb135, 12, none⟩ = some (.slice A0_12 l0_12.length c0_12) := (blk_cell BK135.out 12).trans rfl
      have hcz12_13 : wr.cell? ⟨gb135, 13, none⟩ = some (.slice A0_13 l0_13.length c0_13) := (blk_cell BK135.out 13).trans rfl
      have hcz12_14 : wr.cell? ⟨gb135, 14, none⟩ = some (.slice A0_14 l0_14.length c0_14) := (blk_cell BK135.out 14).trans rfl
      have hcz12_15 : wr.cell? ⟨gb135, 15, none⟩ = some (.int .i64 a0_15) := (blk_cell BK135.out 15).trans rfl
      have hfz12_0 := blk_frozen BK135.out 0
      have hfz12_1 := blk_frozen BK135.out 1
      have hfz12_2 := blk_frozen BK135.out 2
      have hfz12_3 := blk_frozen BK135.out 3
      have hfz12_4 := blk_frozen BK135.out 4
      have hfz12_5 := blk_frozen BK135.out 5
      have hfz12_6 := blk_frozen BK135.out 6
      have hfz12_7 := blk_frozen BK135.out 7
      have hfz12_8 := blk_frozen BK135.out 8
      have hfz12_9 := blk_frozen BK135.out 9
      have hfz12_10 := blk_frozen BK135.out 10
      have hfz12_11 := blk_frozen BK135.out 11
      have hfz12_12 := blk_frozen BK135.out 12
      have hfz12_13 := blk_frozen BK135.out 13
      have hfz12_14 := blk_frozen BK135.out 14
      have hfz12_15 := blk_frozen BK135.out 15
      have p136 : 0 ≤ (x5_1 : Int) := of_decide_eq_true (by first | (with_reducible assumption) | assumption)
      have q136 : x5_1 < (l0_10.length : Int) := of_decide_eq_true (by first | (with_reducible assumption) | assumption)
      obtain ⟨ad136, A136_0, c136_0, e136, hx136_0, hl136_0, hi136_0⟩ := at_L8 HR0_10.out x5_1 p136 q136
      cases e136
      replace hx136_0 := (HB.out.cell (World.block_lt_of_cell? w _ hx136_0)).trans hx136_0
      have HR136_0 := Aside0.mk hi136_0
      have HC136_0 := Aside0.mk hl136_0
      clear hi136_0 hl136_0
      replace p136 := eq_true p136
      replace q136 := eq_true q136
      go_wp2_with (first | ((with_reducible refine gate_dst (N := 21) rfl ?_); refine Kd.R_lit (Kd.int .i64) _ 3 ?hg (N := 21) ?hd (xs := ([1, 3, 6, 1, 5, 2, 3, a1] : List Int)) (inner := [.int .i64 1, .int .i64 3, .int .i64 6, .int .i64 1, .int .i64 5, .int .i64 2, .int .i64 3, .int .i64 a1]) (ok := fun _ => True) (okp := fun _ => True) ?hr ?hp (fun _ hk => hk) trivial (Below.refl _ _) (Nat.le_refl _) (by simp) ?_; (case hd => rfl); (case hg => rfl); (case hr => first | (go_simp; done) | (go_simp; rfl)); (case hp => exact (Reps.one (show Kd.M (Kd.int .i64) _ _ _ 1 [.int .i64 1] from rfl) (Reps.one (show Kd.M (Kd.int .i64) _ _ _ 3 [.int .i64 3] from rfl) (Reps.one (show Kd.M (Kd.int .i64) _ _ _ 6 [.int .i64 6] from rfl) (Reps.one (show Kd.M (Kd.int .i64) _ _ _ 1 [.int .i64 1] from rfl) (Reps.one (show Kd.M (Kd.int .i64) _ _ _ 5 [.int .i64 5] from rfl) (Reps.one (show Kd.M (Kd.int .i64) _ _ _ 2 [.int .i64 2] from rfl) (Reps.one (show Kd.M (Kd.int .i64) _ _ _ 3 [.int .i64 3] from rfl) (Reps.one (show Kd.M (Kd.int .i64) _ _ _ a1 [.int .i64 a1] from rfl) (Reps.none _ _)))))))))); intro v138 w13 ho14 hb hg_ hnew_; clear hg_ hnew_; (first | rw [← Ny137.out] at ho14 | (simp only [Int.reduceToNat] at ho14; rw [← Ny137.out] at ho14)); have n0_ := Aside0.mk (Kd.R_lower ho14 (below_size (by repeat (first | (with_reducible first | exact HB.out | apply below_alloc | apply pw_below_drewN | apply below_drew1 | refine below_set ?_ GE135.out) | exact HB.out)))); have n1_ := Aside0.mk (blk_below (g := gb135) (o := .cells #[.int .i64 a0_0, .slice A0_1 l0_1.length c0_1, .int .i64 a0_2, .int .i64 a0_3, .slice A0_4 l0_4.length c0_4, .int .i64 a0_5, .bool a0_6, .bool a0_7, .int .i64 a0_8, .int .u16 a0_9, .slice (some ad136) l0_10.length c0_10, .slice A0_11 l0_11.length c0_11, .slice A0_12 l0_12.length c0_12, .slice A0_13 l0_13.length c0_13, .slice A0_14 l0_14.length c0_14, .int .i64 a0_15] 57 (0, 0)) (by (with_reducible repeat (first | refine blk_drewN ?_ _ | refine blk_drew ?_ | refine blk_alloc ?_ _)); exact BK135.out) hb); have n2_ := Aside0.mk (below_step (by repeat (first | (with_reducible first | exact HB.out | apply below_alloc | apply pw_below_drewN | apply below_drew1 | refine below_set ?_ GE135.out) | exact HB.out)) hb); clear BK135; clear HB; have HO139 := n0_; have BK135 := n1_; have HB := n2_; clear n0_ n1_ n2_; clear hb ho14; obtain ⟨Ao15, co15, eo15⟩ := Kd.R_slice HO139.out; subst eo15) | ((with_reducible refine gate_callee (f := 54) rfl ?_); refine goesL_ (some 22) rfl rfl Try.func54 (by kernel_rfl) rfl #[.slice A136_0 (rd_L8 l0_10 x5_1).length c136_0, .slice Ao15 y137.length co15] rfl (by (try simp only [List.map_toArray, List.map_cons, List.map_nil]); first | done | rfl | (simp only [List.length_drop, List.length_take]; rfl)) ?_; (with_reducible refine (warderref02_Same.calls k1 _ _ (rd_L8 l0_10 x5_1) _ _ y137 false _ ?side1 ?side2 ?side3 ?side4 A6.out).mono ?_); (case side1 => repeat (first | exact (Kd.C_below HR136_0.out HB.out) | (with_reducible refine Kd.C_alloc ?_ _) | (with_reducible refine Kd.C_drewN ?_ _) | (with_reducible refine Kd.C_drew ?_))); (case side2 => exact HC136_0.out); (case side3 => repeat (first | exact (Kd.R_reads' HO139.out).2.2 | (with_reducible refine Kd.C_alloc ?_ _) | (with_reducible refine Kd.C_drewN ?_ _) | (with_reducible refine Kd.C_drew ?_))); (case side4 => exact (Kd.R_reads' HO139.out).2.1); rintro e w' ⟨rfl, ⟨nd, rfl⟩⟩; refine ⟨_, rfl, ?_⟩))
      go_roundg k1
      case measure => have := HK1.out; omega
      case rel => exact ⟨(wrap64 (x5_1 + 1)), (by first | rfl | (simp; done) | (simp [*]; done)), H', ⟨by have := HK1.out; omega⟩, ⟨by (with_reducible repeat (first | refine blk_drewN ?_ _ | refine blk_drew ?_ | refine blk_alloc ?_ _)); exact BK135.out⟩, ⟨by repeat (first | (with_reducible first | exact HB.out | apply below_alloc | apply pw_below_drewN | apply below_drew1 | refine below_set ?_ GE135.out) | exact HB.out)⟩⟩
    ·rw [if_neg c5] at H
     exact absurd H (by simp)
   ·rw [if_neg c4] at H
    have c4b0 : decide (x5_1 < (l0_10.length : Int)) = false := decide_eq_false c4
    clear c4
    obtain rfl := Option.some.inj H
    have hcz16_0 : wr.cell? ⟨gb135, 0, none⟩ = some (.int .i64 a0_0) := (blk_cell BK135.out 0).trans rfl
    have hcz16_1 : wr.cell? ⟨gb135, 1, none⟩ = some (.slice A0_1 l0_1.length c0_1) := (blk_cell BK135.out 1).trans rfl
    have hcz16_2 : wr.cell? ⟨gb135, 2, none⟩ = some (.int .i64 a0_2) := (blk_cell BK135.out 2).trans rfl
    have hcz16_3 : wr.cell? ⟨gb135, 3, none⟩ = some (.int .i64 a0_3) := (blk_cell BK135.out 3).trans rfl
    have hcz16_4 : wr.cell? ⟨gb135, 4, none⟩ = some (.slice A0_4 l0_4.length c0_4) := (blk_cell BK135.out 4).trans rfl
    have hcz16_5 : wr.cell? ⟨gb135, 5, none⟩ = some (.int .i64 a0_5) := (blk_cell BK135.out 5).trans rfl
    have hcz16_6 : wr.cell? ⟨gb135, 6, none⟩ = some (.bool a0_6) := (blk_cell BK135.out 6).trans rfl
    have hcz16_7 : wr.cell? ⟨gb135, 7, none⟩ = some (.bool a0_7) := (blk_cell BK135.out 7).trans rfl
    have hcz16_8 : wr.cell? ⟨gb135, 8, none⟩ = some (.int .i64 a0_8) := (blk_cell BK135.out 8).trans rfl
    have hcz16_9 : wr.cell? ⟨gb135, 9, none⟩ = some (.int .u16 a0_9) := (blk_cell BK135.out 9).trans rfl
    have hcz16_10 : wr.cell? ⟨gb135, 10, none⟩ = some (.slice A0_10 l0_10.length c0_10) := (blk_cell BK135.out 10).trans rfl
    have hcz16_11 : wr.cell? ⟨gb135, 11, none⟩ = some (.slice A0_11 l0_11.length c0_11) := (blk_cell BK135.out 11).trans rfl
    have hcz16_12 : wr.cell? ⟨gb135, 12, none⟩ = some (.slice A0_12 l0_12.length c0_12) := (blk_cell BK135.out 12).trans rfl
    have hcz16_13 : wr.cell? ⟨gb135, 13, none⟩ = some (.slice A0_13 l0_13.length c0_13) := (blk_cell BK135.out 13).trans rfl
    have hcz16_14 : wr.cell? ⟨gb135, 14, none⟩ = some (.slice A0_14 l0_14.length c0_14) := (blk_cell BK135.out 14).trans rfl
    have hcz16_15 : wr.cell? ⟨gb135, 15, none⟩ = some (.int .i64 a0_15) := (blk_cell BK135.out 15).trans rfl
    have hfz16_0 := blk_frozen BK135.out 0
    have hfz16_1 := blk_frozen BK135.out 1
    have hfz16_2 := blk_frozen BK135.out 2
    have hfz16_3 := blk_frozen BK135.out 3
    have hfz16_4 := blk_frozen BK135.out 4
    have hfz16_5 := blk_frozen BK135.out 5
    have hfz16_6 := blk_frozen BK135.out 6
    have hfz16_7 := blk_frozen BK135.out 7
    have hfz16_8 := blk_frozen BK135.out 8
    have hfz16_9 := blk_frozen BK135.out 9
    have hfz16_10 := blk_frozen BK135.out 10
    have hfz16_11 := blk_frozen BK135.out 11
    have hfz16_12 := blk_frozen BK135.out 12
    have hfz16_13 := blk_frozen BK135.out 13
    have hfz16_14 := blk_frozen BK135.out 14
    have hfz16_15 := blk_frozen BK135.out 15
    go_wp2
    go_ret
    exact ⟨by first | rfl | (simp [errW_none, errW_some] <;> rfl) | (simp [*, errW_none, errW_some] <;> rfl), by repeat (first | (with_reducible first | exact HB.out | apply below_alloc | apply pw_below_drewN | apply below_drew1 | refine below_set ?_ GE135.out) | exact HB.out)⟩

end Go.Proofs.Ytalcfnhcenpniaa.XT
