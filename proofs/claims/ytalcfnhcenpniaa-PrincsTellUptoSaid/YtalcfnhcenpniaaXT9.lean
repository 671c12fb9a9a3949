-- printed by wip/xprint.py (a scratch copy of the kit's print, with contracts by hand)
import Derived.Test.YtalcfnhcenpniaaXT0
import Derived.Test.YtalcfnhcenpniaaXT5
import Derived.Test.YtalcfnhcenpniaaXT7
import Derived.Test.YtalcfnhcenpniaaXT8
namespace Go.Proofs.Ytalcfnhcenpniaa.XT
open Go.RowKit Go.Proofs.YtalcfnhcenpniaaW.PrintWords Go.Proofs.YtalcfnhcenpniaaW.PrintLast Go.Proofs.YtalcfnhcenpniaaW.PrintMore
attribute [local go_sem] max2_int min2_int max_two min_two max_three min_three max_four min_four   -- for this text's walks alone
set_option linter.unusedVariables false
set_option linter.unusedSimpArgs false

/-! ### warderref21_Whose: function 22 -/
mutual
def warderref21_Whose.l0 : Nat → List (S65) → List (S45) → Int → Int → List (S35) → Int → Int → List (S35) → Int → Bool → Bool → Int → Int → List (List Int) → List (S43) → List (List (S35)) → List (List (S35)) → List (S134) → Int → Option (ByteArray × List ByteArray × Int)
 | 0, _, _, _, _, _, _, _, _, _, _, _, _, _, _, _, _, _, _, _ => none
 | k + 1, x0, x1, x8, x142000, x142001, x142002, x142003, x142004, x142005, x142006, x142007, x142008, x142009, x142010, x142011, x142012, x142013, x142014, x142015 => if x8 < (x0.length : Int) then (if 0 ≤ x8 then ((warderref09_Same.f k ((rd_T65 x0 x8).f0) x142004).bind fun t144 => (if t144 = true then ((warderref09_Same.f k ((rd_T65 x0 x8).f1) x142001).bind fun t146 => (if t146 = true then (some ((rd_T65 x0 x8).f2.f0, (rd_T65 x0 x8).f2.f1, 0)) else (warderref21_Whose.l0 k x0 x1 (wrap64 (x8 + 1)) x142000 x142001 x142002 x142003 x142004 x142005 x142006 x142007 x142008 x142009 x142010 x142011 x142012 x142013 x142014 x142015))) else (warderref21_Whose.l0 k x0 x1 (wrap64 (x8 + 1)) x142000 x142001 x142002 x142003 x142004 x142005 x142006 x142007 x142008 x142009 x142010 x142011 x142012 x142013 x142014 x142015))) else (none)) else ((warderref21_use.f k x142000 x142001 x142002 x142003 x142004 x142005 x142006 x142007 x142008 x142009 x142010 x142011 x142012 x142013 x142014 x142015 4).bind fun t148 => (warderref21_Whose.l1 k x1 t148 0 x142000 x142001 x142002 x142003 x142004 x142005 x142006 x142007 x142008 x142009 x142010 x142011 x142012 x142013 x142014 x142015))
def warderref21_Whose.l1 : Nat → List (S45) → Bool → Int → Int → List (S35) → Int → Int → List (S35) → Int → Bool → Bool → Int → Int → List (List Int) → List (S43) → List (List (S35)) → List (List (S35)) → List (S134) → Int → Option (ByteArray × List ByteArray × Int)
 | 0, _, _, _, _, _, _, _, _, _, _, _, _, _, _, _, _, _, _, _ => none
 | k + 1, x1, x10, x11, x142000, x142001, x142002, x142003, x142004, x142005, x142006, x142007, x142008, x142009, x142010, x142011, x142012, x142013, x142014, x142015 => if x11 < (x142011.length : Int) then (warderref21_Whose.j2 k x1 x10 x11 x10 x142000 x142001 x142002 x142003 x142004 x142005 x142006 x142007 x142008 x142009 x142010 x142011 x142012 x142013 x142014 x142015) else (warderref21_Whose.j2 k x1 x10 x11 false x142000 x142001 x142002 x142003 x142004 x142005 x142006 x142007 x142008 x142009 x142010 x142011 x142012 x142013 x142014 x142015)
def warderref21_Whose.j2 : Nat → List (S45) → Bool → Int → Bool → Int → List (S35) → Int → Int → List (S35) → Int → Bool → Bool → Int → Int → List (List Int) → List (S43) → List (List (S35)) → List (List (S35)) → List (S134) → Int → Option (ByteArray × List ByteArray × Int)
 | 0, _, _, _, _, _, _, _, _, _, _, _, _, _, _, _, _, _, _, _, _ => none
 | k + 1, x1, x10, x11, x54, x142000, x142001, x142002, x142003, x142004, x142005, x142006, x142007, x142008, x142009, x142010, x142011, x142012, x142013, x142014, x142015 => if x54 = true then (if 0 ≤ x11 then (if x11 < (x142011.length : Int) then ((warderref21_Lookup.f k x1 ((rd_T43 x142011 x11).f0) ((rd_T43 x142011 x11).f1)).bind fun bt150 => (if bt150.2 = true then (some ((rd_T43 x142011 x11).f0, (rd_T43 x142011 x11).f1, 0)) else (warderref21_Whose.l1 k x1 x10 (wrap64 (x11 + 1)) x142000 x142001 x142002 x142003 x142004 x142005 x142006 x142007 x142008 x142009 x142010 x142011 x142012 x142013 x142014 x142015))) else (none)) else (none)) else (some ((⟨#[]⟩ : ByteArray), ([] : List ByteArray), 211))
end
def warderref21_Whose.f (k : Nat) (l0 : List (S65)) (l1 : List (S45)) (a2_0 : Int) (l2_1 : List (S35)) (a2_2 : Int) (a2_3 : Int) (l2_4 : List (S35)) (a2_5 : Int) (a2_6 : Bool) (a2_7 : Bool) (a2_8 : Int) (a2_9 : Int) (l2_10 : List (List Int)) (l2_11 : List (S43)) (l2_12 : List (List (S35))) (l2_13 : List (List (S35))) (l2_14 : List (S134)) (a2_15 : Int) : Option (ByteArray × List ByteArray × Int) := warderref21_Whose.l0 k l0 l1 0 a2_0 l2_1 a2_2 a2_3 l2_4 a2_5 a2_6 a2_7 a2_8 a2_9 l2_10 l2_11 l2_12 l2_13 l2_14 a2_15
def warderref21_Whose.T4 : Bool × List (List Nat × List Nat) := (true, [([], []), ([], []), ([0, 1], [0, 1]), ([2], [2]), ([3], [3]), ([], []), ([5], [5]), ([4, 6], [4, 6]), ([7, 7, 0, 1, 2, 3, 4, 5, 6, 7], [7])])
def warderref21_Whose.B4 : List Nat := [0, 0, 3, 7, 15, 0, 32, 127, 255]
theorem warderref21_Whose.tab4 : rtab .any (opsOf Try.f22 4) = warderref21_Whose.T4 := by kernel_rfl
theorem warderref21_Whose.bits4 : waitsOk warderref21_Whose.T4.2 warderref21_Whose.B4 = true := by kernel_rfl
def warderref21_Whose.T5 : Bool × List (List Nat × List Nat) := (true, [([], []), ([0], [0]), ([1], [1]), ([1], [1]), ([2, 3, 1], [1, 2, 3]), ([4, 1], [1, 4]), ([5, 1], [1, 5]), ([1], [1]), ([7, 1], [1, 7]), ([6, 8, 1, 1], [1, 6, 8]), ([1, 9], [1, 9])])
def warderref21_Whose.B5 : List Nat := [0, 1, 3, 3, 15, 31, 63, 3, 131, 511, 1023]
theorem warderref21_Whose.tab5 : rtab .any (opsOf Try.f22 5) = warderref21_Whose.T5 := by kernel_rfl
theorem warderref21_Whose.bits5 : waitsOk warderref21_Whose.T5.2 warderref21_Whose.B5 = true := by kernel_rfl
set_option maxHeartbeats 8000000 in
set_option maxRecDepth 100000 in
theorem warderref21_Whose.calls (k : Nat) (P0_ : Nat → Prop) (A0 : Option Addr) (c0 : Nat) (l0 : List (S65)) (A1 : Option Addr) (c1 : Nat) (l1 : List (S45)) (a2_0 : Int) (A2_1 : Option Addr) (c2_1 : Nat) (l2_1 : List (S35)) (a2_2 : Int) (a2_3 : Int) (A2_4 : Option Addr) (c2_4 : Nat) (l2_4 : List (S35)) (a2_5 : Int) (a2_6 : Bool) (a2_7 : Bool) (a2_8 : Int) (a2_9 : Int) (A2_10 : Option Addr) (c2_10 : Nat) (l2_10 : List (List Int)) (P2_11_ : Nat → Prop) (A2_11 : Option Addr) (c2_11 : Nat) (l2_11 : List (S43)) (A2_12 : Option Addr) (c2_12 : Nat) (l2_12 : List (List (S35))) (A2_13 : Option Addr) (c2_13 : Nat) (l2_13 : List (List (S35))) (A2_14 : Option Addr) (c2_14 : Nat) (l2_14 : List (S134)) (a2_15 : Int) (r1 : ByteArray) (r2 : List ByteArray) (r3 : Int) (w : World) (hs0 : Kd.V k65 65 w w.heap.size (fun k_ => P0_ k_) (.slice A0 l0.length c0) l0) (hr1 : Kd.C k45 w A1 l1.length l1) (hc1 : l1.length ≤ c1) (hr2_1 : Kd.C k35 w A2_1 l2_1.length l2_1) (hc2_1 : l2_1.length ≤ c2_1) (hr2_4 : Kd.C k35 w A2_4 l2_4.length l2_4) (hc2_4 : l2_4.length ≤ c2_4) (hr2_10 : Kd.C (Kd.slice 3 (Kd.int .i64)) w A2_10 l2_10.length l2_10) (hc2_10 : l2_10.length ≤ c2_10) (hs2_11 : Kd.V k43 43 w w.heap.size (fun k_ => P2_11_ k_) (.slice A2_11 l2_11.length c2_11) l2_11) (hr2_12 : Kd.C (Kd.slice 35 k35) w A2_12 l2_12.length l2_12) (hc2_12 : l2_12.length ≤ c2_12) (hr2_13 : Kd.C (Kd.slice 35 k35) w A2_13 l2_13.length l2_13) (hc2_13 : l2_13.length ≤ c2_13) (hr2_14 : Kd.C k134 w A2_14 l2_14.length l2_14) (hc2_14 : l2_14.length ≤ c2_14) (h : warderref21_Whose.f k l0 l1 a2_0 l2_1 a2_2 a2_3 l2_4 a2_5 a2_6 a2_7 a2_8 a2_9 l2_10 l2_11 l2_12 l2_13 l2_14 a2_15 = some (r1, r2, r3)) :
  Calls Try.prog 22 #[.slice A0 l0.length c0, .slice A1 l1.length c1, .agg #[.int .i64 a2_0, .slice A2_1 l2_1.length c2_1, .int .i64 a2_2, .int .i64 a2_3, .slice A2_4 l2_4.length c2_4, .int .i64 a2_5, .bool a2_6, .bool a2_7, .int .i64 a2_8, .int .u16 a2_9, .slice A2_10 l2_10.length c2_10, .slice A2_11 l2_11.length c2_11, .slice A2_12 l2_12.length c2_12, .slice A2_13 l2_13.length c2_13, .slice A2_14 l2_14.length c2_14, .int .i64 a2_15]] w fun e w' => ∃ v1_ : Value, e = .returned (.tuple #[.agg #[.string r1, v1_], .int .i64 r3]) ∧ Kd.V Kd.string 9 w' w.heap.size (fun k_ => ((P0_ k_ ∨ P2_11_ k_) ∨ w.heap.size ≤ k_)) v1_ r2 ∧ Below w.heap.size w w' := by
 have hu57 := Try.underlying57
 have hu43 := Try.underlying43
 have HO0 := Aside0.mk (show Kd.V k65 65 w w.heap.size (fun k_ => ((P0_ k_ ∨ P2_11_ k_) ∨ w.heap.size ≤ k_)) (.slice A0 l0.length c0) l0 from Kd.V_mono hs0 (fun k_ hk => .inl (.inl hk)))
 have HR1 := Aside0.mk hr1
 have HC1 := Aside0.mk hc1
 clear hr1 hc1
 have HR2_1 := Aside0.mk hr2_1
 have HC2_1 := Aside0.mk hc2_1
 clear hr2_1 hc2_1
 have HR2_4 := Aside0.mk hr2_4
 have HC2_4 := Aside0.mk hc2_4
 clear hr2_4 hc2_4
 have HR2_10 := Aside0.mk hr2_10
 have HC2_10 := Aside0.mk hc2_10
 clear hr2_10 hc2_10
 have HO2_11 := Aside0.mk (show Kd.V k43 43 w w.heap.size (fun k_ => ((P0_ k_ ∨ P2_11_ k_) ∨ w.heap.size ≤ k_)) (.slice A2_11 l2_11.length c2_11) l2_11 from Kd.V_mono hs2_11 (fun k_ hk => .inl (.inr hk)))
 have HR2_12 := Aside0.mk hr2_12
 have HC2_12 := Aside0.mk hc2_12
 clear hr2_12 hc2_12
 have HR2_13 := Aside0.mk hr2_13
 have HC2_13 := Aside0.mk hc2_13
 clear hr2_13 hc2_13
 have HR2_14 := Aside0.mk hr2_14
 have HC2_14 := Aside0.mk hc2_14
 clear hr2_14 hc2_14
 have HB := Aside0.mk (Below.refl w.heap.size w)
 have H : (warderref21_Whose.l0 k l0 l1 0 a2_0 l2_1 a2_2 a2_3 l2_4 a2_5 a2_6 a2_7 a2_8 a2_9 l2_10 l2_11 l2_12 l2_13 l2_14 a2_15) = some (r1, r2, r3) := h
 clear h
 have H' := Aside0.mk H
 clear H
 go_enter Try.func22, Try.ntmps22
 go_wp2_with (first | ((with_reducible refine gate_dst (N := 5) rfl ?_); refine box_event ?hg (N := 5) ?hd (cs := #[.int .i64 a2_0, .slice A2_1 l2_1.length c2_1, .int .i64 a2_2, .int .i64 a2_3, .slice A2_4 l2_4.length c2_4, .int .i64 a2_5, .bool a2_6, .bool a2_7, .int .i64 a2_8, .int .u16 a2_9, .slice A2_10 l2_10.length c2_10, .slice A2_11 l2_11.length c2_11, .slice A2_12 l2_12.length c2_12, .slice A2_13 l2_13.length c2_13, .slice A2_14 l2_14.length c2_14, .int .i64 a2_15]) (t := 57) ?hr ?_; (case hd => rfl); (case hg => rfl); (case hr => first | (go_simp; done) | (go_simp; rfl)); intro gb141 hg w4 hbox hb; have n0_ := Aside0.mk (Kd.V_below (Kd.V_elderB (by (with_reducible repeat (first | apply Kd.V_alloc | apply Kd.V_drewN | apply Kd.V_drew)); exact HO0.out) gb141 (Nat.le_of_eq hg.symm)) hb); have n1_ := Aside0.mk (Kd.V_below (Kd.V_elderB (by (with_reducible repeat (first | apply Kd.V_alloc | apply Kd.V_drewN | apply Kd.V_drew)); exact HO2_11.out) gb141 (Nat.le_of_eq hg.symm)) hb); have n2_ := Aside0.mk (below_step (by repeat (first | (with_reducible first | exact HB.out | apply below_alloc | apply pw_below_drewN | apply below_drew1) | exact HB.out)) hb); have n3_ := Aside0.mk (hbox); have n4_ := Aside0.mk ((by rw [hg]; exact (below_size (by repeat (first | (with_reducible first | exact HB.out | apply below_alloc | apply pw_below_drewN | apply below_drew1) | exact HB.out))) : w.heap.size ≤ gb141)); have n5_ := Aside0.mk ((by rw [hg]; exact (below_size (by repeat (first | (with_reducible first | exact HB.out | apply below_alloc | apply pw_below_drewN | apply below_drew1) | exact HB.out))) : w.heap.size ≤ gb141)); clear HO0; clear HO2_11; clear HB; have HO0 := n0_; have HO2_11 := n1_; have HB := n2_; have BK141 := n3_; have GW141 := n4_; have GE141 := n5_; clear n0_ n1_ n2_ n3_ n4_ n5_; clear hb hbox hg) | ((with_reducible refine gate_dst (N := 6) rfl ?_); refine box_event ?hg (N := 6) ?hd (cs := #[.string (⟨#[]⟩ : ByteArray), .slice none 0 0]) (t := 43) ?hr ?_; (case hd => rfl); (case hg => rfl); (case hr => first | (go_simp; done) | (go_simp; rfl)); intro gb142 hg w5 hbox hb; have n0_ := Aside0.mk (Kd.V_below (Kd.V_elderB (by (with_reducible repeat (first | apply Kd.V_alloc | apply Kd.V_drewN | apply Kd.V_drew)); exact HO0.out) gb142 (Nat.le_of_eq hg.symm)) hb); have n1_ := Aside0.mk (Kd.V_below (Kd.V_elderB (by (with_reducible repeat (first | apply Kd.V_alloc | apply Kd.V_drewN | apply Kd.V_drew)); exact HO2_11.out) gb142 (Nat.le_of_eq hg.symm)) hb); have n2_ := Aside0.mk (blk_below (g := gb141) (o := .cells #[.int .i64 a2_0, .slice A2_1 l2_1.length c2_1, .int .i64 a2_2, .int .i64 a2_3, .slice A2_4 l2_4.length c2_4, .int .i64 a2_5, .bool a2_6, .bool a2_7, .int .i64 a2_8, .int .u16 a2_9, .slice A2_10 l2_10.length c2_10, .slice A2_11 l2_11.length c2_11, .slice A2_12 l2_12.length c2_12, .slice A2_13 l2_13.length c2_13, .slice A2_14 l2_14.length c2_14, .int .i64 a2_15] 57 (0, 0)) (by (with_reducible repeat (first | refine blk_drewN ?_ _ | refine blk_drew ?_ | refine blk_alloc ?_ _)); exact BK141.out) hb); have n3_ := Aside0.mk (below_step (by repeat (first | (with_reducible first | exact HB.out | apply below_alloc | apply pw_below_drewN | apply below_drew1 | refine below_set ?_ GE141.out) | exact HB.out)) hb); have n4_ := Aside0.mk (hbox); have n5_ := Aside0.mk ((by rw [hg]; exact (below_size (by repeat (first | (with_reducible first | exact HB.out | apply below_alloc | apply pw_below_drewN | apply below_drew1 | refine below_set ?_ GE141.out) | exact HB.out))) : w.heap.size ≤ gb142)); have n6_ := Aside0.mk ((by rw [hg]; exact (below_size (by repeat (first | (with_reducible first | exact HB.out | apply below_alloc | apply pw_below_drewN | apply below_drew1 | refine below_set ?_ GE141.out) | exact HB.out))) : w.heap.size ≤ gb142)); have n7_ := Aside0.mk ((by rw [hg]; exact Nat.ne_of_lt (blk_lt (g := gb141) (o := .cells #[.int .i64 a2_0, .slice A2_1 l2_1.length c2_1, .int .i64 a2_2, .int .i64 a2_3, .slice A2_4 l2_4.length c2_4, .int .i64 a2_5, .bool a2_6, .bool a2_7, .int .i64 a2_8, .int .u16 a2_9, .slice A2_10 l2_10.length c2_10, .slice A2_11 l2_11.length c2_11, .slice A2_12 l2_12.length c2_12, .slice A2_13 l2_13.length c2_13, .slice A2_14 l2_14.length c2_14, .int .i64 a2_15] 57 (0, 0)) (by (with_reducible repeat (first | refine blk_drewN ?_ _ | refine blk_drew ?_ | refine blk_alloc ?_ _)); exact BK141.out)) : gb141 ≠ gb142)); have n8_ := Aside0.mk ((by rw [hg]; exact Nat.ne_of_gt (blk_lt (g := gb141) (o := .cells #[.int .i64 a2_0, .slice A2_1 l2_1.length c2_1, .int .i64 a2_2, .int .i64 a2_3, .slice A2_4 l2_4.length c2_4, .int .i64 a2_5, .bool a2_6, .bool a2_7, .int .i64 a2_8, .int .u16 a2_9, .slice A2_10 l2_10.length c2_10, .slice A2_11 l2_11.length c2_11, .slice A2_12 l2_12.length c2_12, .slice A2_13 l2_13.length c2_13, .slice A2_14 l2_14.length c2_14, .int .i64 a2_15] 57 (0, 0)) (by (with_reducible repeat (first | refine blk_drewN ?_ _ | refine blk_drew ?_ | refine blk_alloc ?_ _)); exact BK141.out)) : gb142 ≠ gb141)); clear HO0; clear HO2_11; clear BK141; clear HB; have HO0 := n0_; have HO2_11 := n1_; have BK141 := n2_; have HB := n3_; have BK142 := n4_; have GW142 := n5_; have GE142 := n6_; have NB141_142 := n7_; have NB142_141 := n8_; clear n0_ n1_ n2_ n3_ n4_ n5_ n6_ n7_ n8_; clear hb hbox hg))
 go_loopg [8] k (fun kq v8 w' => ∃ (x8_1 : Int) (x143000_1 : ByteArray), v8 = .int .i64 x8_1 ∧ Aside0 (warderref21_Whose.l0 kq l0 l1 x8_1 a2_0 l2_1 a2_2 a2_3 l2_4 a2_5 a2_6 a2_7 a2_8 a2_9 l2_10 l2_11 l2_12 l2_13 l2_14 a2_15 = some (r1, r2, r3)) ∧ Aside0 (kq ≤ k) ∧ Aside0 (Kd.V k65 65 w' w.heap.size (fun k_ => ((P0_ k_ ∨ P2_11_ k_) ∨ w.heap.size ≤ k_) ∧ k_ ≠ gb141 ∧ k_ ≠ gb142) (.slice A0 l0.length c0) l0) ∧ Aside0 (Kd.V k43 43 w' w.heap.size (fun k_ => ((P0_ k_ ∨ P2_11_ k_) ∨ w.heap.size ≤ k_) ∧ k_ ≠ gb141 ∧ k_ ≠ gb142) (.slice A2_11 l2_11.length c2_11) l2_11) ∧ Aside0 (w'.heap[gb141]? = some (.cells #[.int .i64 a2_0, (.slice A2_1 l2_1.length c2_1), .int .i64 a2_2, .int .i64 a2_3, (.slice A2_4 l2_4.length c2_4), .int .i64 a2_5, .bool a2_6, .bool a2_7, .int .i64 a2_8, .int .u16 a2_9, (.slice A2_10 l2_10.length c2_10), (.slice A2_11 l2_11.length c2_11), (.slice A2_12 l2_12.length c2_12), (.slice A2_13 l2_13.length c2_13), (.slice A2_14 l2_14.length c2_14), .int .i64 a2_15] 57 (0, 0))) ∧ Aside0 (w'.heap[gb142]? = some (.cells #[.string x143000_1, (.slice none 0 0)] 43 (0, 0))) ∧ Aside0 (Below w.heap.size w w'))
 case atStart => exact ⟨(0), ((⟨#[]⟩ : ByteArray)), (by first | rfl | (simp; done) | (simp [*]; done)), H', ⟨Nat.le_refl _⟩, ⟨by (with_reducible repeat (first | apply Kd.V_alloc | apply Kd.V_drewN | apply Kd.V_drew)); exact Kd.V_mono HO0.out (fun _ hk => ⟨hk.1.1, ⟨hk.1.2, hk.2⟩⟩)⟩, ⟨by (with_reducible repeat (first | apply Kd.V_alloc | apply Kd.V_drewN | apply Kd.V_drew)); exact Kd.V_mono HO2_11.out (fun _ hk => ⟨hk.1.1, ⟨hk.1.2, hk.2⟩⟩)⟩, ⟨by (with_reducible repeat (first | refine blk_drewN ?_ _ | refine blk_drew ?_ | refine blk_alloc ?_ _)); exact BK141.out⟩, ⟨by (with_reducible repeat (first | refine blk_drewN ?_ _ | refine blk_drew ?_ | refine blk_alloc ?_ _)); exact BK142.out⟩, ⟨by repeat (first | (with_reducible first | exact HB.out | apply below_alloc | apply pw_below_drewN | apply below_drew1 | refine below_set ?_ GE141.out | refine below_set ?_ GE142.out) | exact HB.out)⟩⟩
 case round =>
  clear H'
  try clear c1
  try clear c2
  try clear p2
  obtain ⟨x8_1, x143000_1, rfl, HA, HK1, HO_0, HO_142011, BK141, BK142, HB⟩ := hrel
  cases gk with
  | zero => exact absurd HA.out (by simp [warderref21_Whose.l0])
  | succ k1 =>
   have H := HA.out
   clear HA
   simp only [warderref21_Whose.l0] at H
   by_cases c6 : x8_1 < (l0.length : Int)
   ·rw [if_pos c6] at H
    have c6b0 : decide (x8_1 < (l0.length : Int)) = true := decide_eq_true c6
    clear c6
    by_cases c7 : 0 ≤ x8_1
    ·rw [if_pos c7] at H
     have c7b0 : decide (0 ≤ x8_1) = true := decide_eq_true c7
     clear c7
     replace H := Option.bind_eq_some_iff.mp H
     obtain ⟨t144, A80, H⟩ := H
     replace H : (if t144 = true then ((warderref09_Same.f k1 ((rd_T65 l0 x8_1).f1) l2_1).bind fun t146 => (if t146 = true then (some ((rd_T65 l0 x8_1).f2.f0, (rd_T65 l0 x8_1).f2.f1, 0)) else (warderref21_Whose.l0 k1 l0 l1 (wrap64 (x8_1 + 1)) a2_0 l2_1 a2_2 a2_3 l2_4 a2_5 a2_6 a2_7 a2_8 a2_9 l2_10 l2_11 l2_12 l2_13 l2_14 a2_15))) else (warderref21_Whose.l0 k1 l0 l1 (wrap64 (x8_1 + 1)) a2_0 l2_1 a2_2 a2_3 l2_4 a2_5 a2_6 a2_7 a2_8 a2_9 l2_10 l2_11 l2_12 l2_13 l2_14 a2_15)) = some (r1, r2, r3) := H
     have A8 := Aside0.mk A80
     clear A80
     by_cases c9 : t144 = true
     ·subst c9
      have H1 : ((warderref09_Same.f k1 ((rd_T65 l0 x8_1).f1) l2_1).bind fun t146 => (if t146 = true then (some ((rd_T65 l0 x8_1).f2.f0, (rd_T65 l0 x8_1).f2.f1, 0)) else (warderref21_Whose.l0 k1 l0 l1 (wrap64 (x8_1 + 1)) a2_0 l2_1 a2_2 a2_3 l2_4 a2_5 a2_6 a2_7 a2_8 a2_9 l2_10 l2_11 l2_12 l2_13 l2_14 a2_15))) = some (r1, r2, r3) := by rw [if_pos rfl] at H; exact H
      clear H
      have H := H1
      clear H1
      replace H := Option.bind_eq_some_iff.mp H
      obtain ⟨t146, A100, H⟩ := H
      replace H : (if t146 = true then (some ((rd_T65 l0 x8_1).f2.f0, (rd_T65 l0 x8_1).f2.f1, 0)) else (warderref21_Whose.l0 k1 l0 l1 (wrap64 (x8_1 + 1)) a2_0 l2_1 a2_2 a2_3 l2_4 a2_5 a2_6 a2_7 a2_8 a2_9 l2_10 l2_11 l2_12 l2_13 l2_14 a2_15)) = some (r1, r2, r3) := H
      have A10 := Aside0.mk A100
      clear A100
      by_cases c11 : t146 = true
      ·subst c11
       have H1 : (some ((rd_T65 l0 x8_1).f2.f0, (rd_T65 l0 x8_1).f2.f1, 0)) = some (r1, r2, r3) := by rw [if_pos rfl] at H; exact H
       clear H
       have H := H1
       clear H1
       simp only [Option.some.injEq, Prod.mk.injEq] at H
       obtain ⟨rfl, rfl, rfl⟩ := H
       try go_wp2
       have n0_ := Aside0.mk (Kd.V_drew HO_0.out)
       have n1_ := Aside0.mk (Kd.V_drew HO_142011.out)
       have n2_ := Aside0.mk (blk_drew BK141.out)
       have n3_ := Aside0.mk (blk_drew BK142.out)
       have n4_ := Aside0.mk (below_drew1 HB.out)
       clear HO_0
       clear HO_142011
       clear BK141
       clear BK142
       clear HB
       have HO_0 := n0_
       have HO_142011 := n1_
       have BK141 := n2_
       have BK142 := n3_
       have HB := n4_
       clear n0_ n1_ n2_ n3_ n4_
       have p143 : 0 ≤ (x8_1 : Int) := of_decide_eq_true (by first | (with_reducible assumption) | assumption)
       have q143 : x8_1 < (l0.length : Int) := of_decide_eq_true (by first | (with_reducible assumption) | assumption)
       obtain ⟨ad143, A143_0, c143_0, A143_1, c143_1, A143_3, c143_3, e143, hx143_0, hx143_1, hx143_2, hx143_3, hl143_0, hi143_0, hl143_1, hi143_1, hl143_3, hi143_3⟩ := at_T65 (Kd.V_reads' HO_0.out).2.2 x8_1 p143 q143
       cases e143
       obtain ⟨ce143, hce143, hMe143, hcc143⟩ := Kd.V_get HO_0.out z65 x8_1 p143 (by first | exact q143 | exact of_decide_eq_true (by first | (with_reducible assumption) | assumption) | (have e_ := (Kd.V_reads' HO_0.out).1; omega))
       obtain ⟨ua143_0, uc143_0, ua143_1, uc143_1, ua143_3, uc143_3, rfl, ul143_0, ge143_0, ul143_1, ge143_1, ul143_3, ge143_3⟩ := k65_openF hMe143
       have hv143_0 := hcc143 0 _ rfl
       rw [Nat.add_zero] at hv143_0
       replace hv143_0 := Option.some.inj (hv143_0.symm.trans hx143_0)
       injection hv143_0 with hva_ hvn_ hvc_
       rw [hva_] at ge143_0
       rw [hvc_] at ul143_0
       have HL143_0 := Aside0.mk (show Kd.V k35 35 _ w.heap.size _ _ ((rd_T65 l0 x8_1).f0) from Kd.V_mk ul143_0 ge143_0)
       clear hva_ hvn_ hvc_ ge143_0 ul143_0
       have hv143_1 := hcc143 1 _ rfl
       rw [add_field _ _ 1 (by omega)] at hv143_1
       replace hv143_1 := Option.some.inj (hv143_1.symm.trans hx143_1)
       injection hv143_1 with hva_ hvn_ hvc_
       rw [hva_] at ge143_1
       rw [hvc_] at ul143_1
       have HL143_1 := Aside0.mk (show Kd.V k35 35 _ w.heap.size _ _ ((rd_T65 l0 x8_1).f1) from Kd.V_mk ul143_1 ge143_1)
       clear hva_ hvn_ hvc_ ge143_1 ul143_1
       have hv143_3 := hcc143 3 _ rfl
       rw [add_field _ _ 3 (by omega)] at hv143_3
       replace hv143_3 := Option.some.inj (hv143_3.symm.trans hx143_3)
       injection hv143_3 with hva_ hvn_ hvc_
       rw [hva_] at ge143_3
       rw [hvc_] at ul143_3
       have HL143_3 := Aside0.mk (show Kd.V Kd.string 9 _ w.heap.size _ _ ((rd_T65 l0 x8_1).f2.f1) from Kd.V_mk ul143_3 ge143_3)
       clear hva_ hvn_ hvc_ ge143_3 ul143_3
       clear hcc143 hce143
       have HR143_0 := Aside0.mk hi143_0
       have HC143_0 := Aside0.mk hl143_0
       clear hi143_0 hl143_0
       have HR143_1 := Aside0.mk hi143_1
       have HC143_1 := Aside0.mk hl143_1
       clear hi143_1 hl143_1
       have HR143_3 := Aside0.mk hi143_3
       have HC143_3 := Aside0.mk hl143_3
       clear hi143_3 hl143_3
       replace p143 := eq_true p143
       replace q143 := eq_true q143
       refine start_ (n := 9) (S := fun w' => w'.cell? ⟨gb141, 0, none⟩ = some (.int .i64 a2_0) ∧ w'.cell? ⟨gb141, 1, none⟩ = some (.slice A2_1 l2_1.length c2_1) ∧ w'.cell? ⟨gb141, 2, none⟩ = some (.int .i64 a2_2) ∧ w'.cell? ⟨gb141, 3, none⟩ = some (.int .i64 a2_3) ∧ w'.cell? ⟨gb141, 4, none⟩ = some (.slice A2_4 l2_4.length c2_4) ∧ w'.cell? ⟨gb141, 5, none⟩ = some (.int .i64 a2_5) ∧ w'.cell? ⟨gb141, 6, none⟩ = some (.bool a2_6) ∧ w'.cell? ⟨gb141, 7, none⟩ = some (.bool a2_7) ∧ w'.cell? ⟨gb141, 8, none⟩ = some (.int .i64 a2_8) ∧ w'.cell? ⟨gb141, 9, none⟩ = some (.int .u16 a2_9) ∧ w'.cell? ⟨gb141, 10, none⟩ = some (.slice A2_10 l2_10.length c2_10) ∧ w'.cell? ⟨gb141, 11, none⟩ = some (.slice A2_11 l2_11.length c2_11) ∧ w'.cell? ⟨gb141, 12, none⟩ = some (.slice A2_12 l2_12.length c2_12) ∧ w'.cell? ⟨gb141, 13, none⟩ = some (.slice A2_13 l2_13.length c2_13) ∧ w'.cell? ⟨gb141, 14, none⟩ = some (.slice A2_14 l2_14.length c2_14) ∧ w'.cell? ⟨gb141, 15, none⟩ = some (.int .i64 a2_15) ∧ w'.cell? (ad143.add ((x8_1).toNat * 4)) = some (.slice A143_0 ((rd_T65 l0 x8_1).f0).length c143_0) ∧ w'.cell? ⟨(ad143.add ((x8_1).toNat * 4)).block, (ad143.add ((x8_1).toNat * 4)).off + 1, none⟩ = some (.slice A143_1 ((rd_T65 l0 x8_1).f1).length c143_1) ∧ w'.cell? ⟨(ad143.add ((x8_1).toNat * 4)).block, (ad143.add ((x8_1).toNat * 4)).off + 2, none⟩ = some (.string ((rd_T65 l0 x8_1).f2.f0)) ∧ w'.cell? ⟨(ad143.add ((x8_1).toNat * 4)).block, (ad143.add ((x8_1).toNat * 4)).off + 3, none⟩ = some (.slice A143_3 ((rd_T65 l0 x8_1).f2.f1).length c143_3)) (ds := []) #[false, false, false, false, false, false, false, false, false] (by kernel_rfl) rfl rfl ⟨(blk_cell BK141.out 0).trans rfl, (blk_cell BK141.out 1).trans rfl, (blk_cell BK141.out 2).trans rfl, (blk_cell BK141.out 3).trans rfl, (blk_cell BK141.out 4).trans rfl, (blk_cell BK141.out 5).trans rfl, (blk_cell BK141.out 6).trans rfl, (blk_cell BK141.out 7).trans rfl, (blk_cell BK141.out 8).trans rfl, (blk_cell BK141.out 9).trans rfl, (blk_cell BK141.out 10).trans rfl, (blk_cell BK141.out 11).trans rfl, (blk_cell BK141.out 12).trans rfl, (blk_cell BK141.out 13).trans rfl, (blk_cell BK141.out 14).trans rfl, (blk_cell BK141.out 15).trans rfl, hx143_0, hx143_1, hx143_2, hx143_3⟩ (fun hHeld => ?_); refine with_tabW warderref21_Whose.tab4 warderref21_Whose.bits4 (fun HT_ HW_ => ?_)
       generalize wr.drew = w12 at HO_0 HO_142011 BK141 BK142 HB HL143_0 HL143_1 HL143_3 HR143_0 HR143_1 HR143_3 hx143_0 hx143_1 hx143_2 hx143_3 hHeld ⊢
       refine pure_ (i := 0) (N := some 20) (v := ?_) (a' := ?_) #[true, false, false, false, false, false, false, false, false] rfl rfl (any_of HT_.out (by kernel_rfl)) (fun _ _ _ h => h) (Or.inl ⟨by rfl, ?_⟩) ?_ ?_
       rotate_left
       ·intro w'
        go_simp
        with_reducible rfl
       rotate_left
       ·simp only [Act.put, List.setIfInBounds_toArray, List.set_cons_zero, List.set_cons_succ, i64_w, i32_w]
        rfl
       refine pure_ (i := 1) (N := some 21) (v := ?_) (a' := ?_) #[true, true, false, false, false, false, false, false, false] rfl rfl (any_of HT_.out (by kernel_rfl)) (fun _ _ _ h => h) (Or.inl ⟨by rfl, ?_⟩) ?_ ?_
       rotate_left
       ·intro w'
        go_simp
        with_reducible rfl
       rotate_left
       ·simp only [Act.put, List.setIfInBounds_toArray, List.set_cons_zero, List.set_cons_succ, i64_w, i32_w]
        rfl
       refine pure_ (i := 2) (N := some 22) (v := ?_) (a' := ?_) #[true, true, true, false, false, false, false, false, false] rfl rfl (any_of HT_.out (by kernel_rfl)) (fun _ _ _ h => h) (Or.inl ⟨by rfl, ?_⟩) ?_ ?_
       rotate_left
       ·intro w'
        go_simp
        with_reducible rfl
       rotate_left
       ·simp only [Act.put, List.setIfInBounds_toArray, List.set_cons_zero, List.set_cons_succ, i64_w, i32_w]
        rfl
       refine pure_ (i := 3) (N := some 23) (v := ?_) (a' := ?_) #[true, true, true, true, false, false, false, false, false] rfl rfl (any_of HT_.out (by kernel_rfl)) (fun _ _ _ h => h) (Or.inl ⟨by rfl, ?_⟩) ?_ ?_
       rotate_left
       ·intro w'
        go_simp
        with_reducible rfl
       rotate_left
       ·simp only [Act.put, List.setIfInBounds_toArray, List.set_cons_zero, List.set_cons_succ, i64_w, i32_w]
        rfl
       refine pure_ (i := 5) (N := some 25) (v := ?_) (a' := ?_) #[true, true, true, true, false, true, false, false, false] rfl rfl (any_of HT_.out (by kernel_rfl)) (fun _ _ _ h => h) (Or.inl ⟨by rfl, ?_⟩) ?_ ?_
       rotate_left
       ·intro w'
        go_simp
        with_reducible rfl
       rotate_left
       ·simp only [Act.put, List.setIfInBounds_toArray, List.set_cons_zero, List.set_cons_succ, i64_w, i32_w]
        rfl
       refine take_ (i := 4) (N := some 24) (v := ?_) (a' := ?_) #[true, true, true, true, true, true, false, false, false] rfl rfl (take_ofW HT_.out HW_.out (by kernel_rfl)) (fun _ _ _ h => h) (Or.inl ⟨by rfl, ?_⟩) hHeld ?_ ?_
       rotate_left
       ·rintro w' ⟨s0, s1, s2, s3, s4, s5, s6, s7, s8, s9, s10, s11, s12, s13, s14, s15, s16, s17, s18, s19⟩
        go_simp
        with_reducible rfl
       rotate_left
       ·simp only [Act.put, List.setIfInBounds_toArray, List.set_cons_zero, List.set_cons_succ, i64_w, i32_w]
        rfl
       refine take_ (i := 6) (N := some 26) (v := ?_) (a' := ?_) #[true, true, true, true, true, true, true, false, false] rfl rfl (take_ofW HT_.out HW_.out (by kernel_rfl)) (fun _ _ _ h => h) (Or.inl ⟨by rfl, ?_⟩) hHeld ?_ ?_
       rotate_left
       ·rintro w' ⟨s0, s1, s2, s3, s4, s5, s6, s7, s8, s9, s10, s11, s12, s13, s14, s15, s16, s17, s18, s19⟩
        go_simp
        with_reducible rfl
       rotate_left
       ·simp only [Act.put, List.setIfInBounds_toArray, List.set_cons_zero, List.set_cons_succ, i64_w, i32_w]
        rfl
       refine one_ (i := 7) (N := some 27) #[true, true, true, true, true, true, true, true, false] rfl rfl (one_of HT_.out (by kernel_rfl)) (by decide) (fun K hK => ?_)
       refine goes_ Try.func35 (by kernel_rfl) rfl #[.slice A143_0 ((rd_T65 l0 x8_1).f0).length c143_0, .slice A2_4 l2_4.length c2_4] (by rfl) rfl rfl (by (try simp only [List.map_toArray, List.map_cons, List.map_nil]); first | done | rfl | (simp only [List.length_drop, List.length_take]; rfl)) ?_
       with_reducible refine (warderref09_Same.calls k1 _ _ ((rd_T65 l0 x8_1).f0) _ _ l2_4 true _ ?side1 ?side2 ?side3 ?side4 A8.out).mono ?_
       (case side1 => repeat (first | exact (by repeat (first | (with_reducible exact HR143_0.out) | (with_reducible refine Kd.C_alloc ?_ _) | (with_reducible refine Kd.C_drewN ?_ _) | (with_reducible refine Kd.C_drew ?_) | exact HR143_0.out)) | (with_reducible refine Kd.C_alloc ?_ _) | (with_reducible refine Kd.C_drewN ?_ _) | (with_reducible refine Kd.C_drew ?_)))
       (case side2 => exact HC143_0.out)
       (case side3 => repeat (first | exact (Kd.C_below HR2_4.out HB.out) | (with_reducible refine Kd.C_alloc ?_ _) | (with_reducible refine Kd.C_drewN ?_ _) | (with_reducible refine Kd.C_drew ?_)))
       (case side4 => exact HC2_4.out)
       rintro e w13 ⟨rfl, hb⟩
       have HS16_ := (hb.cell (World.block_lt_of_cell? _ _ (hHeld.2.2.2.2.2.2.2.2.2.2.2.2.2.2.2.2.1))).trans (hHeld.2.2.2.2.2.2.2.2.2.2.2.2.2.2.2.2.1)
       have HS17_ := (hb.cell (World.block_lt_of_cell? _ _ (hHeld.2.2.2.2.2.2.2.2.2.2.2.2.2.2.2.2.2.1))).trans (hHeld.2.2.2.2.2.2.2.2.2.2.2.2.2.2.2.2.2.1)
       have HS18_ := (hb.cell (World.block_lt_of_cell? _ _ (hHeld.2.2.2.2.2.2.2.2.2.2.2.2.2.2.2.2.2.2.1))).trans (hHeld.2.2.2.2.2.2.2.2.2.2.2.2.2.2.2.2.2.2.1)
       have HS19_ := (hb.cell (World.block_lt_of_cell? _ _ (hHeld.2.2.2.2.2.2.2.2.2.2.2.2.2.2.2.2.2.2.2))).trans (hHeld.2.2.2.2.2.2.2.2.2.2.2.2.2.2.2.2.2.2.2)
       refine ⟨_, rfl, ?_⟩
       have n0_ := Aside0.mk (Kd.V_below (by (with_reducible repeat (first | apply Kd.V_alloc | apply Kd.V_drewN | apply Kd.V_drew)); exact HO_0.out) hb)
       have n1_ := Aside0.mk (Kd.V_below (by (with_reducible repeat (first | apply Kd.V_alloc | apply Kd.V_drewN | apply Kd.V_drew)); exact HO_142011.out) hb)
       have n2_ := Aside0.mk (Kd.V_below (by (with_reducible repeat (first | apply Kd.V_alloc | apply Kd.V_drewN | apply Kd.V_drew)); exact HL143_0.out) hb)
       have n3_ := Aside0.mk (Kd.V_below (by (with_reducible repeat (first | apply Kd.V_alloc | apply Kd.V_drewN | apply Kd.V_drew)); exact HL143_1.out) hb)
       have n4_ := Aside0.mk (Kd.V_below (by (with_reducible repeat (first | apply Kd.V_alloc | apply Kd.V_drewN | apply Kd.V_drew)); exact HL143_3.out) hb)
       have n5_ := Aside0.mk (blk_below (g := gb141) (o := .cells #[.int .i64 a2_0, .slice A2_1 l2_1.length c2_1, .int .i64 a2_2, .int .i64 a2_3, .slice A2_4 l2_4.length c2_4, .int .i64 a2_5, .bool a2_6, .bool a2_7, .int .i64 a2_8, .int .u16 a2_9, .slice A2_10 l2_10.length c2_10, .slice A2_11 l2_11.length c2_11, .slice A2_12 l2_12.length c2_12, .slice A2_13 l2_13.length c2_13, .slice A2_14 l2_14.length c2_14, .int .i64 a2_15] 57 (0, 0)) (by (with_reducible repeat (first | refine blk_drewN ?_ _ | refine blk_drew ?_ | refine blk_alloc ?_ _)); exact BK141.out) hb)
       have n6_ := Aside0.mk (blk_below (g := gb142) (o := .cells #[.string x143000_1, .slice none 0 0] 43 (0, 0)) (by (with_reducible repeat (first | refine blk_drewN ?_ _ | refine blk_drew ?_ | refine blk_alloc ?_ _)); exact BK142.out) hb)
       have n7_ := Aside0.mk (Kd.C_below (by repeat (first | (with_reducible exact HR143_0.out) | (with_reducible refine Kd.C_alloc ?_ _) | (with_reducible refine Kd.C_drewN ?_ _) | (with_reducible refine Kd.C_drew ?_) | exact HR143_0.out)) hb)
       have n8_ := Aside0.mk (Kd.C_below (by repeat (first | (with_reducible exact HR143_1.out) | (with_reducible refine Kd.C_alloc ?_ _) | (with_reducible refine Kd.C_drewN ?_ _) | (with_reducible refine Kd.C_drew ?_) | exact HR143_1.out)) hb)
       have n9_ := Aside0.mk (Kd.C_below (by repeat (first | (with_reducible exact HR143_3.out) | (with_reducible refine Kd.C_alloc ?_ _) | (with_reducible refine Kd.C_drewN ?_ _) | (with_reducible refine Kd.C_drew ?_) | exact HR143_3.out)) hb)
       have n10_ := Aside0.mk (below_step (by repeat (first | (with_reducible first | exact HB.out | apply below_alloc | apply pw_below_drewN | apply below_drew1 | refine below_set ?_ GE141.out | refine below_set ?_ GE142.out) | exact HB.out)) hb)
       clear HO_0
       clear HO_142011
       clear HL143_0
       clear HL143_1
       clear HL143_3
       clear BK141
       clear BK142
       clear HR143_0
       clear HR143_1
       clear HR143_3
       clear HB
       have HO_0 := n0_
       have HO_142011 := n1_
       have HL143_0 := n2_
       have HL143_1 := n3_
       have HL143_3 := n4_
       have BK141 := n5_
       have BK142 := n6_
       have HR143_0 := n7_
       have HR143_1 := n8_
       have HR143_3 := n9_
       have HB := n10_
       clear n0_ n1_ n2_ n3_ n4_ n5_ n6_ n7_ n8_ n9_ n10_
       (try clear hb)
       (try clear hb2)
       (try clear hk)
       (try clear hi)
       refine hK.out _ _ ⟨(blk_cell BK141.out 0).trans rfl, (blk_cell BK141.out 1).trans rfl, (blk_cell BK141.out 2).trans rfl, (blk_cell BK141.out 3).trans rfl, (blk_cell BK141.out 4).trans rfl, (blk_cell BK141.out 5).trans rfl, (blk_cell BK141.out 6).trans rfl, (blk_cell BK141.out 7).trans rfl, (blk_cell BK141.out 8).trans rfl, (blk_cell BK141.out 9).trans rfl, (blk_cell BK141.out 10).trans rfl, (blk_cell BK141.out 11).trans rfl, (blk_cell BK141.out 12).trans rfl, (blk_cell BK141.out 13).trans rfl, (blk_cell BK141.out 14).trans rfl, (blk_cell BK141.out 15).trans rfl, HS16_, HS17_, HS18_, HS19_⟩ (fun hHeld => ?_)
       clear hK K
       refine norm_ (a' := ?_) ?_ ?_
       rotate_left
       ·show Act.put _ (some 27) _ = _
        simp only [Act.put, List.setIfInBounds_toArray, List.set_cons_zero, List.set_cons_succ, i64_w, i32_w]
        rfl
       refine pure_ (i := 8) (N := some 9) (v := ?_) (a' := ?_) #[true, true, true, true, true, true, true, true, true] rfl rfl (any_of HT_.out (by kernel_rfl)) (fun _ _ _ h => h) (Or.inl ⟨by rfl, ?_⟩) ?_ ?_
       rotate_left
       ·intro w'
        go_simp
        with_reducible rfl
       rotate_left
       ·simp only [Act.put, List.setIfInBounds_toArray, List.set_cons_zero, List.set_cons_succ, i64_w, i32_w]
        rfl
       refine done_ (done_of HT_.out (by kernel_rfl)) ?_
       try go_wp2
       have n0_ := Aside0.mk (Kd.V_drew HO_0.out)
       have n1_ := Aside0.mk (Kd.V_drew HO_142011.out)
       have n2_ := Aside0.mk (Kd.V_drew HL143_0.out)
       have n3_ := Aside0.mk (Kd.V_drew HL143_1.out)
       have n4_ := Aside0.mk (Kd.V_drew HL143_3.out)
       have n5_ := Aside0.mk (blk_drew BK141.out)
       have n6_ := Aside0.mk (blk_drew BK142.out)
       have n7_ := Aside0.mk (Kd.C_drew HR143_0.out)
       have n8_ := Aside0.mk (Kd.C_drew HR143_1.out)
       have n9_ := Aside0.mk (Kd.C_drew HR143_3.out)
       have n10_ := Aside0.mk (below_drew1 HB.out)
       clear HO_0
       clear HO_142011
       clear HL143_0
       clear HL143_1
       clear HL143_3
       clear BK141
       clear BK142
       clear HR143_0
       clear HR143_1
       clear HR143_3
       clear HB
       have HO_0 := n0_
       have HO_142011 := n1_
       have HL143_0 := n2_
       have HL143_1 := n3_
       have HL143_3 := n4_
       have BK141 := n5_
       have BK142 := n6_
       have HR143_0 := n7_
       have HR143_1 := n8_
       have HR143_3 := n9_
       have HB := n10_
       clear n0_ n1_ n2_ n3_ n4_ n5_ n6_ n7_ n8_ n9_ n10_
       have p145 : 0 ≤ (x8_1 : Int) := of_decide_eq_true (by first | (with_reducible assumption) | assumption)
       have q145 : x8_1 < (l0.length : Int) := of_decide_eq_true (by first | (with_reducible assumption) | assumption)
       obtain ⟨ad145, A145_0, c145_0, A145_1, c145_1, A145_3, c145_3, e145, hx145_0, hx145_1, hx145_2, hx145_3, hl145_0, hi145_0, hl145_1, hi145_1, hl145_3, hi145_3⟩ := at_T65 (Kd.V_reads' HO_0.out).2.2 x8_1 p145 q145
       obtain rfl : ad143 = ad145 := (by injection e145)
       obtain ⟨ce145, hce145, hMe145, hcc145⟩ := Kd.V_get HO_0.out z65 x8_1 p145 (by first | exact q145 | exact of_decide_eq_true (by first | (with_reducible assumption) | assumption) | (have e_ := (Kd.V_reads' HO_0.out).1; omega))
       obtain ⟨ua145_0, uc145_0, ua145_1, uc145_1, ua145_3, uc145_3, rfl, ul145_0, ge145_0, ul145_1, ge145_1, ul145_3, ge145_3⟩ := k65_openF hMe145
       have hv145_0 := hcc145 0 _ rfl
       rw [Nat.add_zero] at hv145_0
       replace hv145_0 := Option.some.inj (hv145_0.symm.trans hx145_0)
       injection hv145_0 with hva_ hvn_ hvc_
       rw [hva_] at ge145_0
       rw [hvc_] at ul145_0
       have HL145_0 := Aside0.mk (show Kd.V k35 35 _ w.heap.size _ _ ((rd_T65 l0 x8_1).f0) from Kd.V_mk ul145_0 ge145_0)
       clear hva_ hvn_ hvc_ ge145_0 ul145_0
       have hv145_1 := hcc145 1 _ rfl
       rw [add_field _ _ 1 (by omega)] at hv145_1
       replace hv145_1 := Option.some.inj (hv145_1.symm.trans hx145_1)
       injection hv145_1 with hva_ hvn_ hvc_
       rw [hva_] at ge145_1
       rw [hvc_] at ul145_1
       have HL145_1 := Aside0.mk (show Kd.V k35 35 _ w.heap.size _ _ ((rd_T65 l0 x8_1).f1) from Kd.V_mk ul145_1 ge145_1)
       clear hva_ hvn_ hvc_ ge145_1 ul145_1
       have hv145_3 := hcc145 3 _ rfl
       rw [add_field _ _ 3 (by omega)] at hv145_3
       replace hv145_3 := Option.some.inj (hv145_3.symm.trans hx145_3)
       injection hv145_3 with hva_ hvn_ hvc_
       rw [hva_] at ge145_3
       rw [hvc_] at ul145_3
       have HL145_3 := Aside0.mk (show Kd.V Kd.string 9 _ w.heap.size _ _ ((rd_T65 l0 x8_1).f2.f1) from Kd.V_mk ul145_3 ge145_3)
       clear hva_ hvn_ hvc_ ge145_3 ul145_3
       clear hcc145 hce145
       have HR145_0 := Aside0.mk hi145_0
       have HC145_0 := Aside0.mk hl145_0
       clear hi145_0 hl145_0
       have HR145_1 := Aside0.mk hi145_1
       have HC145_1 := Aside0.mk hl145_1
       clear hi145_1 hl145_1
       have HR145_3 := Aside0.mk hi145_3
       have HC145_3 := Aside0.mk hl145_3
       clear hi145_3 hl145_3
       replace p145 := eq_true p145
       replace q145 := eq_true q145
       refine start_ (n := 11) (S := fun w' => w'.cell? ⟨gb141, 0, none⟩ = some (.int .i64 a2_0) ∧ w'.cell? ⟨gb141, 1, none⟩ = some (.slice A2_1 l2_1.length c2_1) ∧ w'.cell? ⟨gb141, 2, none⟩ = some (.int .i64 a2_2) ∧ w'.cell? ⟨gb141, 3, none⟩ = some (.int .i64 a2_3) ∧ w'.cell? ⟨gb141, 4, none⟩ = some (.slice A2_4 l2_4.length c2_4) ∧ w'.cell? ⟨gb141, 5, none⟩ = some (.int .i64 a2_5) ∧ w'.cell? ⟨gb141, 6, none⟩ = some (.bool a2_6) ∧ w'.cell? ⟨gb141, 7, none⟩ = some (.bool a2_7) ∧ w'.cell? ⟨gb141, 8, none⟩ = some (.int .i64 a2_8) ∧ w'.cell? ⟨gb141, 9, none⟩ = some (.int .u16 a2_9) ∧ w'.cell? ⟨gb141, 10, none⟩ = some (.slice A2_10 l2_10.length c2_10) ∧ w'.cell? ⟨gb141, 11, none⟩ = some (.slice A2_11 l2_11.length c2_11) ∧ w'.cell? ⟨gb141, 12, none⟩ = some (.slice A2_12 l2_12.length c2_12) ∧ w'.cell? ⟨gb141, 13, none⟩ = some (.slice A2_13 l2_13.length c2_13) ∧ w'.cell? ⟨gb141, 14, none⟩ = some (.slice A2_14 l2_14.length c2_14) ∧ w'.cell? ⟨gb141, 15, none⟩ = some (.int .i64 a2_15) ∧ w'.cell? (ad143.add ((x8_1).toNat * 4)) = some (.slice A145_0 ((rd_T65 l0 x8_1).f0).length c145_0) ∧ w'.cell? ⟨(ad143.add ((x8_1).toNat * 4)).block, (ad143.add ((x8_1).toNat * 4)).off + 1, none⟩ = some (.slice A145_1 ((rd_T65 l0 x8_1).f1).length c145_1) ∧ w'.cell? ⟨(ad143.add ((x8_1).toNat * 4)).block, (ad143.add ((x8_1).toNat * 4)).off + 2, none⟩ = some (.string ((rd_T65 l0 x8_1).f2.f0)) ∧ w'.cell? ⟨(ad143.add ((x8_1).toNat * 4)).block, (ad143.add ((x8_1).toNat * 4)).off + 3, none⟩ = some (.slice A145_3 ((rd_T65 l0 x8_1).f2.f1).length c145_3)) (ds := []) #[false, false, false, false, false, false, false, false, false, false, false] (by kernel_rfl) rfl rfl ⟨(blk_cell BK141.out 0).trans rfl, (blk_cell BK141.out 1).trans rfl, (blk_cell BK141.out 2).trans rfl, (blk_cell BK141.out 3).trans rfl, (blk_cell BK141.out 4).trans rfl, (blk_cell BK141.out 5).trans rfl, (blk_cell BK141.out 6).trans rfl, (blk_cell BK141.out 7).trans rfl, (blk_cell BK141.out 8).trans rfl, (blk_cell BK141.out 9).trans rfl, (blk_cell BK141.out 10).trans rfl, (blk_cell BK141.out 11).trans rfl, (blk_cell BK141.out 12).trans rfl, (blk_cell BK141.out 13).trans rfl, (blk_cell BK141.out 14).trans rfl, (blk_cell BK141.out 15).trans rfl, hx145_0, hx145_1, hx145_2, hx145_3⟩ (fun hHeld => ?_); refine with_tabW warderref21_Whose.tab5 warderref21_Whose.bits5 (fun HT_ HW_ => ?_)
       generalize w13.drew = w14 at HO_0 HO_142011 HL143_0 HL143_1 HL143_3 BK141 BK142 HR143_0 HR143_1 HR143_3 HB HL145_0 HL145_1 HL145_3 HR145_0 HR145_1 HR145_3 hx145_0 hx145_1 hx145_2 hx145_3 hHeld ⊢
       refine pure_ (i := 0) (N := some 28) (v := ?_) (a' := ?_) #[true, false, false, false, false, false, false, false, false, false, false] rfl rfl (any_of HT_.out (by kernel_rfl)) (fun _ _ _ h => h) (Or.inl ⟨by rfl, ?_⟩) ?_ ?_
       rotate_left
       ·intro w'
        go_simp
        with_reducible rfl
       rotate_left
       ·simp only [Act.put, List.setIfInBounds_toArray, List.set_cons_zero, List.set_cons_succ, i64_w, i32_w]
        rfl
       refine pure_ (i := 1) (N := some 29) (v := ?_) (a' := ?_) #[true, true, false, false, false, false, false, false, false, false, false] rfl rfl (any_of HT_.out (by kernel_rfl)) (fun _ _ _ h => h) (Or.inl ⟨by rfl, ?_⟩) ?_ ?_
       rotate_left
       ·intro w'
        go_simp
        with_reducible rfl
       rotate_left
       ·simp only [Act.put, List.setIfInBounds_toArray, List.set_cons_zero, List.set_cons_succ, i64_w, i32_w]
        rfl
       refine pure_ (i := 2) (N := some 30) (v := ?_) (a' := ?_) #[true, true, true, false, false, false, false, false, false, false, false] rfl rfl (any_of HT_.out (by kernel_rfl)) (fun _ _ _ h => h) (Or.inl ⟨by rfl, ?_⟩) ?_ ?_
       rotate_left
       ·intro w'
        go_simp
        with_reducible rfl
       rotate_left
       ·simp only [Act.put, List.setIfInBounds_toArray, List.set_cons_zero, List.set_cons_succ, i64_w, i32_w]
        rfl
       refine pure_ (i := 3) (N := some 31) (v := ?_) (a' := ?_) #[true, true, true, true, false, false, false, false, false, false, false] rfl rfl (any_of HT_.out (by kernel_rfl)) (fun _ _ _ h => h) (Or.inl ⟨by rfl, ?_⟩) ?_ ?_
       rotate_left
       ·intro w'
        go_simp
        with_reducible rfl
       rotate_left
       ·simp only [Act.put, List.setIfInBounds_toArray, List.set_cons_zero, List.set_cons_succ, i64_w, i32_w]
        rfl
       refine pure_ (i := 4) (N := some 32) (v := ?_) (a' := ?_) #[true, true, true, true, true, false, false, false, false, false, false] rfl rfl (any_of HT_.out (by kernel_rfl)) (fun _ _ _ h => h) (Or.inl ⟨by rfl, ?_⟩) ?_ ?_
       rotate_left
       ·intro w'
        go_simp
        with_reducible rfl
       rotate_left
       ·simp only [Act.put, List.setIfInBounds_toArray, List.set_cons_zero, List.set_cons_succ, i64_w, i32_w]
        rfl
       refine pure_ (i := 5) (N := some 33) (v := ?_) (a' := ?_) #[true, true, true, true, true, true, false, false, false, false, false] rfl rfl (any_of HT_.out (by kernel_rfl)) (fun _ _ _ h => h) (Or.inl ⟨by rfl, ?_⟩) ?_ ?_
       rotate_left
       ·intro w'
        go_simp
        with_reducible rfl
       rotate_left
       ·simp only [Act.put, List.setIfInBounds_toArray, List.set_cons_zero, List.set_cons_succ, i64_w, i32_w]
        rfl
       refine pure_ (i := 7) (N := some 35) (v := ?_) (a' := ?_) #[true, true, true, true, true, true, false, true, false, false, false] rfl rfl (any_of HT_.out (by kernel_rfl)) (fun _ _ _ h => h) (Or.inl ⟨by rfl, ?_⟩) ?_ ?_
       rotate_left
       ·intro w'
        go_simp
        with_reducible rfl
       rotate_left
       ·simp only [Act.put, List.setIfInBounds_toArray, List.set_cons_zero, List.set_cons_succ, i64_w, i32_w]
        rfl
       refine take_ (i := 6) (N := some 34) (v := ?_) (a' := ?_) #[true, true, true, true, true, true, true, true, false, false, false] rfl rfl (take_ofW HT_.out HW_.out (by kernel_rfl)) (fun _ _ _ h => h) (Or.inl ⟨by rfl, ?_⟩) hHeld ?_ ?_
       rotate_left
       ·rintro w' ⟨s0, s1, s2, s3, s4, s5, s6, s7, s8, s9, s10, s11, s12, s13, s14, s15, s16, s17, s18, s19⟩
        go_simp
        with_reducible rfl
       rotate_left
       ·simp only [Act.put, List.setIfInBounds_toArray, List.set_cons_zero, List.set_cons_succ, i64_w, i32_w]
        rfl
       refine take_ (i := 8) (N := some 36) (v := ?_) (a' := ?_) #[true, true, true, true, true, true, true, true, true, false, false] rfl rfl (take_ofW HT_.out HW_.out (by kernel_rfl)) (fun _ _ _ h => h) (Or.inl ⟨by rfl, ?_⟩) hHeld ?_ ?_
       rotate_left
       ·rintro w' ⟨s0, s1, s2, s3, s4, s5, s6, s7, s8, s9, s10, s11, s12, s13, s14, s15, s16, s17, s18, s19⟩
        go_simp
        with_reducible rfl
       rotate_left
       ·simp only [Act.put, List.setIfInBounds_toArray, List.set_cons_zero, List.set_cons_succ, i64_w, i32_w]
        rfl
       refine one_ (i := 9) (N := some 37) #[true, true, true, true, true, true, true, true, true, true, false] rfl rfl (one_of HT_.out (by kernel_rfl)) (by decide) (fun K hK => ?_)
       refine goes_ Try.func35 (by kernel_rfl) rfl #[.slice A145_1 ((rd_T65 l0 x8_1).f1).length c145_1, .slice A2_1 l2_1.length c2_1] (by rfl) rfl rfl (by (try simp only [List.map_toArray, List.map_cons, List.map_nil]); first | done | rfl | (simp only [List.length_drop, List.length_take]; rfl)) ?_
       with_reducible refine (warderref09_Same.calls k1 _ _ ((rd_T65 l0 x8_1).f1) _ _ l2_1 true _ ?side1 ?side2 ?side3 ?side4 A10.out).mono ?_
       (case side1 => repeat (first | exact (by repeat (first | (with_reducible exact HR145_1.out) | (with_reducible refine Kd.C_alloc ?_ _) | (with_reducible refine Kd.C_drewN ?_ _) | (with_reducible refine Kd.C_drew ?_) | exact HR145_1.out)) | (with_reducible refine Kd.C_alloc ?_ _) | (with_reducible refine Kd.C_drewN ?_ _) | (with_reducible refine Kd.C_drew ?_)))
       (case side2 => exact HC145_1.out)
       (case side3 => repeat (first | exact (Kd.C_below HR2_1.out HB.out) | (with_reducible refine Kd.C_alloc ?_ _) | (with_reducible refine Kd.C_drewN ?_ _) | (with_reducible refine Kd.C_drew ?_)))
       (case side4 => exact HC2_1.out)
       rintro e w15 ⟨rfl, hb⟩
       have HS16_ := (hb.cell (World.block_lt_of_cell? _ _ (hHeld.2.2.2.2.2.2.2.2.2.2.2.2.2.2.2.2.1))).trans (hHeld.2.2.2.2.2.2.2.2.2.2.2.2.2.2.2.2.1)
       have HS17_ := (hb.cell (World.block_lt_of_cell? _ _ (hHeld.2.2.2.2.2.2.2.2.2.2.2.2.2.2.2.2.2.1))).trans (hHeld.2.2.2.2.2.2.2.2.2.2.2.2.2.2.2.2.2.1)
       have HS18_ := (hb.cell (World.block_lt_of_cell? _ _ (hHeld.2.2.2.2.2.2.2.2.2.2.2.2.2.2.2.2.2.2.1))).trans (hHeld.2.2.2.2.2.2.2.2.2.2.2.2.2.2.2.2.2.2.1)
       have HS19_ := (hb.cell (World.block_lt_of_cell? _ _ (hHeld.2.2.2.2.2.2.2.2.2.2.2.2.2.2.2.2.2.2.2))).trans (hHeld.2.2.2.2.2.2.2.2.2.2.2.2.2.2.2.2.2.2.2)
       refine ⟨_, rfl, ?_⟩
       have n0_ := Aside0.mk (Kd.V_below (by (with_reducible repeat (first | apply Kd.V_alloc | apply Kd.V_drewN | apply Kd.V_drew)); exact HO_0.out) hb)
       have n1_ := Aside0.mk (Kd.V_below (by (with_reducible repeat (first | apply Kd.V_alloc | apply Kd.V_drewN | apply Kd.V_drew)); exact HO_142011.out) hb)
       have n2_ := Aside0.mk (Kd.V_below (by (with_reducible repeat (first | apply Kd.V_alloc | apply Kd.V_drewN | apply Kd.V_drew)); exact HL143_0.out) hb)
       have n3_ := Aside0.mk (Kd.V_below (by (with_reducible repeat (first | apply Kd.V_alloc | apply Kd.V_drewN | apply Kd.V_drew)); exact HL143_1.out) hb)
       have n4_ := Aside0.mk (Kd.V_below (by (with_reducible repeat (first | apply Kd.V_alloc | apply Kd.V_drewN | apply Kd.V_drew)); exact HL143_3.out) hb)
       have n5_ := Aside0.mk (Kd.V_below (by (with_reducible repeat (first | apply Kd.V_alloc | apply Kd.V_drewN | apply Kd.V_drew)); exact HL145_0.out) hb)
       have n6_ := Aside0.mk (Kd.V_below (by (with_reducible repeat (first | apply Kd.V_alloc | apply Kd.V_drewN | apply Kd.V_drew)); exact HL145_1.out) hb)
       have n7_ := Aside0.mk (Kd.V_below (by (with_reducible repeat (first | apply Kd.V_alloc | apply Kd.V_drewN | apply Kd.V_drew)); exact HL145_3.out) hb)
       have n8_ := Aside0.mk (blk_below (g := gb141) (o := .cells #[.int .i64 a2_0, .slice A2_1 l2_1.length c2_1, .int .i64 a2_2, .int .i64 a2_3, .slice A2_4 l2_4.length c2_4, .int .i64 a2_5, .bool a2_6, .bool a2_7, .int .i64 a2_8, .int .u16 a2_9, .slice A2_10 l2_10.length c2_10, .slice A2_11 l2_11.length c2_11, .slice A2_12 l2_12.length c2_12, .slice A2_13 l2_13.length c2_13, .slice A2_14 l2_14.length c2_14, .int .i64 a2_15] 57 (0, 0)) (by (with_reducible repeat (first | refine blk_drewN ?_ _ | refine blk_drew ?_ | refine blk_alloc ?_ _)); exact BK141.out) hb)
       have n9_ := Aside0.mk (blk_below (g := gb142) (o := .cells #[.string x143000_1, .slice none 0 0] 43 (0, 0)) (by (with_reducible repeat (first | refine blk_drewN ?_ _ | refine blk_drew ?_ | refine blk_alloc ?_ _)); exact BK142.out) hb)
       have n10_ := Aside0.mk (Kd.C_below (by repeat (first | (with_reducible exact HR143_0.out) | (with_reducible refine Kd.C_alloc ?_ _) | (with_reducible refine Kd.C_drewN ?_ _) | (with_reducible refine Kd.C_drew ?_) | exact HR143_0.out)) hb)
       have n11_ := Aside0.mk (Kd.C_below (by repeat (first | (with_reducible exact HR143_1.out) | (with_reducible refine Kd.C_alloc ?_ _) | (with_reducible refine Kd.C_drewN ?_ _) | (with_reducible refine Kd.C_drew ?_) | exact HR143_1.out)) hb)
       have n12_ := Aside0.mk (Kd.C_below (by repeat (first | (with_reducible exact HR143_3.out) | (with_reducible refine Kd.C_alloc ?_ _) | (with_reducible refine Kd.C_drewN ?_ _) | (with_reducible refine Kd.C_drew ?_) | exact HR143_3.out)) hb)
       have n13_ := Aside0.mk (Kd.C_below (by repeat (first | (with_reducible exact HR145_0.out) | (with_reducible refine Kd.C_alloc ?_ _) | (with_reducible refine Kd.C_drewN ?_ _) | (with_reducible refine Kd.C_drew ?_) | exact HR145_0.out)) hb)
       have n14_ := Aside0.mk (Kd.C_below (by repeat (first | (with_reducible exact HR145_1.out) | (with_reducible refine Kd.C_alloc ?_ _) | (with_reducible refine Kd.C_drewN ?_ _) | (with_reducible refine Kd.C_drew ?_) | exact HR145_1.out)) hb)
       have n15_ := Aside0.mk (Kd.C_below (by repeat (first | (with_reducible exact HR145_3.out) | (with_reducible refine Kd.C_alloc ?_ _) | (with_reducible refine Kd.C_drewN ?_ _) | (with_reducible refine Kd.C_drew ?_) | exact HR145_3.out)) hb)
       have n16_ := Aside0.mk (below_step (by repeat (first | (with_reducible first | exact HB.out | apply below_alloc | apply pw_below_drewN | apply below_drew1 | refine below_set ?_ GE141.out | refine below_set ?_ GE142.out) | exact HB.out)) hb)
       clear HO_0
       clear HO_142011
       clear HL143_0
       clear HL143_1
       clear HL143_3
       clear HL145_0
       clear HL145_1
       clear HL145_3
       clear BK141
       clear BK142
       clear HR143_0
       clear HR143_1
       clear HR143_3
       clear HR145_0
       clear HR145_1
       clear HR145_3
       clear HB
       have HO_0 := n0_
       have HO_142011 := n1_
       have HL143_0 := n2_
       have HL143_1 := n3_
       have HL143_3 := n4_
       have HL145_0 := n5_
       have HL145_1 := n6_
       have HL145_3 := n7_
       have BK141 := n8_
       have BK142 := n9_
       have HR143_0 := n10_
       have HR143_1 := n11_
       have HR143_3 := n12_
       have HR145_0 := n13_
       have HR145_1 := n14_
       have HR145_3 := n15_
       have HB := n16_
       clear n0_ n1_ n2_ n3_ n4_ n5_ n6_ n7_ n8_ n9_ n10_ n11_ n12_ n13_ n14_ n15_ n16_
       (try clear hb)
       (try clear hb2)
       (try clear hk)
       (try clear hi)
       refine hK.out _ _ ⟨(blk_cell BK141.out 0).trans rfl, (blk_cell BK141.out 1).trans rfl, (blk_cell BK141.out 2).trans rfl, (blk_cell BK141.out 3).trans rfl, (blk_cell BK141.out 4).trans rfl, (blk_cell BK141.out 5).trans rfl, (blk_cell BK141.out 6).trans rfl, (blk_cell BK141.out 7).trans rfl, (blk_cell BK141.out 8).trans rfl, (blk_cell BK141.out 9).trans rfl, (blk_cell BK141.out 10).trans rfl, (blk_cell BK141.out 11).trans rfl, (blk_cell BK141.out 12).trans rfl, (blk_cell BK141.out 13).trans rfl, (blk_cell BK141.out 14).trans rfl, (blk_cell BK141.out 15).trans rfl, HS16_, HS17_, HS18_, HS19_⟩ (fun hHeld => ?_)
       clear hK K
       refine norm_ (a' := ?_) ?_ ?_
       rotate_left
       ·show Act.put _ (some 37) _ = _
        simp only [Act.put, List.setIfInBounds_toArray, List.set_cons_zero, List.set_cons_succ, i64_w, i32_w]
        rfl
       refine pure_ (i := 10) (N := some 38) (v := ?_) (a' := ?_) #[true, true, true, true, true, true, true, true, true, true, true] rfl rfl (any_of HT_.out (by kernel_rfl)) (fun _ _ _ h => h) (Or.inl ⟨by rfl, ?_⟩) ?_ ?_
       rotate_left
       ·intro w'
        go_simp
        with_reducible rfl
       rotate_left
       ·simp only [Act.put, List.setIfInBounds_toArray, List.set_cons_zero, List.set_cons_succ, i64_w, i32_w]
        rfl
       refine done_ (done_of HT_.out (by kernel_rfl)) ?_
       have p147 : 0 ≤ (x8_1 : Int) := of_decide_eq_true (by first | (with_reducible assumption) | assumption)
       have q147 : x8_1 < (l0.length : Int) := of_decide_eq_true (by first | (with_reducible assumption) | assumption)
       obtain ⟨ad147, A147_0, c147_0, A147_1, c147_1, A147_3, c147_3, e147, hx147_0, hx147_1, hx147_2, hx147_3, hl147_0, hi147_0, hl147_1, hi147_1, hl147_3, hi147_3⟩ := at_T65 (Kd.V_reads' HO_0.out).2.2 x8_1 p147 q147
       obtain rfl : ad143 = ad147 := (by injection e147)
       obtain ⟨ce147, hce147, hMe147, hcc147⟩ := Kd.V_get HO_0.out z65 x8_1 p147 (by first | exact q147 | exact of_decide_eq_true (by first | (with_reducible assumption) | assumption) | (have e_ := (Kd.V_reads' HO_0.out).1; omega))
       obtain ⟨ua147_0, uc147_0, ua147_1, uc147_1, ua147_3, uc147_3, rfl, ul147_0, ge147_0, ul147_1, ge147_1, ul147_3, ge147_3⟩ := k65_openF hMe147
       have hv147_0 := hcc147 0 _ rfl
       rw [Nat.add_zero] at hv147_0
       replace hv147_0 := Option.some.inj (hv147_0.symm.trans hx147_0)
       injection hv147_0 with hva_ hvn_ hvc_
       rw [hva_] at ge147_0
       rw [hvc_] at ul147_0
       have HL147_0 := Aside0.mk (show Kd.V k35 35 _ w.heap.size _ _ ((rd_T65 l0 x8_1).f0) from Kd.V_mk ul147_0 ge147_0)
       clear hva_ hvn_ hvc_ ge147_0 ul147_0
       have hv147_1 := hcc147 1 _ rfl
       rw [add_field _ _ 1 (by omega)] at hv147_1
       replace hv147_1 := Option.some.inj (hv147_1.symm.trans hx147_1)
       injection hv147_1 with hva_ hvn_ hvc_
       rw [hva_] at ge147_1
       rw [hvc_] at ul147_1
       have HL147_1 := Aside0.mk (show Kd.V k35 35 _ w.heap.size _ _ ((rd_T65 l0 x8_1).f1) from Kd.V_mk ul147_1 ge147_1)
       clear hva_ hvn_ hvc_ ge147_1 ul147_1
       have hv147_3 := hcc147 3 _ rfl
       rw [add_field _ _ 3 (by omega)] at hv147_3
       replace hv147_3 := Option.some.inj (hv147_3.symm.trans hx147_3)
       injection hv147_3 with hva_ hvn_ hvc_
       rw [hva_] at ge147_3
       rw [hvc_] at ul147_3
       have HL147_3 := Aside0.mk (show Kd.V Kd.string 9 _ w.heap.size _ _ ((rd_T65 l0 x8_1).f2.f1) from Kd.V_mk ul147_3 ge147_3)
       clear hva_ hvn_ hvc_ ge147_3 ul147_3
       clear hcc147 hce147
       have HR147_0 := Aside0.mk hi147_0
       have HC147_0 := Aside0.mk hl147_0
       clear hi147_0 hl147_0
       have HR147_1 := Aside0.mk hi147_1
       have HC147_1 := Aside0.mk hl147_1
       clear hi147_1 hl147_1
       have HR147_3 := Aside0.mk hi147_3
       have HC147_3 := Aside0.mk hl147_3
       clear hi147_3 hl147_3
       replace p147 := eq_true p147
       replace q147 := eq_true q147
       have hnb16 := NB142_141.out
       have hnc16 := NB141_142.out
       have hcz17_0 : w15.cell? ⟨gb142, 0, none⟩ = some (.string x143000_1) := (blk_cell BK142.out 0).trans rfl
       have hcz17_1 : w15.cell? ⟨gb142, 1, none⟩ = some (.slice none 0 0) := (blk_cell BK142.out 1).trans rfl
       have hfz17_0 := blk_frozen BK142.out 0
       have hfz17_1 := blk_frozen BK142.out 1
       try go_wp2
       refine bodyPost_ret (results_ct rfl _ _ gb142 43 #[.string ((rd_T65 l0 x8_1).f2.f0), .slice A145_3 ((rd_T65 l0 x8_1).f2.f1).length c145_3] (0, 0) _ rfl (by (with_reducible repeat (first | refine blk_drewN ?_ _ | refine blk_drew ?_ | refine blk_alloc ?_ _)); refine blk_put (cs := #[.string ((rd_T65 l0 x8_1).f2.f0), .slice none 0 0]) ?_ 1 _ rfl; (with_reducible repeat (first | refine blk_drewN ?_ _ | refine blk_drew ?_ | refine blk_alloc ?_ _)); refine blk_put (cs := #[.string x143000_1, .slice none 0 0]) ?_ 0 _ rfl; (with_reducible repeat (first | refine blk_drewN ?_ _ | refine blk_drew ?_ | refine blk_alloc ?_ _)); exact BK142.out) Try.underlying43 rfl (by kernel_rfl)) rfl ?_
       exact ⟨_, by first | rfl | (simp [errW_none, errW_some] <;> rfl) | (simp [*, errW_none, errW_some] <;> rfl), by (with_reducible repeat (first | apply Kd.V_alloc | apply Kd.V_drewN | apply Kd.V_drew)); exact Kd.V_mono (Kd.V_far (p := ⟨gb142, 1, none⟩) (Kd.V_far (p := ⟨gb142, 0, none⟩) (Kd.V_mono HL145_3.out (fun k_ hk => (⟨hk, hk.2.2⟩ : _ ∧ k_ ≠ gb142))) (fun _ hk => hk.2) (.string ((rd_T65 l0 x8_1).f2.f0))) (fun _ hk => hk.2) (.slice A145_3 ((rd_T65 l0 x8_1).f2.f1).length c145_3)) (fun _ hk => hk.1.1), by repeat (first | (with_reducible first | exact HB.out | apply below_alloc | apply pw_below_drewN | apply below_drew1 | refine below_set ?_ GE141.out | refine below_set ?_ GE142.out) | exact HB.out)⟩
      ·replace c11 := Bool.eq_false_iff.mpr c11
       subst c11
       have H1 : (warderref21_Whose.l0 k1 l0 l1 (wrap64 (x8_1 + 1)) a2_0 l2_1 a2_2 a2_3 l2_4 a2_5 a2_6 a2_7 a2_8 a2_9 l2_10 l2_11 l2_12 l2_13 l2_14 a2_15) = some (r1, r2, r3) := by rw [if_neg (show ¬ (false = true) by decide)] at H; exact H
       clear H
       have H := H1
       clear H1
       have H' := Aside0.mk H
       clear H
       try go_wp2
       have n0_ := Aside0.mk (Kd.V_drew HO_0.out)
       have n1_ := Aside0.mk (Kd.V_drew HO_142011.out)
       have n2_ := Aside0.mk (blk_drew BK141.out)
       have n3_ := Aside0.mk (blk_drew BK142.out)
       have n4_ := Aside0.mk (below_drew1 HB.out)
       clear HO_0
       clear HO_142011
       clear BK141
       clear BK142
       clear HB
       have HO_0 := n0_
       have HO_142011 := n1_
       have BK141 := n2_
       have BK142 := n3_
       have HB := n4_
       clear n0_ n1_ n2_ n3_ n4_
       have p143 : 0 ≤ (x8_1 : Int) := of_decide_eq_true (by first | (with_reducible assumption) | assumption)
       have q143 : x8_1 < (l0.length : Int) := of_decide_eq_true (by first | (with_reducible assumption) | assumption)
       obtain ⟨ad143, A143_0, c143_0, A143_1, c143_1, A143_3, c143_3, e143, hx143_0, hx143_1, hx143_2, hx143_3, hl143_0, hi143_0, hl143_1, hi143_1, hl143_3, hi143_3⟩ := at_T65 (Kd.V_reads' HO_0.out).2.2 x8_1 p143 q143
       cases e143
       obtain ⟨ce143, hce143, hMe143, hcc143⟩ := Kd.V_get HO_0.out z65 x8_1 p143 (by first | exact q143 | exact of_decide_eq_true (by first | (with_reducible assumption) | assumption) | (have e_ := (Kd.V_reads' HO_0.out).1; omega))
       obtain ⟨ua143_0, uc143_0, ua143_1, uc143_1, ua143_3, uc143_3, rfl, ul143_0, ge143_0, ul143_1, ge143_1, ul143_3, ge143_3⟩ := k65_openF hMe143
       have hv143_0 := hcc143 0 _ rfl
       rw [Nat.add_zero] at hv143_0
       replace hv143_0 := Option.some.inj (hv143_0.symm.trans hx143_0)
       injection hv143_0 with hva_ hvn_ hvc_
       rw [hva_] at ge143_0
       rw [hvc_] at ul143_0
       have HL143_0 := Aside0.mk (show Kd.V k35 35 _ w.heap.size _ _ ((rd_T65 l0 x8_1).f0) from Kd.V_mk ul143_0 ge143_0)
       clear hva_ hvn_ hvc_ ge143_0 ul143_0
       have hv143_1 := hcc143 1 _ rfl
       rw [add_field _ _ 1 (by omega)] at hv143_1
       replace hv143_1 := Option.some.inj (hv143_1.symm.trans hx143_1)
       injection hv143_1 with hva_ hvn_ hvc_
       rw [hva_] at ge143_1
       rw [hvc_] at ul143_1
       have HL143_1 := Aside0.mk (show Kd.V k35 35 _ w.heap.size _ _ ((rd_T65 l0 x8_1).f1) from Kd.V_mk ul143_1 ge143_1)
       clear hva_ hvn_ hvc_ ge143_1 ul143_1
       have hv143_3 := hcc143 3 _ rfl
       rw [add_field _ _ 3 (by omega)] at hv143_3
       replace hv143_3 := Option.some.inj (hv143_3.symm.trans hx143_3)
       injection hv143_3 with hva_ hvn_ hvc_
       rw [hva_] at ge143_3
       rw [hvc_] at ul143_3
       have HL143_3 := Aside0.mk (show Kd.V Kd.string 9 _ w.heap.size _ _ ((rd_T65 l0 x8_1).f2.f1) from Kd.V_mk ul143_3 ge143_3)
       clear hva_ hvn_ hvc_ ge143_3 ul143_3
       clear hcc143 hce143
       have HR143_0 := Aside0.mk hi143_0
       have HC143_0 := Aside0.mk hl143_0
       clear hi143_0 hl143_0
       have HR143_1 := Aside0.mk hi143_1
       have HC143_1 := Aside0.mk hl143_1
       clear hi143_1 hl143_1
       have HR143_3 := Aside0.mk hi143_3
       have HC143_3 := Aside0.mk hl143_3
       clear hi143_3 hl143_3
       replace p143 := eq_true p143
       replace q143 := eq_true q143
       refine start_ (n := 9) (S := fun w' => w'.cell? ⟨gb141, 0, none⟩ = some (.int .i64 a2_0) ∧ w'.cell? ⟨gb141, 1, none⟩ = some (.slice A2_1 l2_1.length c2_1) ∧ w'.cell? ⟨gb141, 2, none⟩ = some (.int .i64 a2_2) ∧ w'.cell? ⟨gb141, 3, none⟩ = some (.int .i64 a2_3) ∧ w'.cell? ⟨gb141, 4, none⟩ = some (.slice A2_4 l2_4.length c2_4) ∧ w'.cell? ⟨gb141, 5, none⟩ = some (.int .i64 a2_5) ∧ w'.cell? ⟨gb141, 6, none⟩ = some (.bool a2_6) ∧ w'.cell? ⟨gb141, 7, none⟩ = some (.bool a2_7) ∧ w'.cell? ⟨gb141, 8, none⟩ = some (.int .i64 a2_8) ∧ w'.cell? ⟨gb141, 9, none⟩ = some (.int .u16 a2_9) ∧ w'.cell? ⟨gb141, 10, none⟩ = some (.slice A2_10 l2_10.length c2_10) ∧ w'.cell? ⟨gb141, 11, none⟩ = some (.slice A2_11 l2_11.length c2_11) ∧ w'.cell? ⟨gb141, 12, none⟩ = some (.slice A2_12 l2_12.length c2_12) ∧ w'.cell? ⟨gb141, 13, none⟩ = some (.slice A2_13 l2_13.length c2_13) ∧ w'.cell? ⟨gb141, 14, none⟩ = some (.slice A2_14 l2_14.length c2_14) ∧ w'.cell? ⟨gb141, 15, none⟩ = some (.int .i64 a2_15) ∧ w'.cell? (ad143.add ((x8_1).toNat * 4)) = some (.slice A143_0 ((rd_T65 l0 x8_1).f0).length c143_0) ∧ w'.cell? ⟨(ad143.add ((x8_1).toNat * 4)).block, (ad143.add ((x8_1).toNat * 4)).off + 1, none⟩ = some (.slice A143_1 ((rd_T65 l0 x8_1).f1).length c143_1) ∧ w'.cell? ⟨(ad143.add ((x8_1).toNat * 4)).block, (ad143.add ((x8_1).toNat * 4)).off + 2, none⟩ = some (.string ((rd_T65 l0 x8_1).f2.f0)) ∧ w'.cell? ⟨(ad143.add ((x8_1).toNat * 4)).block, (ad143.add ((x8_1).toNat * 4)).off + 3, none⟩ = some (.slice A143_3 ((rd_T65 l0 x8_1).f2.f1).length c143_3)) (ds := []) #[false, false, false, false, false, false, false, false, false] (by kernel_rfl) rfl rfl ⟨(blk_cell BK141.out 0).trans rfl, (blk_cell BK141.out 1).trans rfl, (blk_cell BK141.out 2).trans rfl, (blk_cell BK141.out 3).trans rfl, (blk_cell BK141.out 4).trans rfl, (blk_cell BK141.out 5).trans rfl, (blk_cell BK141.out 6).trans rfl, (blk_cell BK141.out 7).trans rfl, (blk_cell BK141.out 8).trans rfl, (blk_cell BK141.out 9).trans rfl, (blk_cell BK141.out 10).trans rfl, (blk_cell BK141.out 11).trans rfl, (blk_cell BK141.out 12).trans rfl, (blk_cell BK141.out 13).trans rfl, (blk_cell BK141.out 14).trans rfl, (blk_cell BK141.out 15).trans rfl, hx143_0, hx143_1, hx143_2, hx143_3⟩ (fun hHeld => ?_); refine with_tabW warderref21_Whose.tab4 warderref21_Whose.bits4 (fun HT_ HW_ => ?_)
       generalize wr.drew = w18 at HO_0 HO_142011 BK141 BK142 HB HL143_0 HL143_1 HL143_3 HR143_0 HR143_1 HR143_3 hx143_0 hx143_1 hx143_2 hx143_3 hHeld ⊢
       refine pure_ (i := 0) (N := some 20) (v := ?_) (a' := ?_) #[true, false, false, false, false, false, false, false, false] rfl rfl (any_of HT_.out (by kernel_rfl)) (fun _ _ _ h => h) (Or.inl ⟨by rfl, ?_⟩) ?_ ?_
       rotate_left
       ·intro w'
        go_simp
        with_reducible rfl
       rotate_left
       ·simp only [Act.put, List.setIfInBounds_toArray, List.set_cons_zero, List.set_cons_succ, i64_w, i32_w]
        rfl
       refine pure_ (i := 1) (N := some 21) (v := ?_) (a' := ?_) #[true, true, false, false, false, false, false, false, false] rfl rfl (any_of HT_.out (by kernel_rfl)) (fun _ _ _ h => h) (Or.inl ⟨by rfl, ?_⟩) ?_ ?_
       rotate_left
       ·intro w'
        go_simp
        with_reducible rfl
       rotate_left
       ·simp only [Act.put, List.setIfInBounds_toArray, List.set_cons_zero, List.set_cons_succ, i64_w, i32_w]
        rfl
       refine pure_ (i := 2) (N := some 22) (v := ?_) (a' := ?_) #[true, true, true, false, false, false, false, false, false] rfl rfl (any_of HT_.out (by kernel_rfl)) (fun _ _ _ h => h) (Or.inl ⟨by rfl, ?_⟩) ?_ ?_
       rotate_left
       ·intro w'
        go_simp
        with_reducible rfl
       rotate_left
       ·simp only [Act.put, List.setIfInBounds_toArray, List.set_cons_zero, List.set_cons_succ, i64_w, i32_w]
        rfl
       refine pure_ (i := 3) (N := some 23) (v := ?_) (a' := ?_) #[true, true, true, true, false, false, false, false, false] rfl rfl (any_of HT_.out (by kernel_rfl)) (fun _ _ _ h => h) (Or.inl ⟨by rfl, ?_⟩) ?_ ?_
       rotate_left
       ·intro w'
        go_simp
        with_reducible rfl
       rotate_left
       ·simp only [Act.put, List.setIfInBounds_toArray, List.set_cons_zero, List.set_cons_succ, i64_w, i32_w]
        rfl
       refine pure_ (i := 5) (N := some 25) (v := ?_) (a' := ?_) #[true, true, true, true, false, true, false, false, false] rfl rfl (any_of HT_.out (by kernel_rfl)) (fun _ _ _ h => h) (Or.inl ⟨by rfl, ?_⟩) ?_ ?_
       rotate_left
       ·intro w'
        go_simp
        with_reducible rfl
       rotate_left
       ·simp only [Act.put, List.setIfInBounds_toArray, List.set_cons_zero, List.set_cons_succ, i64_w, i32_w]
        rfl
       refine take_ (i := 4) (N := some 24) (v := ?_) (a' := ?_) #[true, true, true, true, true, true, false, false, false] rfl rfl (take_ofW HT_.out HW_.out (by kernel_rfl)) (fun _ _ _ h => h) (Or.inl ⟨by rfl, ?_⟩) hHeld ?_ ?_
       rotate_left
       ·rintro w' ⟨s0, s1, s2, s3, s4, s5, s6, s7, s8, s9, s10, s11, s12, s13, s14, s15, s16, s17, s18, s19⟩
        go_simp
        with_reducible rfl
       rotate_left
       ·simp only [Act.put, List.setIfInBounds_toArray, List.set_cons_zero, List.set_cons_succ, i64_w, i32_w]
        rfl
       refine take_ (i := 6) (N := some 26) (v := ?_) (a' := ?_) #[true, true, true, true, true, true, true, false, false] rfl rfl (take_ofW HT_.out HW_.out (by kernel_rfl)) (fun _ _ _ h => h) (Or.inl ⟨by rfl, ?_⟩) hHeld ?_ ?_
       rotate_left
       ·rintro w' ⟨s0, s1, s2, s3, s4, s5, s6, s7, s8, s9, s10, s11, s12, s13, s14, s15, s16, s17, s18, s19⟩
        go_simp
        with_reducible rfl
       rotate_left
       ·simp only [Act.put, List.setIfInBounds_toArray, List.set_cons_zero, List.set_cons_succ, i64_w, i32_w]
        rfl
       refine one_ (i := 7) (N := some 27) #[true, true, true, true, true, true, true, true, false] rfl rfl (one_of HT_.out (by kernel_rfl)) (by decide) (fun K hK => ?_)
       refine goes_ Try.func35 (by kernel_rfl) rfl #[.slice A143_0 ((rd_T65 l0 x8_1).f0).length c143_0, .slice A2_4 l2_4.length c2_4] (by rfl) rfl rfl (by (try simp only [List.map_toArray, List.map_cons, List.map_nil]); first | done | rfl | (simp only [List.length_drop, List.length_take]; rfl)) ?_
       with_reducible refine (warderref09_Same.calls k1 _ _ ((rd_T65 l0 x8_1).f0) _ _ l2_4 true _ ?side1 ?side2 ?side3 ?side4 A8.out).mono ?_
       (case side1 => repeat (first | exact (by repeat (first | (with_reducible exact HR143_0.out) | (with_reducible refine Kd.C_alloc ?_ _) | (with_reducible refine Kd.C_drewN ?_ _) | (with_reducible refine Kd.C_drew ?_) | exact HR143_0.out)) | (with_reducible refine Kd.C_alloc ?_ _) | (with_reducible refine Kd.C_drewN ?_ _) | (with_reducible refine Kd.C_drew ?_)))
       (case side2 => exact HC143_0.out)
       (case side3 => repeat (first | exact (Kd.C_below HR2_4.out HB.out) | (with_reducible refine Kd.C_alloc ?_ _) | (with_reducible refine Kd.C_drewN ?_ _) | (with_reducible refine Kd.C_drew ?_)))
       (case side4 => exact HC2_4.out)
       rintro e w19 ⟨rfl, hb⟩
       have HS16_ := (hb.cell (World.block_lt_of_cell? _ _ (hHeld.2.2.2.2.2.2.2.2.2.2.2.2.2.2.2.2.1))).trans (hHeld.2.2.2.2.2.2.2.2.2.2.2.2.2.2.2.2.1)
       have HS17_ := (hb.cell (World.block_lt_of_cell? _ _ (hHeld.2.2.2.2.2.2.2.2.2.2.2.2.2.2.2.2.2.1))).trans (hHeld.2.2.2.2.2.2.2.2.2.2.2.2.2.2.2.2.2.1)
       have HS18_ := (hb.cell (World.block_lt_of_cell? _ _ (hHeld.2.2.2.2.2.2.2.2.2.2.2.2.2.2.2.2.2.2.1))).trans (hHeld.2.2.2.2.2.2.2.2.2.2.2.2.2.2.2.2.2.2.1)
       have HS19_ := (hb.cell (World.block_lt_of_cell? _ _ (hHeld.2.2.2.2.2.2.2.2.2.2.2.2.2.2.2.2.2.2.2))).trans (hHeld.2.2.2.2.2.2.2.2.2.2.2.2.2.2.2.2.2.2.2)
       refine ⟨_, rfl, ?_⟩
       have n0_ := Aside0.mk (Kd.V_below (by (with_reducible repeat (first | apply Kd.V_alloc | apply Kd.V_drewN | apply Kd.V_drew)); exact HO_0.out) hb)
       have n1_ := Aside0.mk (Kd.V_below (by (with_reducible repeat (first | apply Kd.V_alloc | apply Kd.V_drewN | apply Kd.V_drew)); exact HO_142011.out) hb)
       have n2_ := Aside0.mk (Kd.V_below (by (with_reducible repeat (first | apply Kd.V_alloc | apply Kd.V_drewN | apply Kd.V_drew)); exact HL143_0.out) hb)
       have n3_ := Aside0.mk (Kd.V_below (by (with_reducible repeat (first | apply Kd.V_alloc | apply Kd.V_drewN | apply Kd.V_drew)); exact HL143_1.out) hb)
       have n4_ := Aside0.mk (Kd.V_below (by (with_reducible repeat (first | apply Kd.V_alloc | apply Kd.V_drewN | apply Kd.V_drew)); exact HL143_3.out) hb)
       have n5_ := Aside0.mk (blk_below (g := gb141) (o := .cells #[.int .i64 a2_0, .slice A2_1 l2_1.length c2_1, .int .i64 a2_2, .int .i64 a2_3, .slice A2_4 l2_4.length c2_4, .int .i64 a2_5, .bool a2_6, .bool a2_7, .int .i64 a2_8, .int .u16 a2_9, .slice A2_10 l2_10.length c2_10, .slice A2_11 l2_11.length c2_11, .slice A2_12 l2_12.length c2_12, .slice A2_13 l2_13.length c2_13, .slice A2_14 l2_14.length c2_14, .int .i64 a2_15] 57 (0, 0)) (by (with_reducible repeat (first | refine blk_drewN ?_ _ | refine blk_drew ?_ | refine blk_alloc ?_ _)); exact BK141.out) hb)
       have n6_ := Aside0.mk (blk_below (g := gb142) (o := .cells #[.string x143000_1, .slice none 0 0] 43 (0, 0)) (by (with_reducible repeat (first | refine blk_drewN ?_ _ | refine blk_drew ?_ | refine blk_alloc ?_ _)); exact BK142.out) hb)
       have n7_ := Aside0.mk (Kd.C_below (by repeat (first | (with_reducible exact HR143_0.out) | (with_reducible refine Kd.C_alloc ?_ _) | (with_reducible refine Kd.C_drewN ?_ _) | (with_reducible refine Kd.C_drew ?_) | exact HR143_0.out)) hb)
       have n8_ := Aside0.mk (Kd.C_below (by repeat (first | (with_reducible exact HR143_1.out) | (with_reducible refine Kd.C_alloc ?_ _) | (with_reducible refine Kd.C_drewN ?_ _) | (with_reducible refine Kd.C_drew ?_) | exact HR143_1.out)) hb)
       have n9_ := Aside0.mk (Kd.C_below (by repeat (first | (with_reducible exact HR143_3.out) | (with_reducible refine Kd.C_alloc ?_ _) | (with_reducible refine Kd.C_drewN ?_ _) | (with_reducible refine Kd.C_drew ?_) | exact HR143_3.out)) hb)
       have n10_ := Aside0.mk (below_step (by repeat (first | (with_reducible first | exact HB.out | apply below_alloc | apply pw_below_drewN | apply below_drew1 | refine below_set ?_ GE141.out | refine below_set ?_ GE142.out) | exact HB.out)) hb)
       clear HO_0
       clear HO_142011
       clear HL143_0
       clear HL143_1
       clear HL143_3
       clear BK141
       clear BK142
       clear HR143_0
       clear HR143_1
       clear HR143_3
       clear HB
       have HO_0 := n0_
       have HO_142011 := n1_
       have HL143_0 := n2_
       have HL143_1 := n3_
       have HL143_3 := n4_
       have BK141 := n5_
       have BK142 := n6_
       have HR143_0 := n7_
       have HR143_1 := n8_
       have HR143_3 := n9_
       have HB := n10_
       clear n0_ n1_ n2_ n3_ n4_ n5_ n6_ n7_ n8_ n9_ n10_
       (try clear hb)
       (try clear hb2)
       (try clear hk)
       (try clear hi)
       refine hK.out _ _ ⟨(blk_cell BK141.out 0).trans rfl, (blk_cell BK141.out 1).trans rfl, (blk_cell BK141.out 2).trans rfl, (blk_cell BK141.out 3).trans rfl, (blk_cell BK141.out 4).trans rfl, (blk_cell BK141.out 5).trans rfl, (blk_cell BK141.out 6).trans rfl, (blk_cell BK141.out 7).trans rfl, (blk_cell BK141.out 8).trans rfl, (blk_cell BK141.out 9).trans rfl, (blk_cell BK141.out 10).trans rfl, (blk_cell BK141.out 11).trans rfl, (blk_cell BK141.out 12).trans rfl, (blk_cell BK141.out 13).trans rfl, (blk_cell BK141.out 14).trans rfl, (blk_cell BK141.out 15).trans rfl, HS16_, HS17_, HS18_, HS19_⟩ (fun hHeld => ?_)
       clear hK K
       refine norm_ (a' := ?_) ?_ ?_
       rotate_left
       ·show Act.put _ (some 27) _ = _
        simp only [Act.put, List.setIfInBounds_toArray, List.set_cons_zero, List.set_cons_succ, i64_w, i32_w]
        rfl
       refine pure_ (i := 8) (N := some 9) (v := ?_) (a' := ?_) #[true, true, true, true, true, true, true, true, true] rfl rfl (any_of HT_.out (by kernel_rfl)) (fun _ _ _ h => h) (Or.inl ⟨by rfl, ?_⟩) ?_ ?_
       rotate_left
       ·intro w'
        go_simp
        with_reducible rfl
       rotate_left
       ·simp only [Act.put, List.setIfInBounds_toArray, List.set_cons_zero, List.set_cons_succ, i64_w, i32_w]
        rfl
       refine done_ (done_of HT_.out (by kernel_rfl)) ?_
       try go_wp2
       have n0_ := Aside0.mk (Kd.V_drew HO_0.out)
       have n1_ := Aside0.mk (Kd.V_drew HO_142011.out)
       have n2_ := Aside0.mk (Kd.V_drew HL143_0.out)
       have n3_ := Aside0.mk (Kd.V_drew HL143_1.out)
       have n4_ := Aside0.mk (Kd.V_drew HL143_3.out)
       have n5_ := Aside0.mk (blk_drew BK141.out)
       have n6_ := Aside0.mk (blk_drew BK142.out)
       have n7_ := Aside0.mk (Kd.C_drew HR143_0.out)
       have n8_ := Aside0.mk (Kd.C_drew HR143_1.out)
       have n9_ := Aside0.mk (Kd.C_drew HR143_3.out)
       have n10_ := Aside0.mk (below_drew1 HB.out)
       clear HO_0
       clear HO_142011
       clear HL143_0
       clear HL143_1
       clear HL143_3
       clear BK141
       clear BK142
       clear HR143_0
       clear HR143_1
       clear HR143_3
       clear HB
       have HO_0 := n0_
       have HO_142011 := n1_
       have HL143_0 := n2_
       have HL143_1 := n3_
       have HL143_3 := n4_
       have BK141 := n5_
       have BK142 := n6_
       have HR143_0 := n7_
       have HR143_1 := n8_
       have HR143_3 := n9_
       have HB := n10_
       clear n0_ n1_ n2_ n3_ n4_ n5_ n6_ n7_ n8_ n9_ n10_
       have p145 : 0 ≤ (x8_1 : Int) := of_decide_eq_true (by first | (with_reducible assumption) | assumption)
       have q145 : x8_1 < (l0.length : Int) := of_decide_eq_true (by first | (with_reducible assumption) | assumption)
       obtain ⟨ad145, A145_0, c145_0, A145_1, c145_1, A145_3, c145_3, e145, hx145_0, hx145_1, hx145_2, hx145_3, hl145_0, hi145_0, hl145_1, hi145_1, hl145_3, hi145_3⟩ := at_T65 (Kd.V_reads' HO_0.out).2.2 x8_1 p145 q145
       obtain rfl : ad143 = ad145 := (by injection e145)
       obtain ⟨ce145, hce145, hMe145, hcc145⟩ := Kd.V_get HO_0.out z65 x8_1 p145 (by first | exact q145 | exact of_decide_eq_true (by first | (with_reducible assumption) | assumption) | (have e_ := (Kd.V_reads' HO_0.out).1; omega))
       obtain ⟨ua145_0, uc145_0, ua145_1, uc145_1, ua145_3, uc145_3, rfl, ul145_0, ge145_0, ul145_1, ge145_1, ul145_3, ge145_3⟩ := k65_openF hMe145
       have hv145_0 := hcc145 0 _ rfl
       rw [Nat.add_zero] at hv145_0
       replace hv145_0 := Option.some.inj (hv145_0.symm.trans hx145_0)
       injection hv145_0 with hva_ hvn_ hvc_
       rw [hva_] at ge145_0
       rw [hvc_] at ul145_0
       have HL145_0 := Aside0.mk (show Kd.V k35 35 _ w.heap.size _ _ ((rd_T65 l0 x8_1).f0) from Kd.V_mk ul145_0 ge145_0)
       clear hva_ hvn_ hvc_ ge145_0 ul145_0
       have hv145_1 := hcc145 1 _ rfl
       rw [add_field _ _ 1 (by omega)] at hv145_1
       replace hv145_1 := Option.some.inj (hv145_1.symm.trans hx145_1)
       injection hv145_1 with hva_ hvn_ hvc_
       rw [hva_] at ge145_1
       rw [hvc_] at ul145_1
       have HL145_1 := Aside0.mk (show Kd.V k35 35 _ w.heap.size _ _ ((rd_T65 l0 x8_1).f1) from Kd.V_mk ul145_1 ge145_1)
       clear hva_ hvn_ hvc_ ge145_1 ul145_1
       have hv145_3 := hcc145 3 _ rfl
       rw [add_field _ _ 3 (by omega)] at hv145_3
       replace hv145_3 := Option.some.inj (hv145_3.symm.trans hx145_3)
       injection hv145_3 with hva_ hvn_ hvc_
       rw [hva_] at ge145_3
       rw [hvc_] at ul145_3
       have HL145_3 := Aside0.mk (show Kd.V Kd.string 9 _ w.heap.size _ _ ((rd_T65 l0 x8_1).f2.f1) from Kd.V_mk ul145_3 ge145_3)
       clear hva_ hvn_ hvc_ ge145_3 ul145_3
       clear hcc145 hce145
       have HR145_0 := Aside0.mk hi145_0
       have HC145_0 := Aside0.mk hl145_0
       clear hi145_0 hl145_0
       have HR145_1 := Aside0.mk hi145_1
       have HC145_1 := Aside0.mk hl145_1
       clear hi145_1 hl145_1
       have HR145_3 := Aside0.mk hi145_3
       have HC145_3 := Aside0.mk hl145_3
       clear hi145_3 hl145_3
       replace p145 := eq_true p145
       replace q145 := eq_true q145
       refine start_ (n := 11) (S := fun w' => w'.cell? ⟨gb141, 0, none⟩ = some (.int .i64 a2_0) ∧ w'.cell? ⟨gb141, 1, none⟩ = some (.slice A2_1 l2_1.length c2_1) ∧ w'.cell? ⟨gb141, 2, none⟩ = some (.int .i64 a2_2) ∧ w'.cell? ⟨gb141, 3, none⟩ = some (.int .i64 a2_3) ∧ w'.cell? ⟨gb141, 4, none⟩ = some (.slice A2_4 l2_4.length c2_4) ∧ w'.cell? ⟨gb141, 5, none⟩ = some (.int .i64 a2_5) ∧ w'.cell? ⟨gb141, 6, none⟩ = some (.bool a2_6) ∧ w'.cell? ⟨gb141, 7, none⟩ = some (.bool a2_7) ∧ w'.cell? ⟨gb141, 8, none⟩ = some (.int .i64 a2_8) ∧ w'.cell? ⟨gb141, 9, none⟩ = some (.int .u16 a2_9) ∧ w'.cell? ⟨gb141, 10, none⟩ = some (.slice A2_10 l2_10.length c2_10) ∧ w'.cell? ⟨gb141, 11, none⟩ = some (.slice A2_11 l2_11.length c2_11) ∧ w'.cell? ⟨gb141, 12, none⟩ = some (.slice A2_12 l2_12.length c2_12) ∧ w'.cell? ⟨gb141, 13, none⟩ = some (.slice A2_13 l2_13.length c2_13) ∧ w'.cell? ⟨gb141, 14, none⟩ = some (.slice A2_14 l2_14.length c2_14) ∧ w'.cell? ⟨gb141, 15, none⟩ = some (.int .i64 a2_15) ∧ w'.cell? (ad143.add ((x8_1).toNat * 4)) = some (.slice A145_0 ((rd_T65 l0 x8_1).f0).length c145_0) ∧ w'.cell? ⟨(ad143.add ((x8_1).toNat * 4)).block, (ad143.add ((x8_1).toNat * 4)).off + 1, none⟩ = some (.slice A145_1 ((rd_T65 l0 x8_1).f1).length c145_1) ∧ w'.cell? ⟨(ad143.add ((x8_1).toNat * 4)).block, (ad143.add ((x8_1).toNat * 4)).off + 2, none⟩ = some (.string ((rd_T65 l0 x8_1).f2.f0)) ∧ w'.cell? ⟨(ad143.add ((x8_1).toNat * 4)).block, (ad143.add ((x8_1).toNat * 4)).off + 3, none⟩ = some (.slice A145_3 ((rd_T65 l0 x8_1).f2.f1).length c145_3)) (ds := []) #[false, false, false, false, false, false, false, false, false, false, false] (by kernel_rfl) rfl rfl ⟨(blk_cell BK141.out 0).trans rfl, (blk_cell BK141.out 1).trans rfl, (blk_cell BK141.out 2).trans rfl, (blk_cell BK141.out 3).trans rfl, (blk_cell BK141.out 4).trans rfl, (blk_cell BK141.out 5).trans rfl, (blk_cell BK141.out 6).trans rfl, (blk_cell BK141.out 7).trans rfl, (blk_cell BK141.out 8).trans rfl, (blk_cell BK141.out 9).trans rfl, (blk_cell BK141.out 10).trans rfl, (blk_cell BK141.out 11).trans rfl, (blk_cell BK141.out 12).trans rfl, (blk_cell BK141.out 13).trans rfl, (blk_cell BK141.out 14).trans rfl, (blk_cell BK141.out 15).trans rfl, hx145_0, hx145_1, hx145_2, hx145_3⟩ (fun hHeld => ?_); refine with_tabW warderref21_Whose.tab5 warderref21_Whose.bits5 (fun HT_ HW_ => ?_)
       generalize w19.drew = w20 at HO_0 HO_142011 HL143_0 HL143_1 HL143_3 BK141 BK142 HR143_0 HR143_1 HR143_3 HB HL145_0 HL145_1 HL145_3 HR145_0 HR145_1 HR145_3 hx145_0 hx145_1 hx145_2 hx145_3 hHeld ⊢
       refine pure_ (i := 0) (N := some 28) (v := ?_) (a' := ?_) #[true, false, false, false, false, false, false, false, false, false, false] rfl rfl (any_of HT_.out (by kernel_rfl)) (fun _ _ _ h => h) (Or.inl ⟨by rfl, ?_⟩) ?_ ?_
       rotate_left
       ·intro w'
        go_simp
        with_reducible rfl
       rotate_left
       ·simp only [Act.put, List.setIfInBounds_toArray, List.set_cons_zero, List.set_cons_succ, i64_w, i32_w]
        rfl
       refine pure_ (i := 1) (N := some 29) (v := ?_) (a' := ?_) #[true, true, false, false, false, false, false, false, false, false, false] rfl rfl (any_of HT_.out (by kernel_rfl)) (fun _ _ _ h => h) (Or.inl ⟨by rfl, ?_⟩) ?_ ?_
       rotate_left
       ·intro w'
        go_simp
        with_reducible rfl
       rotate_left
       ·simp only [Act.put, List.setIfInBounds_toArray, List.set_cons_zero, List.set_cons_succ, i64_w, i32_w]
        rfl
       refine pure_ (i := 2) (N := some 30) (v := ?_) (a' := ?_) #[true, true, true, false, false, false, false, false, false, false, false] rfl rfl (any_of HT_.out (by kernel_rfl)) (fun _ _ _ h => h) (Or.inl ⟨by rfl, ?_⟩) ?_ ?_
       rotate_left
       ·intro w'
        go_simp
        with_reducible rfl
       rotate_left
       ·simp only [Act.put, List.setIfInBounds_toArray, List.set_cons_zero, List.set_cons_succ, i64_w, i32_w]
        rfl
       refine pure_ (i := 3) (N := some 31) (v := ?_) (a' := ?_) #[true, true, true, true, false, false, false, false, false, false, false] rfl rfl (any_of HT_.out (by kernel_rfl)) (fun _ _ _ h => h) (Or.inl ⟨by rfl, ?_⟩) ?_ ?_
       rotate_left
       ·intro w'
        go_simp
        with_reducible rfl
       rotate_left
       ·simp only [Act.put, List.setIfInBounds_toArray, List.set_cons_zero, List.set_cons_succ, i64_w, i32_w]
        rfl
       refine pure_ (i := 4) (N := some 32) (v := ?_) (a' := ?_) #[true, true, true, true, true, false, false, false, false, false, false] rfl rfl (any_of HT_.out (by kernel_rfl)) (fun _ _ _ h => h) (Or.inl ⟨by rfl, ?_⟩) ?_ ?_
       rotate_left
       ·intro w'
        go_simp
        with_reducible rfl
       rotate_left
       ·simp only [Act.put, List.setIfInBounds_toArray, List.set_cons_zero, List.set_cons_succ, i64_w, i32_w]
        rfl
       refine pure_ (i := 5) (N := some 33) (v := ?_) (a' := ?_) #[true, true, true, true, true, true, false, false, false, false, false] rfl rfl (any_of HT_.out (by kernel_rfl)) (fun _ _ _ h => h) (Or.inl ⟨by rfl, ?_⟩) ?_ ?_
       rotate_left
       ·intro w'
        go_simp
        with_reducible rfl
       rotate_left
       ·simp only [Act.put, List.setIfInBounds_toArray, List.set_cons_zero, List.set_cons_succ, i64_w, i32_w]
        rfl
       refine pure_ (i := 7) (N := some 35) (v := ?_) (a' := ?_) #[true, true, true, true, true, true, false, true, false, false, false] rfl rfl (any_of HT_.out (by kernel_rfl)) (fun _ _ _ h => h) (Or.inl ⟨by rfl, ?_⟩) ?_ ?_
       rotate_left
       ·intro w'
        go_simp
        with_reducible rfl
       rotate_left
       ·simp only [Act.put, List.setIfInBounds_toArray, List.set_cons_zero, List.set_cons_succ, i64_w, i32_w]
        rfl
       refine take_ (i := 6) (N := some 34) (v := ?_) (a' := ?_) #[true, true, true, true, true, true, true, true, false, false, false] rfl rfl (take_ofW HT_.out HW_.out (by kernel_rfl)) (fun _ _ _ h => h) (Or.inl ⟨by rfl, ?_⟩) hHeld ?_ ?_
       rotate_left
       ·rintro w' ⟨s0, s1, s2, s3, s4, s5, s6, s7, s8, s9, s10, s11, s12, s13, s14, s15, s16, s17, s18, s19⟩
        go_simp
        with_reducible rfl
       rotate_left
       ·simp only [Act.put, List.setIfInBounds_toArray, List.set_cons_zero, List.set_cons_succ, i64_w, i32_w]
        rfl
       refine take_ (i := 8) (N := some 36) (v := ?_) (a' := ?_) #[true, true, true, true, true, true, true, true, true, false, false] rfl rfl (take_ofW HT_.out HW_.out (by kernel_rfl)) (fun _ _ _ h => h) (Or.inl ⟨by rfl, ?_⟩) hHeld ?_ ?_
       rotate_left
       ·rintro w' ⟨s0, s1, s2, s3, s4, s5, s6, s7, s8, s9, s10, s11, s12, s13, s14, s15, s16, s17, s18, s19⟩
        go_simp
        with_reducible rfl
       rotate_left
       ·simp only [Act.put, List.setIfInBounds_toArray, List.set_cons_zero, List.set_cons_succ, i64_w, i32_w]
        rfl
       refine one_ (i := 9) (N := some 37) #[true, true, true, true, true, true, true, true, true, true, false] rfl rfl (one_of HT_.out (by kernel_rfl)) (by decide) (fun K hK => ?_)
       refine goes_ Try.func35 (by kernel_rfl) rfl #[.slice A145_1 ((rd_T65 l0 x8_1).f1).length c145_1, .slice A2_1 l2_1.length c2_1] (by rfl) rfl rfl (by (try simp only [List.map_toArray, List.map_cons, List.map_nil]); first | done | rfl | (simp only [List.length_drop, List.length_take]; rfl)) ?_
       with_reducible refine (warderref09_Same.calls k1 _ _ ((rd_T65 l0 x8_1).f1) _ _ l2_1 false _ ?side1 ?side2 ?side3 ?side4 A10.out).mono ?_
       (case side1 => repeat (first | exact (by repeat (first | (with_reducible exact HR145_1.out) | (with_reducible refine Kd.C_alloc ?_ _) | (with_reducible refine Kd.C_drewN ?_ _) | (with_reducible refine Kd.C_drew ?_) | exact HR145_1.out)) | (with_reducible refine Kd.C_alloc ?_ _) | (with_reducible refine Kd.C_drewN ?_ _) | (with_reducible refine Kd.C_drew ?_)))
       (case side2 => exact HC145_1.out)
       (case side3 => repeat (first | exact (Kd.C_below HR2_1.out HB.out) | (with_reducible refine Kd.C_alloc ?_ _) | (with_reducible refine Kd.C_drewN ?_ _) | (with_reducible refine Kd.C_drew ?_)))
       (case side4 => exact HC2_1.out)
       rintro e w21 ⟨rfl, hb⟩
       have HS16_ := (hb.cell (World.block_lt_of_cell? _ _ (hHeld.2.2.2.2.2.2.2.2.2.2.2.2.2.2.2.2.1))).trans (hHeld.2.2.2.2.2.2.2.2.2.2.2.2.2.2.2.2.1)
       have HS17_ := (hb.cell (World.block_lt_of_cell? _ _ (hHeld.2.2.2.2.2.2.2.2.2.2.2.2.2.2.2.2.2.1))).trans (hHeld.2.2.2.2.2.2.2.2.2.2.2.2.2.2.2.2.2.1)
       have HS18_ := (hb.cell (World.block_lt_of_cell? _ _ (hHeld.2.2.2.2.2.2.2.2.2.2.2.2.2.2.2.2.2.2.1))).trans (hHeld.2.2.2.2.2.2.2.2.2.2.2.2.2.2.2.2.2.2.1)
       have HS19_ := (hb.cell (World.block_lt_of_cell? _ _ (hHeld.2.2.2.2.2.2.2.2.2.2.2.2.2.2.2.2.2.2.2))).trans (hHeld.2.2.2.2.2.2.2.2.2.2.2.2.2.2.2.2.2.2.2)
       refine ⟨_, rfl, ?_⟩
       have n0_ := Aside0.mk (Kd.V_below (by (with_reducible repeat (first | apply Kd.V_alloc | apply Kd.V_drewN | apply Kd.V_drew)); exact HO_0.out) hb)
       have n1_ := Aside0.mk (Kd.V_below (by (with_reducible repeat (first | apply Kd.V_alloc | apply Kd.V_drewN | apply Kd.V_drew)); exact HO_142011.out) hb)
       have n2_ := Aside0.mk (Kd.V_below (by (with_reducible repeat (first | apply Kd.V_alloc | apply Kd.V_drewN | apply Kd.V_drew)); exact HL143_0.out) hb)
       have n3_ := Aside0.mk (Kd.V_below (by (with_reducible repeat (first | apply Kd.V_alloc | apply Kd.V_drewN | apply Kd.V_drew)); exact HL143_1.out) hb)
       have n4_ := Aside0.mk (Kd.V_below (by (with_reducible repeat (first | apply Kd.V_alloc | apply Kd.V_drewN | apply Kd.V_drew)); exact HL143_3.out) hb)
       have n5_ := Aside0.mk (Kd.V_below (by (with_reducible repeat (first | apply Kd.V_alloc | apply Kd.V_drewN | apply Kd.V_drew)); exact HL145_0.out) hb)
       have n6_ := Aside0.mk (Kd.V_below (by (with_reducible repeat (first | apply Kd.V_alloc | apply Kd.V_drewN | apply Kd.V_drew)); exact HL145_1.out) hb)
       have n7_ := Aside0.mk (Kd.V_below (by (with_reducible repeat (first | apply Kd.V_alloc | apply Kd.V_drewN | apply Kd.V_drew)); exact HL145_3.out) hb)
       have n8_ := Aside0.mk (blk_below (g := gb141) (o := .cells #[.int .i64 a2_0, .slice A2_1 l2_1.length c2_1, .int .i64 a2_2, .int .i64 a2_3, .slice A2_4 l2_4.length c2_4, .int .i64 a2_5, .bool a2_6, .bool a2_7, .int .i64 a2_8, .int .u16 a2_9, .slice A2_10 l2_10.length c2_10, .slice A2_11 l2_11.length c2_11, .slice A2_12 l2_12.length c2_12, .slice A2_13 l2_13.length c2_13, .slice A2_14 l2_14.length c2_14, .int .i64 a2_15] 57 (0, 0)) (by (with_reducible repeat (first | refine blk_drewN ?_ _ | refine blk_drew ?_ | refine blk_alloc ?_ _)); exact BK141.out) hb)
       have n9_ := Aside0.mk (blk_below (g := gb142) (o := .cells #[.string x143000_1, .slice none 0 0] 43 (0, 0)) (by (with_reducible repeat (first | refine blk_drewN ?_ _ | refine blk_drew ?_ | refine blk_alloc ?_ _)); exact BK142.out) hb)
       have n10_ := Aside0.mk (Kd.C_below (by repeat (first | (with_reducible exact HR143_0.out) | (with_reducible refine Kd.C_alloc ?_ _) | (with_reducible refine Kd.C_drewN ?_ _) | (with_reducible refine Kd.C_drew ?_) | exact HR143_0.out)) hb)
       have n11_ := Aside0.mk (Kd.C_below (by repeat (first | (with_reducible exact HR143_1.out) | (with_reducible refine Kd.C_alloc ?_ _) | (with_reducible refine Kd.C_drewN ?_ _) | (with_reducible refine Kd.C_drew ?_) | exact HR143_1.out)) hb)
       have n12_ := Aside0.mk (Kd.C_below (by repeat (first | (with_reducible exact HR143_3.out) | (with_reducible refine Kd.C_alloc ?_ _) | (with_reducible refine Kd.C_drewN ?_ _) | (with_reducible refine Kd.C_drew ?_) | exact HR143_3.out)) hb)
       have n13_ := Aside0.mk (Kd.C_below (by repeat (first | (with_reducible exact HR145_0.out) | (with_reducible refine Kd.C_alloc ?_ _) | (with_reducible refine Kd.C_drewN ?_ _) | (with_reducible refine Kd.C_drew ?_) | exact HR145_0.out)) hb)
       have n14_ := Aside0.mk (Kd.C_below (by repeat (first | (with_reducible exact HR145_1.out) | (with_reducible refine Kd.C_alloc ?_ _) | (with_reducible refine Kd.C_drewN ?_ _) | (with_reducible refine Kd.C_drew ?_) | exact HR145_1.out)) hb)
       have n15_ := Aside0.mk (Kd.C_below (by repeat (first | (with_reducible exact HR145_3.out) | (with_reducible refine Kd.C_alloc ?_ _) | (with_reducible refine Kd.C_drewN ?_ _) | (with_reducible refine Kd.C_drew ?_) | exact HR145_3.out)) hb)
       have n16_ := Aside0.mk (below_step (by repeat (first | (with_reducible first | exact HB.out | apply below_alloc | apply pw_below_drewN | apply below_drew1 | refine below_set ?_ GE141.out | refine below_set ?_ GE142.out) | exact HB.out)) hb)
       clear HO_0
       clear HO_142011
       clear HL143_0
       clear HL143_1
       clear HL143_3
       clear HL145_0
       clear HL145_1
       clear HL145_3
       clear BK141
       clear BK142
       clear HR143_0
       clear HR143_1
       clear HR143_3
       clear HR145_0
       clear HR145_1
       clear HR145_3
       clear HB
       have HO_0 := n0_
       have HO_142011 := n1_
       have HL143_0 := n2_
       have HL143_1 := n3_
       have HL143_3 := n4_
       have HL145_0 := n5_
       have HL145_1 := n6_
       have HL145_3 := n7_
       have BK141 := n8_
       have BK142 := n9_
       have HR143_0 := n10_
       have HR143_1 := n11_
       have HR143_3 := n12_
       have HR145_0 := n13_
       have HR145_1 := n14_
       have HR145_3 := n15_
       have HB := n16_
       clear n0_ n1_ n2_ n3_ n4_ n5_ n6_ n7_ n8_ n9_ n10_ n11_ n12_ n13_ n14_ n15_ n16_
       (try clear hb)
       (try clear hb2)
       (try clear hk)
       (try clear hi)
       refine hK.out _ _ ⟨(blk_cell BK141.out 0).trans rfl, (blk_cell BK141.out 1).trans rfl, (blk_cell BK141.out 2).trans rfl, (blk_cell BK141.out 3).trans rfl, (blk_cell BK141.out 4).trans rfl, (blk_cell BK141.out 5).trans rfl, (blk_cell BK141.out 6).trans rfl, (blk_cell BK141.out 7).trans rfl, (blk_cell BK141.out 8).trans rfl, (blk_cell BK141.out 9).trans rfl, (blk_cell BK141.out 10).trans rfl, (blk_cell BK141.out 11).trans rfl, (blk_cell BK141.out 12).trans rfl, (blk_cell BK141.out 13).trans rfl, (blk_cell BK141.out 14).trans rfl, (blk_cell BK141.out 15).trans rfl, HS16_, HS17_, HS18_, HS19_⟩ (fun hHeld => ?_)
       clear hK K
       refine norm_ (a' := ?_) ?_ ?_
       rotate_left
       ·show Act.put _ (some 37) _ = _
        simp only [Act.put, List.setIfInBounds_toArray, List.set_cons_zero, List.set_cons_succ, i64_w, i32_w]
        rfl
       refine pure_ (i := 10) (N := some 38) (v := ?_) (a' := ?_) #[true, true, true, true, true, true, true, true, true, true, true] rfl rfl (any_of HT_.out (by kernel_rfl)) (fun _ _ _ h => h) (Or.inl ⟨by rfl, ?_⟩) ?_ ?_
       rotate_left
       ·intro w'
        go_simp
        with_reducible rfl
       rotate_left
       ·simp only [Act.put, List.setIfInBounds_toArray, List.set_cons_zero, List.set_cons_succ, i64_w, i32_w]
        rfl
       refine done_ (done_of HT_.out (by kernel_rfl)) ?_
       try go_wp2
       go_roundg k1
       case measure => have := HK1.out; omega
       case rel => exact ⟨(wrap64 (x8_1 + 1)), (x143000_1), (by first | rfl | (simp; done) | (simp [*]; done)), H', ⟨by have := HK1.out; omega⟩, ⟨by (with_reducible repeat (first | apply Kd.V_alloc | apply Kd.V_drewN | apply Kd.V_drew)); exact HO_0.out⟩, ⟨by (with_reducible repeat (first | apply Kd.V_alloc | apply Kd.V_drewN | apply Kd.V_drew)); exact HO_142011.out⟩, ⟨by (with_reducible repeat (first | refine blk_drewN ?_ _ | refine blk_drew ?_ | refine blk_alloc ?_ _)); exact BK141.out⟩, ⟨by (with_reducible repeat (first | refine blk_drewN ?_ _ | refine blk_drew ?_ | refine blk_alloc ?_ _)); exact BK142.out⟩, ⟨by repeat (first | (with_reducible first | exact HB.out | apply below_alloc | apply pw_below_drewN | apply below_drew1 | refine below_set ?_ GE141.out | refine below_set ?_ GE142.out) | exact HB.out)⟩⟩
     ·replace c9 := Bool.eq_false_iff.mpr c9
      subst c9
      have H1 : (warderref21_Whose.l0 k1 l0 l1 (wrap64 (x8_1 + 1)) a2_0 l2_1 a2_2 a2_3 l2_4 a2_5 a2_6 a2_7 a2_8 a2_9 l2_10 l2_11 l2_12 l2_13 l2_14 a2_15) = some (r1, r2, r3) := by rw [if_neg (show ¬ (false = true) by decide)] at H; exact H
      clear H
      have H := H1
      clear H1
      have H' := Aside0.mk H
      clear H
      try go_wp2
      have n0_ := Aside0.mk (Kd.V_drew HO_0.out)
      have n1_ := Aside0.mk (Kd.V_drew HO_142011.out)
      have n2_ := Aside0.mk (blk_drew BK141.out)
      have n3_ := Aside0.mk (blk_drew BK142.out)
      have n4_ := Aside0.mk (below_drew1 HB.out)
      clear HO_0
      clear HO_142011
      clear BK141
      clear BK142
      clear HB
      have HO_0 := n0_
      have HO_142011 := n1_
      have BK141 := n2_
      have BK142 := n3_
      have HB := n4_
      clear n0_ n1_ n2_ n3_ n4_
      have p143 : 0 ≤ (x8_1 : Int) := of_decide_eq_true (by first | (with_reducible assumption) | assumption)
      have q143 : x8_1 < (l0.length : Int) := of_decide_eq_true (by first | (with_reducible assumption) | assumption)
      obtain ⟨ad143, A143_0, c143_0, A143_1, c143_1, A143_3, c143_3, e143, hx143_0, hx143_1, hx143_2, hx143_3, hl143_0, hi143_0, hl143_1, hi143_1, hl143_3, hi143_3⟩ := at_T65 (Kd.V_reads' HO_0.out).2.2 x8_1 p143 q143
      cases e143
      obtain ⟨ce143, hce143, hMe143, hcc143⟩ := Kd.V_get HO_0.out z65 x8_1 p143 (by first | exact q143 | exact of_decide_eq_true (by first | (with_reducible assumption) | assumption) | (have e_ := (Kd.V_reads' HO_0.out).1; omega))
      obtain ⟨ua143_0, uc143_0, ua143_1, uc143_1, ua143_3, uc143_3, rfl, ul143_0, ge143_0, ul143_1, ge143_1, ul143_3, ge143_3⟩ := k65_openF hMe143
      have hv143_0 := hcc143 0 _ rfl
      rw [Nat.add_zero] at hv143_0
      replace hv143_0 := Option.some.inj (hv143_0.symm.trans hx143_0)
      injection hv143_0 with hva_ hvn_ hvc_
      rw [hva_] at ge143_0
      rw [hvc_] at ul143_0
      have HL143_0 := Aside0.mk (show Kd.V k35 35 _ w.heap.size _ _ ((rd_T65 l0 x8_1).f0) from Kd.V_mk ul143_0 ge143_0)
      clear hva_ hvn_ hvc_ ge143_0 ul143_0
      have hv143_1 := hcc143 1 _ rfl
      rw [add_field _ _ 1 (by omega)] at hv143_1
      replace hv143_1 := Option.some.inj (hv143_1.symm.trans hx143_1)
      injection hv143_1 with hva_ hvn_ hvc_
      rw [hva_] at ge143_1
      rw [hvc_] at ul143_1
      have HL143_1 := Aside0.mk (show Kd.V k35 35 _ w.heap.size _ _ ((rd_T65 l0 x8_1).f1) from Kd.V_mk ul143_1 ge143_1)
      clear hva_ hvn_ hvc_ ge143_1 ul143_1
      have hv143_3 := hcc143 3 _ rfl
      rw [add_field _ _ 3 (by omega)] at hv143_3
      replace hv143_3 := Option.some.inj (hv143_3.symm.trans hx143_3)
      injection hv143_3 with hva_ hvn_ hvc_
      rw [hva_] at ge143_3
      rw [hvc_] at ul143_3
      have HL143_3 := Aside0.mk (show Kd.V Kd.string 9 _ w.heap.size _ _ ((rd_T65 l0 x8_1).f2.f1) from Kd.V_mk ul143_3 ge143_3)
      clear hva_ hvn_ hvc_ ge143_3 ul143_3
      clear hcc143 hce143
      have HR143_0 := Aside0.mk hi143_0
      have HC143_0 := Aside0.mk hl143_0
      clear hi143_0 hl143_0
      have HR143_1 := Aside0.mk hi143_1
      have HC143_1 := Aside0.mk hl143_1
      clear hi143_1 hl143_1
      have HR143_3 := Aside0.mk hi143_3
      have HC143_3 := Aside0.mk hl143_3
      clear hi143_3 hl143_3
      replace p143 := eq_true p143
      replace q143 := eq_true q143
      refine start_ (n := 9) (S := fun w' => w'.cell? ⟨gb141, 0, none⟩ = some (.int .i64 a2_0) ∧ w'.cell? ⟨gb141, 1, none⟩ = some (.slice A2_1 l2_1.length c2_1) ∧ w'.cell? ⟨gb141, 2, none⟩ = some (.int .i64 a2_2) ∧ w'.cell? ⟨gb141, 3, none⟩ = some (.int .i64 a2_3) ∧ w'.cell? ⟨gb141, 4, none⟩ = some (.slice A2_4 l2_4.length c2_4) ∧ w'.cell? ⟨gb141, 5, none⟩ = some (.int .i64 a2_5) ∧ w'.cell? ⟨gb141, 6, none⟩ = some (.bool a2_6) ∧ w'.cell? ⟨gb141, 7, none⟩ = some (.bool a2_7) ∧ w'.cell? ⟨gb141, 8, none⟩ = some (.int .i64 a2_8) ∧ w'.cell? ⟨gb141, 9, none⟩ = some (.int .u16 a2_9) ∧ w'.cell? ⟨gb141, 10, none⟩ = some (.slice A2_10 l2_10.length c2_10) ∧ w'.cell? ⟨gb141, 11, none⟩ = some (.slice A2_11 l2_11.length c2_11) ∧ w'.cell? ⟨gb141, 12, none⟩ = some (.slice A2_12 l2_12.length c2_12) ∧ w'.cell? ⟨gb141, 13, none⟩ = some (.slice A2_13 l2_13.length c2_13) ∧ w'.cell? ⟨gb141, 14, none⟩ = some (.slice A2_14 l2_14.length c2_14) ∧ w'.cell? ⟨gb141, 15, none⟩ = some (.int .i64 a2_15) ∧ w'.cell? (ad143.add ((x8_1).toNat * 4)) = some (.slice A143_0 ((rd_T65 l0 x8_1).f0).length c143_0) ∧ w'.cell? ⟨(ad143.add ((x8_1).toNat * 4)).block, (ad143.add ((x8_1).toNat * 4)).off + 1, none⟩ = some (.slice A143_1 ((rd_T65 l0 x8_1).f1).length c143_1) ∧ w'.cell? ⟨(ad143.add ((x8_1).toNat * 4)).block, (ad143.add ((x8_1).toNat * 4)).off + 2, none⟩ = some (.string ((rd_T65 l0 x8_1).f2.f0)) ∧ w'.cell? ⟨(ad143.add ((x8_1).toNat * 4)).block, (ad143.add ((x8_1).toNat * 4)).off + 3, none⟩ = some (.slice A143_3 ((rd_T65 l0 x8_1).f2.f1).length c143_3)) (ds := []) #[false, false, false, false, false, false, false, false, false] (by kernel_rfl) rfl rfl ⟨(blk_cell BK141.out 0).trans rfl, (blk_cell BK141.out 1).trans rfl, (blk_cell BK141.out 2).trans rfl, (blk_cell BK141.out 3).trans rfl, (blk_cell BK141.out 4).trans rfl, (blk_cell BK141.out 5).trans rfl, (blk_cell BK141.out 6).trans rfl, (blk_cell BK141.out 7).trans rfl, (blk_cell BK141.out 8).trans rfl, (blk_cell BK141.out 9).trans rfl, (blk_cell BK141.out 10).trans rfl, (blk_cell BK141.out 11).trans rfl, (blk_cell BK141.out 12).trans rfl, (blk_cell BK141.out 13).trans rfl, (blk_cell BK141.out 14).trans rfl, (blk_cell BK141.out 15).trans rfl, hx143_0, hx143_1, hx143_2, hx143_3⟩ (fun hHeld => ?_); refine with_tabW warderref21_Whose.tab4 warderref21_Whose.bits4 (fun HT_ HW_ => ?_)
      generalize wr.drew = w22 at HO_0 HO_142011 BK141 BK142 HB HL143_0 HL143_1 HL143_3 HR143_0 HR143_1 HR143_3 hx143_0 hx143_1 hx143_2 hx143_3 hHeld ⊢
      refine pure_ (i := 0) (N := some 20) (v := ?_) (a' := ?_) #[true, false, false, false, false, false, false, false, false] rfl rfl (any_of HT_.out (by kernel_rfl)) (fun _ _ _ h => h) (Or.inl ⟨by rfl, ?_⟩) ?_ ?_
      rotate_left
      ·intro w'
       go_simp
       with_reducible rfl
      rotate_left
      ·simp only [Act.put, List.setIfInBounds_toArray, List.set_cons_zero, List.set_cons_succ, i64_w, i32_w]
       rfl
      refine pure_ (i := 1) (N := some 21) (v := ?_) (a' := ?_) #[true, true, false, false, false, false, false, false, false] rfl rfl (any_of HT_.out (by kernel_rfl)) (fun _ _ _ h => h) (Or.inl ⟨by rfl, ?_⟩) ?_ ?_
      rotate_left
      ·intro w'
       go_simp
       with_reducible rfl
      rotate_left
      ·simp only [Act.put, List.setIfInBounds_toArray, List.set_cons_zero, List.set_cons_succ, i64_w, i32_w]
       rfl
      refine pure_ (i := 2) (N := some 22) (v := ?_) (a' := ?_) #[true, true, true, false, false, false, false, false, false] rfl rfl (any_of HT_.out (by kernel_rfl)) (fun _ _ _ h => h) (Or.inl ⟨by rfl, ?_⟩) ?_ ?_
      rotate_left
      ·intro w'
       go_simp
       with_reducible rfl
      rotate_left
      ·simp only [Act.put, List.setIfInBounds_toArray, List.set_cons_zero, List.set_cons_succ, i64_w, i32_w]
       rfl
      refine pure_ (i := 3) (N := some 23) (v := ?_) (a' := ?_) #[true, true, true, true, false, false, false, false, false] rfl rfl (any_of HT_.out (by kernel_rfl)) (fun _ _ _ h => h) (Or.inl ⟨by rfl, ?_⟩) ?_ ?_
      rotate_left
      ·intro w'
       go_simp
       with_reducible rfl
      rotate_left
      ·simp only [Act.put, List.setIfInBounds_toArray, List.set_cons_zero, List.set_cons_succ, i64_w, i32_w]
       rfl
      refine pure_ (i := 5) (N := some 25) (v := ?_) (a' := ?_) #[true, true, true, true, false, true, false, false, false] rfl rfl (any_of HT_.out (by kernel_rfl)) (fun _ _ _ h => h) (Or.inl ⟨by rfl, ?_⟩) ?_ ?_
      rotate_left
      ·intro w'
       go_simp
       with_reducible rfl
      rotate_left
      ·simp only [Act.put, List.setIfInBounds_toArray, List.set_cons_zero, List.set_cons_succ, i64_w, i32_w]
       rfl
      refine take_ (i := 4) (N := some 24) (v := ?_) (a' := ?_) #[true, true, true, true, true, true, false, false, false] rfl rfl (take_ofW HT_.out HW_.out (by kernel_rfl)) (fun _ _ _ h => h) (Or.inl ⟨by rfl, ?_⟩) hHeld ?_ ?_
      rotate_left
      ·rintro w' ⟨s0, s1, s2, s3, s4, s5, s6, s7, s8, s9, s10, s11, s12, s13, s14, s15, s16, s17, s18, s19⟩
       go_simp
       with_reducible rfl
      rotate_left
      ·simp only [Act.put, List.setIfInBounds_toArray, List.set_cons_zero, List.set_cons_succ, i64_w, i32_w]
       rfl
      refine take_ (i := 6) (N := some 26) (v := ?_) (a' := ?_) #[true, true, true, true, true, true, true, false, false] rfl rfl (take_ofW HT_.out HW_.out (by kernel_rfl)) (fun _ _ _ h => h) (Or.inl ⟨by rfl, ?_⟩) hHeld ?_ ?_
      rotate_left
      ·rintro w' ⟨s0, s1, s2, s3, s4, s5, s6, s7, s8, s9, s10, s11, s12, s13, s14, s15, s16, s17, s18, s19⟩
       go_simp
       with_reducible rfl
      rotate_left
      ·simp only [Act.put, List.setIfInBounds_toArray, List.set_cons_zero, List.set_cons_succ, i64_w, i32_w]
       rfl
      refine one_ (i := 7) (N := some 27) #[true, true, true, true, true, true, true, true, false] rfl rfl (one_of HT_.out (by kernel_rfl)) (by decide) (fun K hK => ?_)
      refine goes_ Try.func35 (by kernel_rfl) rfl #[.slice A143_0 ((rd_T65 l0 x8_1).f0).length c143_0, .slice A2_4 l2_4.length c2_4] (by rfl) rfl rfl (by (try simp only [List.map_toArray, List.map_cons, List.map_nil]); first | done | rfl | (simp only [List.length_drop, List.length_take]; rfl)) ?_
      with_reducible refine (warderref09_Same.calls k1 _ _ ((rd_T65 l0 x8_1).f0) _ _ l2_4 false _ ?side1 ?side2 ?side3 ?side4 A8.out).mono ?_
      (case side1 => repeat (first | exact (by repeat (first | (with_reducible exact HR143_0.out) | (with_reducible refine Kd.C_alloc ?_ _) | (with_reducible refine Kd.C_drewN ?_ _) | (with_reducible refine Kd.C_drew ?_) | exact HR143_0.out)) | (with_reducible refine Kd.C_alloc ?_ _) | (with_reducible refine Kd.C_drewN ?_ _) | (with_reducible refine Kd.C_drew ?_)))
      (case side2 => exact HC143_0.out)
      (case side3 => repeat (first | exact (Kd.C_below HR2_4.out HB.out) | (with_reducible refine Kd.C_alloc ?_ _) | (with_reducible refine Kd.C_drewN ?_ _) | (with_reducible refine Kd.C_drew ?_)))
      (case side4 => exact HC2_4.out)
      rintro e w23 ⟨rfl, hb⟩
      have HS16_ := (hb.cell (World.block_lt_of_cell? _ _ (hHeld.2.2.2.2.2.2.2.2.2.2.2.2.2.2.2.2.1))).trans (hHeld.2.2.2.2.2.2.2.2.2.2.2.2.2.2.2.2.1)
      have HS17_ := (hb.cell (World.block_lt_of_cell? _ _ (hHeld.2.2.2.2.2.2.2.2.2.2.2.2.2.2.2.2.2.1))).trans (hHeld.2.2.2.2.2.2.2.2.2.2.2.2.2.2.2.2.2.1)
      have HS18_ := (hb.cell (World.block_lt_of_cell? _ _ (hHeld.2.2.2.2.2.2.2.2.2.2.2.2.2.2.2.2.2.2.1))).trans (hHeld.2.2.2.2.2.2.2.2.2.2.2.2.2.2.2.2.2.2.1)
      have HS19_ := (hb.cell (World.block_lt_of_cell? _ _ (hHeld.2.2.2.2.2.2.2.2.2.2.2.2.2.2.2.2.2.2.2))).trans (hHeld.2.2.2.2.2.2.2.2.2.2.2.2.2.2.2.2.2.2.2)
      refine ⟨_, rfl, ?_⟩
      have n0_ := Aside0.mk (Kd.V_below (by (with_reducible repeat (first | apply Kd.V_alloc | apply Kd.V_drewN | apply Kd.V_drew)); exact HO_0.out) hb)
      have n1_ := Aside0.mk (Kd.V_below (by (with_reducible repeat (first | apply Kd.V_alloc | apply Kd.V_drewN | apply Kd.V_drew)); exact HO_142011.out) hb)
      have n2_ := Aside0.mk (Kd.V_below (by (with_reducible repeat (first | apply Kd.V_alloc | apply Kd.V_drewN | apply Kd.V_drew)); exact HL143_0.out) hb)
      have n3_ := Aside0.mk (Kd.V_below (by (with_reducible repeat (first | apply Kd.V_alloc | apply Kd.V_drewN | apply Kd.V_drew)); exact HL143_1.out) hb)
      have n4_ := Aside0.mk (Kd.V_below (by (with_reducible repeat (first | apply Kd.V_alloc | apply Kd.V_drewN | apply Kd.V_drew)); exact HL143_3.out) hb)
      have n5_ := Aside0.mk (blk_below (g := gb141) (o := .cells #[.int .i64 a2_0, .slice A2_1 l2_1.length c2_1, .int .i64 a2_2, .int .i64 a2_3, .slice A2_4 l2_4.length c2_4, .int .i64 a2_5, .bool a2_6, .bool a2_7, .int .i64 a2_8, .int .u16 a2_9, .slice A2_10 l2_10.length c2_10, .slice A2_11 l2_11.length c2_11, .slice A2_12 l2_12.length c2_12, .slice A2_13 l2_13.length c2_13, .slice A2_14 l2_14.length c2_14, .int .i64 a2_15] 57 (0, 0)) (by (with_reducible repeat (first | refine blk_drewN ?_ _ | refine blk_drew ?_ | refine blk_alloc ?_ _)); exact BK141.out) hb)
      have n6_ := Aside0.mk (blk_below (g := gb142) (o := .cells #[.string x143000_1, .slice none 0 0] 43 (0, 0)) (by (with_reducible repeat (first | refine blk_drewN ?_ _ | refine blk_drew ?_ | refine blk_alloc ?_ _)); exact BK142.out) hb)
      have n7_ := Aside0.mk (Kd.C_below (by repeat (first | (with_reducible exact HR143_0.out) | (with_reducible refine Kd.C_alloc ?_ _) | (with_reducible refine Kd.C_drewN ?_ _) | (with_reducible refine Kd.C_drew ?_) | exact HR143_0.out)) hb)
      have n8_ := Aside0.mk (Kd.C_below (by repeat (first | (with_reducible exact HR143_1.out) | (with_reducible refine Kd.C_alloc ?_ _) | (with_reducible refine Kd.C_drewN ?_ _) | (with_reducible refine Kd.C_drew ?_) | exact HR143_1.out)) hb)
      have n9_ := Aside0.mk (Kd.C_below (by repeat (first | (with_reducible exact HR143_3.out) | (with_reducible refine Kd.C_alloc ?_ _) | (with_reducible refine Kd.C_drewN ?_ _) | (with_reducible refine Kd.C_drew ?_) | exact HR143_3.out)) hb)
      have n10_ := Aside0.mk (below_step (by repeat (first | (with_reducible first | exact HB.out | apply below_alloc | apply pw_below_drewN | apply below_drew1 | refine below_set ?_ GE141.out | refine below_set ?_ GE142.out) | exact HB.out)) hb)
      clear HO_0
      clear HO_142011
      clear HL143_0
      clear HL143_1
      clear HL143_3
      clear BK141
      clear BK142
      clear HR143_0
      clear HR143_1
      clear HR143_3
      clear HB
      have HO_0 := n0_
      have HO_142011 := n1_
      have HL143_0 := n2_
      have HL143_1 := n3_
      have HL143_3 := n4_
      have BK141 := n5_
      have BK142 := n6_
      have HR143_0 := n7_
      have HR143_1 := n8_
      have HR143_3 := n9_
      have HB := n10_
      clear n0_ n1_ n2_ n3_ n4_ n5_ n6_ n7_ n8_ n9_ n10_
      (try clear hb)
      (try clear hb2)
      (try clear hk)
      (try clear hi)
      refine hK.out _ _ ⟨(blk_cell BK141.out 0).trans rfl, (blk_cell BK141.out 1).trans rfl, (blk_cell BK141.out 2).trans rfl, (blk_cell BK141.out 3).trans rfl, (blk_cell BK141.out 4).trans rfl, (blk_cell BK141.out 5).trans rfl, (blk_cell BK141.out 6).trans rfl, (blk_cell BK141.out 7).trans rfl, (blk_cell BK141.out 8).trans rfl, (blk_cell BK141.out 9).trans rfl, (blk_cell BK141.out 10).trans rfl, (blk_cell BK141.out 11).trans rfl, (blk_cell BK141.out 12).trans rfl, (blk_cell BK141.out 13).trans rfl, (blk_cell BK141.out 14).trans rfl, (blk_cell BK141.out 15).trans rfl, HS16_, HS17_, HS18_, HS19_⟩ (fun hHeld => ?_)
      clear hK K
      refine norm_ (a' := ?_) ?_ ?_
      rotate_left
      ·show Act.put _ (some 27) _ = _
       simp only [Act.put, List.setIfInBounds_toArray, List.set_cons_zero, List.set_cons_succ, i64_w, i32_w]
       rfl
      refine pure_ (i := 8) (N := some 9) (v := ?_) (a' := ?_) #[true, true, true, true, true, true, true, true, true] rfl rfl (any_of HT_.out (by kernel_rfl)) (fun _ _ _ h => h) (Or.inl ⟨by rfl, ?_⟩) ?_ ?_
      rotate_left
      ·intro w'
       go_simp
       with_reducible rfl
      rotate_left
      ·simp only [Act.put, List.setIfInBounds_toArray, List.set_cons_zero, List.set_cons_succ, i64_w, i32_w]
       rfl
      refine done_ (done_of HT_.out (by kernel_rfl)) ?_
      try go_wp2
      have n0_ := Aside0.mk (Kd.V_drew HO_0.out)
      have n1_ := Aside0.mk (Kd.V_drew HO_142011.out)
      have n2_ := Aside0.mk (Kd.V_drew HL143_0.out)
      have n3_ := Aside0.mk (Kd.V_drew HL143_1.out)
      have n4_ := Aside0.mk (Kd.V_drew HL143_3.out)
      have n5_ := Aside0.mk (blk_drew BK141.out)
      have n6_ := Aside0.mk (blk_drew BK142.out)
      have n7_ := Aside0.mk (Kd.C_drew HR143_0.out)
      have n8_ := Aside0.mk (Kd.C_drew HR143_1.out)
      have n9_ := Aside0.mk (Kd.C_drew HR143_3.out)
      have n10_ := Aside0.mk (below_drew1 HB.out)
      clear HO_0
      clear HO_142011
      clear HL143_0
      clear HL143_1
      clear HL143_3
      clear BK141
      clear BK142
      clear HR143_0
      clear HR143_1
      clear HR143_3
      clear HB
      have HO_0 := n0_
      have HO_142011 := n1_
      have HL143_0 := n2_
      have HL143_1 := n3_
      have HL143_3 := n4_
      have BK141 := n5_
      have BK142 := n6_
      have HR143_0 := n7_
      have HR143_1 := n8_
      have HR143_3 := n9_
      have HB := n10_
      clear n0_ n1_ n2_ n3_ n4_ n5_ n6_ n7_ n8_ n9_ n10_
      refine start_ (n := 11) (S := fun w' => True) (ds := []) #[false, false, false, false, false, false, false, false, false, false, false] (by kernel_rfl) rfl rfl trivial (fun hHeld => ?_); refine with_tabW warderref21_Whose.tab5 warderref21_Whose.bits5 (fun HT_ HW_ => ?_)
      generalize w23.drew = w24 at HO_0 HO_142011 HL143_0 HL143_1 HL143_3 BK141 BK142 HR143_0 HR143_1 HR143_3 HB hHeld ⊢
      refine pure_ (i := 0) (N := some 28) (v := ?_) (a' := ?_) #[true, false, false, false, false, false, false, false, false, false, false] rfl rfl (any_of HT_.out (by kernel_rfl)) (fun _ _ _ h => h) (Or.inl ⟨by rfl, ?_⟩) ?_ ?_
      rotate_left
      ·intro w'
       go_simp
       with_reducible rfl
      rotate_left
      ·simp only [Act.put, List.setIfInBounds_toArray, List.set_cons_zero, List.set_cons_succ, i64_w, i32_w]
       rfl
      refine pure_ (i := 1) (N := some 29) (v := ?_) (a' := ?_) #[true, true, false, false, false, false, false, false, false, false, false] rfl rfl (any_of HT_.out (by kernel_rfl)) (fun _ _ _ h => h) (Or.inl ⟨by rfl, ?_⟩) ?_ ?_
      rotate_left
      ·intro w'
       go_simp
       with_reducible rfl
      rotate_left
      ·simp only [Act.put, List.setIfInBounds_toArray, List.set_cons_zero, List.set_cons_succ, i64_w, i32_w]
       rfl
      refine pure_ (i := 2) (N := some 30) (v := undef) (a' := ?_) #[true, true, true, false, false, false, false, false, false, false, false] rfl rfl (any_of HT_.out (by kernel_rfl)) (fun _ _ _ h => h) (Or.inr ⟨by rfl, rfl⟩) ?_ ?_
      rotate_left
      ·simp only [Act.put, List.setIfInBounds_toArray, List.set_cons_zero, List.set_cons_succ, i64_w, i32_w]
       rfl
      refine pure_ (i := 3) (N := some 31) (v := undef) (a' := ?_) #[true, true, true, true, false, false, false, false, false, false, false] rfl rfl (any_of HT_.out (by kernel_rfl)) (fun _ _ _ h => h) (Or.inr ⟨by rfl, rfl⟩) ?_ ?_
      rotate_left
      ·simp only [Act.put, List.setIfInBounds_toArray, List.set_cons_zero, List.set_cons_succ, i64_w, i32_w]
       rfl
      refine pure_ (i := 4) (N := some 32) (v := undef) (a' := ?_) #[true, true, true, true, true, false, false, false, false, false, false] rfl rfl (any_of HT_.out (by kernel_rfl)) (fun _ _ _ h => h) (Or.inr ⟨by rfl, rfl⟩) ?_ ?_
      rotate_left
      ·simp only [Act.put, List.setIfInBounds_toArray, List.set_cons_zero, List.set_cons_succ, i64_w, i32_w]
       rfl
      refine pure_ (i := 5) (N := some 33) (v := undef) (a' := ?_) #[true, true, true, true, true, true, false, false, false, false, false] rfl rfl (any_of HT_.out (by kernel_rfl)) (fun _ _ _ h => h) (Or.inr ⟨by rfl, rfl⟩) ?_ ?_
      rotate_left
      ·simp only [Act.put, List.setIfInBounds_toArray, List.set_cons_zero, List.set_cons_succ, i64_w, i32_w]
       rfl
      refine pure_ (i := 6) (N := some 34) (v := undef) (a' := ?_) #[true, true, true, true, true, true, true, false, false, false, false] rfl rfl (any_of HT_.out (by kernel_rfl)) (fun _ _ _ h => h) (Or.inr ⟨by rfl, rfl⟩) ?_ ?_
      rotate_left
      ·simp only [Act.put, List.setIfInBounds_toArray, List.set_cons_zero, List.set_cons_succ, i64_w, i32_w]
       rfl
      refine pure_ (i := 7) (N := some 35) (v := undef) (a' := ?_) #[true, true, true, true, true, true, true, true, false, false, false] rfl rfl (any_of HT_.out (by kernel_rfl)) (fun _ _ _ h => h) (Or.inr ⟨by rfl, rfl⟩) ?_ ?_
      rotate_left
      ·simp only [Act.put, List.setIfInBounds_toArray, List.set_cons_zero, List.set_cons_succ, i64_w, i32_w]
       rfl
      refine pure_ (i := 8) (N := some 36) (v := undef) (a' := ?_) #[true, true, true, true, true, true, true, true, true, false, false] rfl rfl (any_of HT_.out (by kernel_rfl)) (fun _ _ _ h => h) (Or.inr ⟨by rfl, rfl⟩) ?_ ?_
      rotate_left
      ·simp only [Act.put, List.setIfInBounds_toArray, List.set_cons_zero, List.set_cons_succ, i64_w, i32_w]
       rfl
      refine pure_ (i := 9) (N := some 37) (v := undef) (a' := ?_) #[true, true, true, true, true, true, true, true, true, true, false] rfl rfl (any_of HT_.out (by kernel_rfl)) (fun _ _ _ h => h) (Or.inr ⟨by rfl, rfl⟩) ?_ ?_
      rotate_left
      ·simp only [Act.put, List.setIfInBounds_toArray, List.set_cons_zero, List.set_cons_succ, i64_w, i32_w]
       rfl
      refine pure_ (i := 10) (N := some 38) (v := ?_) (a' := ?_) #[true, true, true, true, true, true, true, true, true, true, true] rfl rfl (any_of HT_.out (by kernel_rfl)) (fun _ _ _ h => h) (Or.inl ⟨by rfl, ?_⟩) ?_ ?_
      rotate_left
      ·intro w'
       go_simp
       with_reducible rfl
      rotate_left
      ·simp only [Act.put, List.setIfInBounds_toArray, List.set_cons_zero, List.set_cons_succ, i64_w, i32_w]
       rfl
      refine done_ (done_of HT_.out (by kernel_rfl)) ?_
      try go_wp2
      go_roundg k1
      case measure => have := HK1.out; omega
      case rel => exact ⟨(wrap64 (x8_1 + 1)), (x143000_1), (by first | rfl | (simp; done) | (simp [*]; done)), H', ⟨by have := HK1.out; omega⟩, ⟨by (with_reducible repeat (first | apply Kd.V_alloc | apply Kd.V_drewN | apply Kd.V_drew)); exact HO_0.out⟩, ⟨by (with_reducible repeat (first | apply Kd.V_alloc | apply Kd.V_drewN | apply Kd.V_drew)); exact HO_142011.out⟩, ⟨by (with_reducible repeat (first | refine blk_drewN ?_ _ | refine blk_drew ?_ | refine blk_alloc ?_ _)); exact BK141.out⟩, ⟨by (with_reducible repeat (first | refine blk_drewN ?_ _ | refine blk_drew ?_ | refine blk_alloc ?_ _)); exact BK142.out⟩, ⟨by repeat (first | (with_reducible first | exact HB.out | apply below_alloc | apply pw_below_drewN | apply below_drew1 | refine below_set ?_ GE141.out | refine below_set ?_ GE142.out) | exact HB.out)⟩⟩
    ·rw [if_neg c7] at H
     exact absurd H (by simp)
   ·rw [if_neg c6] at H
    have c6b0 : decide (x8_1 < (l0.length : Int)) = false := decide_eq_false c6
    clear c6
    replace H := Option.bind_eq_some_iff.mp H
    obtain ⟨t148, A250, H⟩ := H
    replace H : (warderref21_Whose.l1 k1 l1 t148 0 a2_0 l2_1 a2_2 a2_3 l2_4 a2_5 a2_6 a2_7 a2_8 a2_9 l2_10 l2_11 l2_12 l2_13 l2_14 a2_15) = some (r1, r2, r3) := H
    have A25 := Aside0.mk A250
    clear A250
    have H' := Aside0.mk H
    clear H
    have hnb26 := NB141_142.out
    have hnc26 := NB142_141.out
    have hcz27_0 : wr.cell? ⟨gb141, 0, none⟩ = some (.int .i64 a2_0) := (blk_cell BK141.out 0).trans rfl
    have hcz27_1 : wr.cell? ⟨gb141, 1, none⟩ = some (.slice A2_1 l2_1.length c2_1) := (blk_cell BK141.out 1).trans rfl
    have hcz27_2 : wr.cell? ⟨gb141, 2, none⟩ = some (.int .i64 a2_2) := (blk_cell BK141.out 2).trans rfl
    have hcz27_3 : wr.cell? ⟨gb141, 3, none⟩ = some (.int .i64 a2_3) := (blk_cell BK141.out 3).trans rfl
    have hcz27_4 : wr.cell? ⟨gb141, 4, none⟩ = some (.slice A2_4 l2_4.length c2_4) := (blk_cell BK141.out 4).trans rfl
    have hcz27_5 : wr.cell? ⟨gb141, 5, none⟩ = some (.int .i64 a2_5) := (blk_cell BK141.out 5).trans rfl
    have hcz27_6 : wr.cell? ⟨gb141, 6, none⟩ = some (.bool a2_6) := (blk_cell BK141.out 6).trans rfl
    have hcz27_7 : wr.cell? ⟨gb141, 7, none⟩ = some (.bool a2_7) := (blk_cell BK141.out 7).trans rfl
    have hcz27_8 : wr.cell? ⟨gb141, 8, none⟩ = some (.int .i64 a2_8) := (blk_cell BK141.out 8).trans rfl
    have hcz27_9 : wr.cell? ⟨gb141, 9, none⟩ = some (.int .u16 a2_9) := (blk_cell BK141.out 9).trans rfl
    have hcz27_10 : wr.cell? ⟨gb141, 10, none⟩ = some (.slice A2_10 l2_10.length c2_10) := (blk_cell BK141.out 10).trans rfl
    have hcz27_11 : wr.cell? ⟨gb141, 11, none⟩ = some (.slice A2_11 l2_11.length c2_11) := (blk_cell BK141.out 11).trans rfl
    have hcz27_12 : wr.cell? ⟨gb141, 12, none⟩ = some (.slice A2_12 l2_12.length c2_12) := (blk_cell BK141.out 12).trans rfl
    have hcz27_13 : wr.cell? ⟨gb141, 13, none⟩ = some (.slice A2_13 l2_13.length c2_13) := (blk_cell BK141.out 13).trans rfl
    have hcz27_14 : wr.cell? ⟨gb141, 14, none⟩ = some (.slice A2_14 l2_14.length c2_14) := (blk_cell BK141.out 14).trans rfl
    have hcz27_15 : wr.cell? ⟨gb141, 15, none⟩ = some (.int .i64 a2_15) := (blk_cell BK141.out 15).trans rfl
    have hfz27_0 := blk_frozen BK141.out 0
    have hfz27_1 := blk_frozen BK141.out 1
    have hfz27_2 := blk_frozen BK141.out 2
    have hfz27_3 := blk_frozen BK141.out 3
    have hfz27_4 := blk_frozen BK141.out 4
    have hfz27_5 := blk_frozen BK141.out 5
    have hfz27_6 := blk_frozen BK141.out 6
    have hfz27_7 := blk_frozen BK141.out 7
    have hfz27_8 := blk_frozen BK141.out 8
    have hfz27_9 := blk_frozen BK141.out 9
    have hfz27_10 := blk_frozen BK141.out 10
    have hfz27_11 := blk_frozen BK141.out 11
    have hfz27_12 := blk_frozen BK141.out 12
    have hfz27_13 := blk_frozen BK141.out 13
    have hfz27_14 := blk_frozen BK141.out 14
    have hfz27_15 := blk_frozen BK141.out 15
    go_wp2_with (first | ((with_reducible refine gate_callee (f := 45) rfl ?_); refine goesL_ (some 45) rfl rfl Try.func45 (by kernel_rfl) rfl #[.agg #[.int .i64 a2_0, .slice A2_1 l2_1.length c2_1, .int .i64 a2_2, .int .i64 a2_3, .slice A2_4 l2_4.length c2_4, .int .i64 a2_5, .bool a2_6, .bool a2_7, .int .i64 a2_8, .int .u16 a2_9, .slice A2_10 l2_10.length c2_10, .slice A2_11 l2_11.length c2_11, .slice A2_12 l2_12.length c2_12, .slice A2_13 l2_13.length c2_13, .slice A2_14 l2_14.length c2_14, .int .i64 a2_15], .int .i64 4] rfl (by (try simp only [List.map_toArray, List.map_cons, List.map_nil]); first | done | rfl | (simp only [List.length_drop, List.length_take]; rfl)) ?_; (with_reducible refine (warderref21_use.calls k1 a2_0 _ _ l2_1 a2_2 a2_3 _ _ l2_4 a2_5 a2_6 a2_7 a2_8 a2_9 _ _ l2_10 _ _ l2_11 _ _ l2_12 _ _ l2_13 _ _ l2_14 a2_15 4 t148 _ ?side1 ?side2 ?side3 ?side4 ?side5 ?side6 ?side7 ?side8 ?side9 ?side10 ?side11 ?side12 ?side13 ?side14 A25.out).mono ?_); (case side1 => repeat (first | exact (Kd.C_below HR2_1.out HB.out) | (with_reducible refine Kd.C_alloc ?_ _) | (with_reducible refine Kd.C_drewN ?_ _) | (with_reducible refine Kd.C_drew ?_))); (case side2 => exact HC2_1.out); (case side3 => repeat (first | exact (Kd.C_below HR2_4.out HB.out) | (with_reducible refine Kd.C_alloc ?_ _) | (with_reducible refine Kd.C_drewN ?_ _) | (with_reducible refine Kd.C_drew ?_))); (case side4 => exact HC2_4.out); (case side5 => repeat (first | exact (Kd.C_below HR2_10.out HB.out) | (with_reducible refine Kd.C_alloc ?_ _) | (with_reducible refine Kd.C_drewN ?_ _) | (with_reducible refine Kd.C_drew ?_))); (case side6 => exact HC2_10.out); (case side7 => repeat (first | exact (Kd.V_reads' HO_142011.out).2.2 | (with_reducible refine Kd.C_alloc ?_ _) | (with_reducible refine Kd.C_drewN ?_ _) | (with_reducible refine Kd.C_drew ?_))); (case side8 => exact (Kd.V_reads' HO_142011.out).2.1); (case side9 => repeat (first | exact (Kd.C_below HR2_12.out HB.out) | (with_reducible refine Kd.C_alloc ?_ _) | (with_reducible refine Kd.C_drewN ?_ _) | (with_reducible refine Kd.C_drew ?_))); (case side10 => exact HC2_12.out); (case side11 => repeat (first | exact (Kd.C_below HR2_13.out HB.out) | (with_reducible refine Kd.C_alloc ?_ _) | (with_reducible refine Kd.C_drewN ?_ _) | (with_reducible refine Kd.C_drew ?_))); (case side12 => exact HC2_13.out); (case side13 => repeat (first | exact (Kd.C_below HR2_14.out HB.out) | (with_reducible refine Kd.C_alloc ?_ _) | (with_reducible refine Kd.C_drewN ?_ _) | (with_reducible refine Kd.C_drew ?_))); (case side14 => exact HC2_14.out); rintro e w28 ⟨rfl, hb⟩; refine ⟨_, rfl, ?_⟩; have n0_ := Aside0.mk (Kd.V_below (by (with_reducible repeat (first | apply Kd.V_alloc | apply Kd.V_drewN | apply Kd.V_drew)); exact HO_0.out) hb); have n1_ := Aside0.mk (Kd.V_below (by (with_reducible repeat (first | apply Kd.V_alloc | apply Kd.V_drewN | apply Kd.V_drew)); exact HO_142011.out) hb); have n2_ := Aside0.mk (blk_below (g := gb141) (o := .cells #[.int .i64 a2_0, .slice A2_1 l2_1.length c2_1, .int .i64 a2_2, .int .i64 a2_3, .slice A2_4 l2_4.length c2_4, .int .i64 a2_5, .bool a2_6, .bool a2_7, .int .i64 a2_8, .int .u16 a2_9, .slice A2_10 l2_10.length c2_10, .slice A2_11 l2_11.length c2_11, .slice A2_12 l2_12.length c2_12, .slice A2_13 l2_13.length c2_13, .slice A2_14 l2_14.length c2_14, .int .i64 a2_15] 57 (0, 0)) (by (with_reducible repeat (first | refine blk_drewN ?_ _ | refine blk_drew ?_ | refine blk_alloc ?_ _)); exact BK141.out) hb); have n3_ := Aside0.mk (blk_below (g := gb142) (o := .cells #[.string x143000_1, .slice none 0 0] 43 (0, 0)) (by (with_reducible repeat (first | refine blk_drewN ?_ _ | refine blk_drew ?_ | refine blk_alloc ?_ _)); exact BK142.out) hb); have n4_ := Aside0.mk (below_step (by repeat (first | (with_reducible first | exact HB.out | apply below_alloc | apply pw_below_drewN | apply below_drew1 | refine below_set ?_ GE141.out | refine below_set ?_ GE142.out) | exact HB.out)) hb); clear HO_0; clear HO_142011; clear BK141; clear BK142; clear HB; have HO_0 := n0_; have HO_142011 := n1_; have BK141 := n2_; have BK142 := n3_; have HB := n4_; clear n0_ n1_ n2_ n3_ n4_; (try clear hb); (try clear hb2); (try clear hk); (try clear hi)))
    go_loopg [11] k1 (fun kq v11 w' => ∃ (x11_2 : Int) (x143000_2 : ByteArray), v11 = .int .i64 x11_2 ∧ Aside0 (warderref21_Whose.l1 kq l1 t148 x11_2 a2_0 l2_1 a2_2 a2_3 l2_4 a2_5 a2_6 a2_7 a2_8 a2_9 l2_10 l2_11 l2_12 l2_13 l2_14 a2_15 = some (r1, r2, r3)) ∧ Aside0 (kq ≤ k1) ∧ Aside0 (Kd.V k43 43 w' w.heap.size (fun k_ => ((P0_ k_ ∨ P2_11_ k_) ∨ w.heap.size ≤ k_) ∧ k_ ≠ gb141 ∧ k_ ≠ gb142) (.slice A2_11 l2_11.length c2_11) l2_11) ∧ Aside0 (w'.heap[gb141]? = some (.cells #[.int .i64 a2_0, (.slice A2_1 l2_1.length c2_1), .int .i64 a2_2, .int .i64 a2_3, (.slice A2_4 l2_4.length c2_4), .int .i64 a2_5, .bool a2_6, .bool a2_7, .int .i64 a2_8, .int .u16 a2_9, (.slice A2_10 l2_10.length c2_10), (.slice A2_11 l2_11.length c2_11), (.slice A2_12 l2_12.length c2_12), (.slice A2_13 l2_13.length c2_13), (.slice A2_14 l2_14.length c2_14), .int .i64 a2_15] 57 (0, 0))) ∧ Aside0 (w'.heap[gb142]? = some (.cells #[.string x143000_2, (.slice none 0 0)] 43 (0, 0))) ∧ Aside0 (Below w.heap.size w w'))
    case atStart => exact ⟨(0), (x143000_1), (by first | rfl | (simp; done) | (simp [*]; done)), H', ⟨Nat.le_refl _⟩, ⟨by (with_reducible repeat (first | apply Kd.V_alloc | apply Kd.V_drewN | apply Kd.V_drew)); exact HO_142011.out⟩, ⟨by (with_reducible repeat (first | refine blk_drewN ?_ _ | refine blk_drew ?_ | refine blk_alloc ?_ _)); exact BK141.out⟩, ⟨by (with_reducible repeat (first | refine blk_drewN ?_ _ | refine blk_drew ?_ | refine blk_alloc ?_ _)); exact BK142.out⟩, ⟨by repeat (first | (with_reducible first | exact HB.out | apply below_alloc | apply pw_below_drewN | apply below_drew1 | refine below_set ?_ GE141.out | refine below_set ?_ GE142.out) | exact HB.out)⟩⟩
    case round =>
     clear H'
     try clear c1
     try clear p1
     try clear q1
     try clear hx1
     try clear c2
     try clear p2
     try clear c3
     try clear c4
     try clear c6
     try clear c6b0
     try clear p6
     try clear c7
     try clear c9
     try clear c14
     try clear p14
     try clear q14
     try clear hx14
     try clear c26
     try clear hcz27_0
     try clear hcz27_1
     try clear hcz27_10
     try clear hcz27_11
     try clear hcz27_12
     try clear hcz27_13
     try clear hcz27_14
     try clear hcz27_15
     try clear hcz27_2
     try clear hcz27_3
     try clear hcz27_4
     try clear hcz27_5
     try clear hcz27_6
     try clear hcz27_7
     try clear hcz27_8
     try clear hcz27_9
     try clear hfz27_0
     try clear hfz27_1
     try clear hfz27_10
     try clear hfz27_11
     try clear hfz27_12
     try clear hfz27_13
     try clear hfz27_14
     try clear hfz27_15
     try clear hfz27_2
     try clear hfz27_3
     try clear hfz27_4
     try clear hfz27_5
     try clear hfz27_6
     try clear hfz27_7
     try clear hfz27_8
     try clear hfz27_9
     try clear hx143_0
     try clear hx143_1
     try clear hx143_2
     try clear hx143_3
     try clear hx145_0
     try clear hx145_1
     try clear hx145_2
     try clear hx145_3
     try clear p143
     try clear p145
     try clear q143
     try clear q145
     obtain ⟨x11_2, x143000_2, rfl, HA, HK2, HO_142011, BK141, BK142, HB⟩ := hrel
     cases gk with
     | zero => exact absurd HA.out (by simp [warderref21_Whose.l1])
     | succ k2 =>
      have H := HA.out
      clear HA
      simp only [warderref21_Whose.l1] at H
      have HC29 := Aside0.mk H
      clear H
      go_upto_region 9 with (fail)
      go_cut [54] (fun v54 wc => ∃ (kq : Nat) (x54_28 : Bool), v54 = .bool x54_28 ∧ Aside0 (warderref21_Whose.j2 kq l1 t148 x11_2 x54_28 a2_0 l2_1 a2_2 a2_3 l2_4 a2_5 a2_6 a2_7 a2_8 a2_9 l2_10 l2_11 l2_12 l2_13 l2_14 a2_15 = some (r1, r2, r3)) ∧ Aside0 (kq ≤ k2) ∧ Aside0 (Kd.V k43 43 wc w.heap.size (fun k_ => ((P0_ k_ ∨ P2_11_ k_) ∨ w.heap.size ≤ k_) ∧ k_ ≠ gb141 ∧ k_ ≠ gb142) (.slice A2_11 l2_11.length c2_11) l2_11) ∧ Aside0 (wc.heap[gb141]? = some (.cells #[.int .i64 a2_0, (.slice A2_1 l2_1.length c2_1), .int .i64 a2_2, .int .i64 a2_3, (.slice A2_4 l2_4.length c2_4), .int .i64 a2_5, .bool a2_6, .bool a2_7, .int .i64 a2_8, .int .u16 a2_9, (.slice A2_10 l2_10.length c2_10), (.slice A2_11 l2_11.length c2_11), (.slice A2_12 l2_12.length c2_12), (.slice A2_13 l2_13.length c2_13), (.slice A2_14 l2_14.length c2_14), .int .i64 a2_15] 57 (0, 0))) ∧ Aside0 (wc.heap[gb142]? = some (.cells #[.string x143000_2, (.slice none 0 0)] 43 (0, 0))) ∧ Aside0 (Below w.heap.size w wc))
      case first =>
       have H := HC29.out
       clear HC29
       by_cases c30 : x11_2 < (l2_11.length : Int)
       ·rw [if_pos c30] at H
        have c30b0 : decide (x11_2 < (l2_11.length : Int)) = true := decide_eq_true c30
        clear c30
        (first | rw [c30b0] | (simp only [i64_w, i32_w]; rw [c30b0]) | skip)
        have H' := Aside0.mk H
        clear H
        have hnb31 := NB141_142.out
        have hnc31 := NB142_141.out
        have hcz32_0 : wr.cell? ⟨gb141, 0, none⟩ = some (.int .i64 a2_0) := (blk_cell BK141.out 0).trans rfl
        have hcz32_1 : wr.cell? ⟨gb141, 1, none⟩ = some (.slice A2_1 l2_1.length c2_1) := (blk_cell BK141.out 1).trans rfl
        have hcz32_2 : wr.cell? ⟨gb141, 2, none⟩ = some (.int .i64 a2_2) := (blk_cell BK141.out 2).trans rfl
        have hcz32_3 : wr.cell? ⟨gb141, 3, none⟩ = some (.int .i64 a2_3) := (blk_cell BK141.out 3).trans rfl
        have hcz32_4 : wr.cell? ⟨gb141, 4, none⟩ = some (.slice A2_4 l2_4.length c2_4) := (blk_cell BK141.out 4).trans rfl
        have hcz32_5 : wr.cell? ⟨gb141, 5, none⟩ = some (.int .i64 a2_5) := (blk_cell BK141.out 5).trans rfl
        have hcz32_6 : wr.cell? ⟨gb141, 6, none⟩ = some (.bool a2_6) := (blk_cell BK141.out 6).trans rfl
        have hcz32_7 : wr.cell? ⟨gb141, 7, none⟩ = some (.bool a2_7) := (blk_cell BK141.out 7).trans rfl
        have hcz32_8 : wr.cell? ⟨gb141, 8, none⟩ = some (.int .i64 a2_8) := (blk_cell BK141.out 8).trans rfl
        have hcz32_9 : wr.cell? ⟨gb141, 9, none⟩ = some (.int .u16 a2_9) := (blk_cell BK141.out 9).trans rfl
        have hcz32_10 : wr.cell? ⟨gb141, 10, none⟩ = some (.slice A2_10 l2_10.length c2_10) := (blk_cell BK141.out 10).trans rfl
        have hcz32_11 : wr.cell? ⟨gb141, 11, none⟩ = some (.slice A2_11 l2_11.length c2_11) := (blk_cell BK141.out 11).trans rfl
        have hcz32_12 : wr.cell? ⟨gb141, 12, none⟩ = some (.slice A2_12 l2_12.length c2_12) := (blk_cell BK141.out 12).trans rfl
        have hcz32_13 : wr.cell? ⟨gb141, 13, none⟩ = some (.slice A2_13 l2_13.length c2_13) := (blk_cell BK141.out 13).trans rfl
        have hcz32_14 : wr.cell? ⟨gb141, 14, none⟩ = some (.slice A2_14 l2_14.length c2_14) := (blk_cell BK141.out 14).trans rfl
        have hcz32_15 : wr.cell? ⟨gb141, 15, none⟩ = some (.int .i64 a2_15) := (blk_cell BK141.out 15).trans rfl
        have hfz32_0 := blk_frozen BK141.out 0
        have hfz32_1 := blk_frozen BK141.out 1
        have hfz32_2 := blk_frozen BK141.out 2
        have hfz32_3 := blk_frozen BK141.out 3
        have hfz32_4 := blk_frozen BK141.out 4
        have hfz32_5 := blk_frozen BK141.out 5
        have hfz32_6 := blk_frozen BK141.out 6
        have hfz32_7 := blk_frozen BK141.out 7
        have hfz32_8 := blk_frozen BK141.out 8
        have hfz32_9 := blk_frozen BK141.out 9
        have hfz32_10 := blk_frozen BK141.out 10
        have hfz32_11 := blk_frozen BK141.out 11
        have hfz32_12 := blk_frozen BK141.out 12
        have hfz32_13 := blk_frozen BK141.out 13
        have hfz32_14 := blk_frozen BK141.out 14
        have hfz32_15 := blk_frozen BK141.out 15
        go_wp2
        go_meet
        case rel => exact ⟨_, (t148), (by first | rfl | (simp; done) | (simp [*]; done)), H', ⟨by have := HK1.out; have := HK2.out; first | omega | exact Nat.le_refl _⟩, ⟨by (with_reducible repeat (first | apply Kd.V_alloc | apply Kd.V_drewN | apply Kd.V_drew)); exact HO_142011.out⟩, ⟨by (with_reducible repeat (first | refine blk_drewN ?_ _ | refine blk_drew ?_ | refine blk_alloc ?_ _)); exact BK141.out⟩, ⟨by (with_reducible repeat (first | refine blk_drewN ?_ _ | refine blk_drew ?_ | refine blk_alloc ?_ _)); exact BK142.out⟩, ⟨by repeat (first | (with_reducible first | exact HB.out | apply below_alloc | apply pw_below_drewN | apply below_drew1 | refine below_set ?_ GE141.out | refine below_set ?_ GE142.out) | exact HB.out)⟩⟩
       ·rw [if_neg c30] at H
        have c30b0 : decide (x11_2 < (l2_11.length : Int)) = false := decide_eq_false c30
        clear c30
        (first | rw [c30b0] | (simp only [i64_w, i32_w]; rw [c30b0]) | skip)
        have H' := Aside0.mk H
        clear H
        have hnb33 := NB141_142.out
        have hnc33 := NB142_141.out
        have hcz34_0 : wr.cell? ⟨gb141, 0, none⟩ = some (.int .i64 a2_0) := (blk_cell BK141.out 0).trans rfl
        have hcz34_1 : wr.cell? ⟨gb141, 1, none⟩ = some (.slice A2_1 l2_1.length c2_1) := (blk_cell BK141.out 1).trans rfl
        have hcz34_2 : wr.cell? ⟨gb141, 2, none⟩ = some (.int .i64 a2_2) := (blk_cell BK141.out 2).trans rfl
        have hcz34_3 : wr.cell? ⟨gb141, 3, none⟩ = some (.int .i64 a2_3) := (blk_cell BK141.out 3).trans rfl
        have hcz34_4 : wr.cell? ⟨gb141, 4, none⟩ = some (.slice A2_4 l2_4.length c2_4) := (blk_cell BK141.out 4).trans rfl
        have hcz34_5 : wr.cell? ⟨gb141, 5, none⟩ = some (.int .i64 a2_5) := (blk_cell BK141.out 5).trans rfl
        have hcz34_6 : wr.cell? ⟨gb141, 6, none⟩ = some (.bool a2_6) := (blk_cell BK141.out 6).trans rfl
        have hcz34_7 : wr.cell? ⟨gb141, 7, none⟩ = some (.bool a2_7) := (blk_cell BK141.out 7).trans rfl
        have hcz34_8 : wr.cell? ⟨gb141, 8, none⟩ = some (.int .i64 a2_8) := (blk_cell BK141.out 8).trans rfl
        have hcz34_9 : wr.cell? ⟨gb141, 9, none⟩ = some (.int .u16 a2_9) := (blk_cell BK141.out 9).trans rfl
        have hcz34_10 : wr.cell? ⟨gb141, 10, none⟩ = some (.slice A2_10 l2_10.length c2_10) := (blk_cell BK141.out 10).trans rfl
        have hcz34_11 : wr.cell? ⟨gb141, 11, none⟩ = some (.slice A2_11 l2_11.length c2_11) := (blk_cell BK141.out 11).trans rfl
        have hcz34_12 : wr.cell? ⟨gb141, 12, none⟩ = some (.slice A2_12 l2_12.length c2_12) := (blk_cell BK141.out 12).trans rfl
        have hcz34_13 : wr.cell? ⟨gb141, 13, none⟩ = some (.slice A2_13 l2_13.length c2_13) := (blk_cell BK141.out 13).trans rfl
        have hcz34_14 : wr.cell? ⟨gb141, 14, none⟩ = some (.slice A2_14 l2_14.length c2_14) := (blk_cell BK141.out 14).trans rfl
        have hcz34_15 : wr.cell? ⟨gb141, 15, none⟩ = some (.int .i64 a2_15) := (blk_cell BK141.out 15).trans rfl
        have hfz34_0 := blk_frozen BK141.out 0
        have hfz34_1 := blk_frozen BK141.out 1
        have hfz34_2 := blk_frozen BK141.out 2
        have hfz34_3 := blk_frozen BK141.out 3
        have hfz34_4 := blk_frozen BK141.out 4
        have hfz34_5 := blk_frozen BK141.out 5
        have hfz34_6 := blk_frozen BK141.out 6
        have hfz34_7 := blk_frozen BK141.out 7
        have hfz34_8 := blk_frozen BK141.out 8
        have hfz34_9 := blk_frozen BK141.out 9
        have hfz34_10 := blk_frozen BK141.out 10
        have hfz34_11 := blk_frozen BK141.out 11
        have hfz34_12 := blk_frozen BK141.out 12
        have hfz34_13 := blk_frozen BK141.out 13
        have hfz34_14 := blk_frozen BK141.out 14
        have hfz34_15 := blk_frozen BK141.out 15
        go_wp2
        go_meet
        case rel => exact ⟨_, (false), (by first | rfl | (simp; done) | (simp [*]; done)), H', ⟨by have := HK1.out; have := HK2.out; first | omega | exact Nat.le_refl _⟩, ⟨by (with_reducible repeat (first | apply Kd.V_alloc | apply Kd.V_drewN | apply Kd.V_drew)); exact HO_142011.out⟩, ⟨by (with_reducible repeat (first | refine blk_drewN ?_ _ | refine blk_drew ?_ | refine blk_alloc ?_ _)); exact BK141.out⟩, ⟨by (with_reducible repeat (first | refine blk_drewN ?_ _ | refine blk_drew ?_ | refine blk_alloc ?_ _)); exact BK142.out⟩, ⟨by repeat (first | (with_reducible first | exact HB.out | apply below_alloc | apply pw_below_drewN | apply below_drew1 | refine below_set ?_ GE141.out | refine below_set ?_ GE142.out) | exact HB.out)⟩⟩
      case rest =>
       clear HC29
       try clear c1
       try clear p1
       try clear q1
       try clear hx1
       try clear c2
       try clear p2
       try clear c3
       try clear c4
       try clear c6
       try clear c6b0
       try clear p6
       try clear c7
       try clear c9
       try clear c14
       try clear p14
       try clear q14
       try clear hx14
       try clear c26
       try clear c30
       try clear c30b0
       try clear c31
       try clear c33
       try clear hcz27_0
       try clear hcz27_1
       try clear hcz27_10
       try clear hcz27_11
       try clear hcz27_12
       try clear hcz27_13
       try clear hcz27_14
       try clear hcz27_15
       try clear hcz27_2
       try clear hcz27_3
       try clear hcz27_4
       try clear hcz27_5
       try clear hcz27_6
       try clear hcz27_7
       try clear hcz27_8
       try clear hcz27_9
       try clear hcz32_0
       try clear hcz32_1
       try clear hcz32_10
       try clear hcz32_11
       try clear hcz32_12
       try clear hcz32_13
       try clear hcz32_14
       try clear hcz32_15
       try clear hcz32_2
       try clear hcz32_3
       try clear hcz32_4
       try clear hcz32_5
       try clear hcz32_6
       try clear hcz32_7
       try clear hcz32_8
       try clear hcz32_9
       try clear hcz34_0
       try clear hcz34_1
       try clear hcz34_10
       try clear hcz34_11
       try clear hcz34_12
       try clear hcz34_13
       try clear hcz34_14
       try clear hcz34_15
       try clear hcz34_2
       try clear hcz34_3
       try clear hcz34_4
       try clear hcz34_5
       try clear hcz34_6
       try clear hcz34_7
       try clear hcz34_8
       try clear hcz34_9
       try clear hfz27_0
       try clear hfz27_1
       try clear hfz27_10
       try clear hfz27_11
       try clear hfz27_12
       try clear hfz27_13
       try clear hfz27_14
       try clear hfz27_15
       try clear hfz27_2
       try clear hfz27_3
       try clear hfz27_4
       try clear hfz27_5
       try clear hfz27_6
       try clear hfz27_7
       try clear hfz27_8
       try clear hfz27_9
       try clear hfz32_0
       try clear hfz32_1
       try clear hfz32_10
       try clear hfz32_11
       try clear hfz32_12
       try clear hfz32_13
       try clear hfz32_14
       try clear hfz32_15
       try clear hfz32_2
       try clear hfz32_3
       try clear hfz32_4
       try clear hfz32_5
       try clear hfz32_6
       try clear hfz32_7
       try clear hfz32_8
       try clear hfz32_9
       try clear hfz34_0
       try clear hfz34_1
       try clear hfz34_10
       try clear hfz34_11
       try clear hfz34_12
       try clear hfz34_13
       try clear hfz34_14
       try clear hfz34_15
       try clear hfz34_2
       try clear hfz34_3
       try clear hfz34_4
       try clear hfz34_5
       try clear hfz34_6
       try clear hfz34_7
       try clear hfz34_8
       try clear hfz34_9
       try clear hx143_0
       try clear hx143_1
       try clear hx143_2
       try clear hx143_3
       try clear hx145_0
       try clear hx145_1
       try clear hx145_2
       try clear hx145_3
       try clear p1
       try clear p14
       try clear p143
       try clear p145
       try clear p2
       try clear p6
       try clear q1
       try clear q14
       try clear q143
       try clear q145
       obtain ⟨kq, x54_28, rfl, HA, HJ28, HO_142011, BK141, BK142, HB⟩ := hcut
       cases kq with
       | zero => exact absurd HA.out (by simp [warderref21_Whose.j2])
       | succ kj28 =>
        have H := HA.out
        clear HA
        simp only [warderref21_Whose.j2] at H
        by_cases c35 : x54_28 = true
        ·subst c35
         have H1 : (if 0 ≤ x11_2 then (if x11_2 < (l2_11.length : Int) then ((warderref21_Lookup.f kj28 l1 ((rd_T43 l2_11 x11_2).f0) ((rd_T43 l2_11 x11_2).f1)).bind fun bt150 => (if bt150.2 = true then (some ((rd_T43 l2_11 x11_2).f0, (rd_T43 l2_11 x11_2).f1, 0)) else (warderref21_Whose.l1 kj28 l1 t148 (wrap64 (x11_2 + 1)) a2_0 l2_1 a2_2 a2_3 l2_4 a2_5 a2_6 a2_7 a2_8 a2_9 l2_10 l2_11 l2_12 l2_13 l2_14 a2_15))) else (none)) else (none)) = some (r1, r2, r3) := by rw [if_pos rfl] at H; exact H
         clear H
         have H := H1
         clear H1
         by_cases c36 : 0 ≤ x11_2
         ·rw [if_pos c36] at H
          have c36b0 : decide (0 ≤ x11_2) = true := decide_eq_true c36
          clear c36
          by_cases c37 : x11_2 < (l2_11.length : Int)
          ·rw [if_pos c37] at H
           have c37b0 : decide (x11_2 < (l2_11.length : Int)) = true := decide_eq_true c37
           clear c37
           replace H := Option.bind_eq_some_iff.mp H
           obtain ⟨⟨t150, t151⟩, A380, H⟩ := H
           replace H : (if t151 = true then (some ((rd_T43 l2_11 x11_2).f0, (rd_T43 l2_11 x11_2).f1, 0)) else (warderref21_Whose.l1 kj28 l1 t148 (wrap64 (x11_2 + 1)) a2_0 l2_1 a2_2 a2_3 l2_4 a2_5 a2_6 a2_7 a2_8 a2_9 l2_10 l2_11 l2_12 l2_13 l2_14 a2_15)) = some (r1, r2, r3) := H
           have A38 := Aside0.mk A380
           clear A380
           by_cases c39 : t151 = true
           ·subst c39
            have H1 : (some ((rd_T43 l2_11 x11_2).f0, (rd_T43 l2_11 x11_2).f1, 0)) = some (r1, r2, r3) := by rw [if_pos rfl] at H; exact H
            clear H
            have H := H1
            clear H1
            simp only [Option.some.injEq, Prod.mk.injEq] at H
            obtain ⟨rfl, rfl, rfl⟩ := H
            have hnb40 := NB141_142.out
            have hnc40 := NB142_141.out
            have hcz41_0 : wc.cell? ⟨gb141, 0, none⟩ = some (.int .i64 a2_0) := (blk_cell BK141.out 0).trans rfl
            have hcz41_1 : wc.cell? ⟨gb141, 1, none⟩ = some (.slice A2_1 l2_1.length c2_1) := (blk_cell BK141.out 1).trans rfl
            have hcz41_2 : wc.cell? ⟨gb141, 2, none⟩ = some (.int .i64 a2_2) := (blk_cell BK141.out 2).trans rfl
            have hcz41_3 : wc.cell? ⟨gb141, 3, none⟩ = some (.int .i64 a2_3) := (blk_cell BK141.out 3).trans rfl
            have hcz41_4 : wc.cell? ⟨gb141, 4, none⟩ = some (.slice A2_4 l2_4.length c2_4) := (blk_cell BK141.out 4).trans rfl
            have hcz41_5 : wc.cell? ⟨gb141, 5, none⟩ = some (.int .i64 a2_5) := (blk_cell BK141.out 5).trans rfl
            have hcz41_6 : wc.cell? ⟨gb141, 6, none⟩ = some (.bool a2_6) := (blk_cell BK141.out 6).trans rfl
            have hcz41_7 : wc.cell? ⟨gb141, 7, none⟩ = some (.bool a2_7) := (blk_cell BK141.out 7).trans rfl
            have hcz41_8 : wc.cell? ⟨gb141, 8, none⟩ = some (.int .i64 a2_8) := (blk_cell BK141.out 8).trans rfl
            have hcz41_9 : wc.cell? ⟨gb141, 9, none⟩ = some (.int .u16 a2_9) := (blk_cell BK141.out 9).trans rfl
            have hcz41_10 : wc.cell? ⟨gb141, 10, none⟩ = some (.slice A2_10 l2_10.length c2_10) := (blk_cell BK141.out 10).trans rfl
            have hcz41_11 : wc.cell? ⟨gb141, 11, none⟩ = some (.slice A2_11 l2_11.length c2_11) := (blk_cell BK141.out 11).trans rfl
            have hcz41_12 : wc.cell? ⟨gb141, 12, none⟩ = some (.slice A2_12 l2_12.length c2_12) := (blk_cell BK141.out 12).trans rfl
            have hcz41_13 : wc.cell? ⟨gb141, 13, none⟩ = some (.slice A2_13 l2_13.length c2_13) := (blk_cell BK141.out 13).trans rfl
            have hcz41_14 : wc.cell? ⟨gb141, 14, none⟩ = some (.slice A2_14 l2_14.length c2_14) := (blk_cell BK141.out 14).trans rfl
            have hcz41_15 : wc.cell? ⟨gb141, 15, none⟩ = some (.int .i64 a2_15) := (blk_cell BK141.out 15).trans rfl
            have hfz41_0 := blk_frozen BK141.out 0
            have hfz41_1 := blk_frozen BK141.out 1
            have hfz41_2 := blk_frozen BK141.out 2
            have hfz41_3 := blk_frozen BK141.out 3
            have hfz41_4 := blk_frozen BK141.out 4
            have hfz41_5 := blk_frozen BK141.out 5
            have hfz41_6 := blk_frozen BK141.out 6
            have hfz41_7 := blk_frozen BK141.out 7
            have hfz41_8 := blk_frozen BK141.out 8
            have hfz41_9 := blk_frozen BK141.out 9
            have hfz41_10 := blk_frozen BK141.out 10
            have hfz41_11 := blk_frozen BK141.out 11
            have hfz41_12 := blk_frozen BK141.out 12
            have hfz41_13 := blk_frozen BK141.out 13
            have hfz41_14 := blk_frozen BK141.out 14
            have hfz41_15 := blk_frozen BK141.out 15
            have p149 : 0 ≤ (x11_2 : Int) := of_decide_eq_true (by first | (with_reducible assumption) | assumption)
            have q149 : x11_2 < (l2_11.length : Int) := of_decide_eq_true (by first | (with_reducible assumption) | assumption)
            obtain ⟨ad149, A149_1, c149_1, e149, hx149_0, hx149_1, hl149_1, hi149_1⟩ := at_T43 (Kd.V_reads' HO_142011.out).2.2 x11_2 p149 q149
            cases e149
            obtain ⟨ce149, hce149, hMe149, hcc149⟩ := Kd.V_get HO_142011.out z43 x11_2 p149 (by first | exact q149 | exact of_decide_eq_true (by first | (with_reducible assumption) | assumption) | (have e_ := (Kd.V_reads' HO_142011.out).1; omega))
            obtain ⟨ua149_1, uc149_1, rfl, ul149_1, ge149_1⟩ := k43_openF hMe149
            have hv149_1 := hcc149 1 _ rfl
            rw [add_field _ _ 1 (by omega)] at hv149_1
            replace hv149_1 := Option.some.inj (hv149_1.symm.trans hx149_1)
            injection hv149_1 with hva_ hvn_ hvc_
            rw [hva_] at ge149_1
            rw [hvc_] at ul149_1
            have HL149_1 := Aside0.mk (show Kd.V Kd.string 9 _ w.heap.size _ _ ((rd_T43 l2_11 x11_2).f1) from Kd.V_mk ul149_1 ge149_1)
            clear hva_ hvn_ hvc_ ge149_1 ul149_1
            clear hcc149 hce149
            have HR149_1 := Aside0.mk hi149_1
            have HC149_1 := Aside0.mk hl149_1
            clear hi149_1 hl149_1
            replace p149 := eq_true p149
            replace q149 := eq_true q149
            go_wp2_with (first | ((with_reducible refine gate_callee (f := 20) rfl ?_); refine goesL_ (some 65) rfl rfl Try.func20 (by kernel_rfl) rfl #[.slice A1 l1.length c1, .agg #[.string ((rd_T43 l2_11 x11_2).f0), .slice A149_1 ((rd_T43 l2_11 x11_2).f1).length c149_1]] rfl (by (try simp only [List.map_toArray, List.map_cons, List.map_nil]); first | done | rfl | (simp only [List.length_drop, List.length_take]; rfl)) ?_; (with_reducible refine (warderref21_Lookup.calls kj28 _ _ l1 ((rd_T43 l2_11 x11_2).f0) _ _ ((rd_T43 l2_11 x11_2).f1) t150 true _ ?side1 ?side2 ?side3 ?side4 A38.out).mono ?_); (case side1 => repeat (first | exact (Kd.C_below HR1.out HB.out) | (with_reducible refine Kd.C_alloc ?_ _) | (with_reducible refine Kd.C_drewN ?_ _) | (with_reducible refine Kd.C_drew ?_))); (case side2 => exact HC1.out); (case side3 => repeat (first | exact (by repeat (first | (with_reducible exact HR149_1.out) | (with_reducible refine Kd.C_alloc ?_ _) | (with_reducible refine Kd.C_drewN ?_ _) | (with_reducible refine Kd.C_drew ?_) | exact HR149_1.out)) | (with_reducible refine Kd.C_alloc ?_ _) | (with_reducible refine Kd.C_drewN ?_ _) | (with_reducible refine Kd.C_drew ?_))); (case side4 => exact HC149_1.out); rintro e w42 ⟨rfl, hb⟩; refine ⟨_, rfl, ?_⟩; have n0_ := Aside0.mk (Kd.V_below (by (with_reducible repeat (first | apply Kd.V_alloc | apply Kd.V_drewN | apply Kd.V_drew)); exact HO_142011.out) hb); have n1_ := Aside0.mk (Kd.V_below (by (with_reducible repeat (first | apply Kd.V_alloc | apply Kd.V_drewN | apply Kd.V_drew)); exact HL149_1.out) hb); have n2_ := Aside0.mk (blk_below (g := gb141) (o := .cells #[.int .i64 a2_0, .slice A2_1 l2_1.length c2_1, .int .i64 a2_2, .int .i64 a2_3, .slice A2_4 l2_4.length c2_4, .int .i64 a2_5, .bool a2_6, .bool a2_7, .int .i64 a2_8, .int .u16 a2_9, .slice A2_10 l2_10.length c2_10, .slice (some ad149) l2_11.length c2_11, .slice A2_12 l2_12.length c2_12, .slice A2_13 l2_13.length c2_13, .slice A2_14 l2_14.length c2_14, .int .i64 a2_15] 57 (0, 0)) (by (with_reducible repeat (first | refine blk_drewN ?_ _ | refine blk_drew ?_ | refine blk_alloc ?_ _)); exact BK141.out) hb); have n3_ := Aside0.mk (blk_below (g := gb142) (o := .cells #[.string x143000_2, .slice none 0 0] 43 (0, 0)) (by (with_reducible repeat (first | refine blk_drewN ?_ _ | refine blk_drew ?_ | refine blk_alloc ?_ _)); exact BK142.out) hb); have n4_ := Aside0.mk (Kd.C_below (by repeat (first | (with_reducible exact HR149_1.out) | (with_reducible refine Kd.C_alloc ?_ _) | (with_reducible refine Kd.C_drewN ?_ _) | (with_reducible refine Kd.C_drew ?_) | exact HR149_1.out)) hb); have n5_ := Aside0.mk (below_step (by repeat (first | (with_reducible first | exact HB.out | apply below_alloc | apply pw_below_drewN | apply below_drew1 | refine below_set ?_ GE141.out | refine below_set ?_ GE142.out) | exact HB.out)) hb); clear HO_142011; clear HL149_1; clear BK141; clear BK142; clear HR149_1; clear HB; have HO_142011 := n0_; have HL149_1 := n1_; have BK141 := n2_; have BK142 := n3_; have HR149_1 := n4_; have HB := n5_; clear n0_ n1_ n2_ n3_ n4_ n5_; (try clear hb); (try clear hb2); (try clear hk); (try clear hi); have hcz43_0 : w42.cell? ⟨gb141, 0, none⟩ = some (.int .i64 a2_0) := (blk_cell BK141.out 0).trans rfl; have hcz43_1 : w42.cell? ⟨gb141, 1, none⟩ = some (.slice A2_1 l2_1.length c2_1) := (blk_cell BK141.out 1).trans rfl; have hcz43_2 : w42.cell? ⟨gb141, 2, none⟩ = some (.int .i64 a2_2) := (blk_cell BK141.out 2).trans rfl; have hcz43_3 : w42.cell? ⟨gb141, 3, none⟩ = some (.int .i64 a2_3) := (blk_cell BK141.out 3).trans rfl; have hcz43_4 : w42.cell? ⟨gb141, 4, none⟩ = some (.slice A2_4 l2_4.length c2_4) := (blk_cell BK141.out 4).trans rfl; have hcz43_5 : w42.cell? ⟨gb141, 5, none⟩ = some (.int .i64 a2_5) := (blk_cell BK141.out 5).trans rfl; have hcz43_6 : w42.cell? ⟨gb141, 6, none⟩ = some (.bool a2_6) := (blk_cell BK141.out 6).trans rfl; have hcz43_7 : w42.cell? ⟨gb141, 7, none⟩ = some (.bool a2_7) := (blk_cell BK141.out 7).trans rfl; have hcz43_8 : w42.cell? ⟨gb141, 8, none⟩ = some (.int .i64 a2_8) := (blk_cell BK141.out 8).trans rfl; have hcz43_9 : w42.cell? ⟨gb141, 9, none⟩ = some (.int .u16 a2_9) := (blk_cell BK141.out 9).trans rfl; have hcz43_10 : w42.cell? ⟨gb141, 10, none⟩ = some (.slice A2_10 l2_10.length c2_10) := (blk_cell BK141.out 10).trans rfl; have hcz43_11 : w42.cell? ⟨gb141, 11, none⟩ = some (.slice (some ad149) l2_11.length c2_11) := (blk_cell BK141.out 11).trans rfl; have hcz43_12 : w42.cell? ⟨gb141, 12, none⟩ = some (.slice A2_12 l2_12.length c2_12) := (blk_cell BK141.out 12).trans rfl; have hcz43_13 : w42.cell? ⟨gb141, 13, none⟩ = some (.slice A2_13 l2_13.length c2_13) := (blk_cell BK141.out 13).trans rfl; have hcz43_14 : w42.cell? ⟨gb141, 14, none⟩ = some (.slice A2_14 l2_14.length c2_14) := (blk_cell BK141.out 14).trans rfl; have hcz43_15 : w42.cell? ⟨gb141, 15, none⟩ = some (.int .i64 a2_15) := (blk_cell BK141.out 15).trans rfl; have hfz43_0 := blk_frozen BK141.out 0; have hfz43_1 := blk_frozen BK141.out 1; have hfz43_2 := blk_frozen BK141.out 2; have hfz43_3 := blk_frozen BK141.out 3; have hfz43_4 := blk_frozen BK141.out 4; have hfz43_5 := blk_frozen BK141.out 5; have hfz43_6 := blk_frozen BK141.out 6; have hfz43_7 := blk_frozen BK141.out 7; have hfz43_8 := blk_frozen BK141.out 8; have hfz43_9 := blk_frozen BK141.out 9; have hfz43_10 := blk_frozen BK141.out 10; have hfz43_11 := blk_frozen BK141.out 11; have hfz43_12 := blk_frozen BK141.out 12; have hfz43_13 := blk_frozen BK141.out 13; have hfz43_14 := blk_frozen BK141.out 14; have hfz43_15 := blk_frozen BK141.out 15; have p152 : 0 ≤ (x11_2 : Int) := of_decide_eq_true (by first | (with_reducible assumption) | assumption); have q152 : x11_2 < (l2_11.length : Int) := of_decide_eq_true (by first | (with_reducible assumption) | assumption); obtain ⟨ad152, A152_1, c152_1, e152, hx152_0, hx152_1, hl152_1, hi152_1⟩ := at_T43 (Kd.V_reads' HO_142011.out).2.2 x11_2 p152 q152; obtain rfl : ad149 = ad152 := (by injection e152); obtain ⟨ce152, hce152, hMe152, hcc152⟩ := Kd.V_get HO_142011.out z43 x11_2 p152 (by first | exact q152 | exact of_decide_eq_true (by first | (with_reducible assumption) | assumption) | (have e_ := (Kd.V_reads' HO_142011.out).1; omega)); obtain ⟨ua152_1, uc152_1, rfl, ul152_1, ge152_1⟩ := k43_openF hMe152; have hv152_1 := hcc152 1 _ rfl; rw [add_field _ _ 1 (by omega)] at hv152_1; replace hv152_1 := Option.some.inj (hv152_1.symm.trans hx152_1); injection hv152_1 with hva_ hvn_ hvc_; rw [hva_] at ge152_1; rw [hvc_] at ul152_1; have HL152_1 := Aside0.mk (show Kd.V Kd.string 9 _ w.heap.size _ _ ((rd_T43 l2_11 x11_2).f1) from Kd.V_mk ul152_1 ge152_1); clear hva_ hvn_ hvc_ ge152_1 ul152_1; clear hcc152 hce152; have HR152_1 := Aside0.mk hi152_1; have HC152_1 := Aside0.mk hl152_1; clear hi152_1 hl152_1; replace p152 := eq_true p152; replace q152 := eq_true q152; have hcz44_0 : w42.cell? ⟨gb142, 0, none⟩ = some (.string x143000_2) := (blk_cell BK142.out 0).trans rfl; have hcz44_1 : w42.cell? ⟨gb142, 1, none⟩ = some (.slice none 0 0) := (blk_cell BK142.out 1).trans rfl; have hfz44_0 := blk_frozen BK142.out 0; have hfz44_1 := blk_frozen BK142.out 1))
            refine bodyPost_ret (results_ct rfl _ _ gb142 43 #[.string ((rd_T43 l2_11 x11_2).f0), .slice A152_1 ((rd_T43 l2_11 x11_2).f1).length c152_1] (0, 0) _ rfl (by (with_reducible repeat (first | refine blk_drewN ?_ _ | refine blk_drew ?_ | refine blk_alloc ?_ _)); refine blk_put (cs := #[.string ((rd_T43 l2_11 x11_2).f0), .slice none 0 0]) ?_ 1 _ rfl; (with_reducible repeat (first | refine blk_drewN ?_ _ | refine blk_drew ?_ | refine blk_alloc ?_ _)); refine blk_put (cs := #[.string x143000_2, .slice none 0 0]) ?_ 0 _ rfl; (with_reducible repeat (first | refine blk_drewN ?_ _ | refine blk_drew ?_ | refine blk_alloc ?_ _)); exact BK142.out) Try.underlying43 rfl (by kernel_rfl)) rfl ?_
            exact ⟨_, by first | rfl | (simp [errW_none, errW_some] <;> rfl) | (simp [*, errW_none, errW_some] <;> rfl), by (with_reducible repeat (first | apply Kd.V_alloc | apply Kd.V_drewN | apply Kd.V_drew)); exact Kd.V_mono (Kd.V_far (p := ⟨gb142, 1, none⟩) (Kd.V_far (p := ⟨gb142, 0, none⟩) (Kd.V_mono HL152_1.out (fun k_ hk => (⟨hk, hk.2.2⟩ : _ ∧ k_ ≠ gb142))) (fun _ hk => hk.2) (.string ((rd_T43 l2_11 x11_2).f0))) (fun _ hk => hk.2) (.slice A152_1 ((rd_T43 l2_11 x11_2).f1).length c152_1)) (fun _ hk => hk.1.1), by repeat (first | (with_reducible first | exact HB.out | apply below_alloc | apply pw_below_drewN | apply below_drew1 | refine below_set ?_ GE141.out | refine below_set ?_ GE142.out) | exact HB.out)⟩
           ·replace c39 := Bool.eq_false_iff.mpr c39
            subst c39
            have H1 : (warderref21_Whose.l1 kj28 l1 t148 (wrap64 (x11_2 + 1)) a2_0 l2_1 a2_2 a2_3 l2_4 a2_5 a2_6 a2_7 a2_8 a2_9 l2_10 l2_11 l2_12 l2_13 l2_14 a2_15) = some (r1, r2, r3) := by rw [if_neg (show ¬ (false = true) by decide)] at H; exact H
            clear H
            have H := H1
            clear H1
            have H' := Aside0.mk H
            clear H
            have hnb45 := NB141_142.out
            have hnc45 := NB142_141.out
            have hcz46_0 : wc.cell? ⟨gb141, 0, none⟩ = some (.int .i64 a2_0) := (blk_cell BK141.out 0).trans rfl
            have hcz46_1 : wc.cell? ⟨gb141, 1, none⟩ = some (.slice A2_1 l2_1.length c2_1) := (blk_cell BK141.out 1).trans rfl
            have hcz46_2 : wc.cell? ⟨gb141, 2, none⟩ = some (.int .i64 a2_2) := (blk_cell BK141.out 2).trans rfl
            have hcz46_3 : wc.cell? ⟨gb141, 3, none⟩ = some (.int .i64 a2_3) := (blk_cell BK141.out 3).trans rfl
            have hcz46_4 : wc.cell? ⟨gb141, 4, none⟩ = some (.slice A2_4 l2_4.length c2_4) := (blk_cell BK141.out 4).trans rfl
            have hcz46_5 : wc.cell? ⟨gb141, 5, none⟩ = some (.int .i64 a2_5) := (blk_cell BK141.out 5).trans rfl
            have hcz46_6 : wc.cell? ⟨gb141, 6, none⟩ = some (.bool a2_6) := (blk_cell BK141.out 6).trans rfl
            have hcz46_7 : wc.cell? ⟨gb141, 7, none⟩ = some (.bool a2_7) := (blk_cell BK141.out 7).trans rfl
            have hcz46_8 : wc.cell? ⟨gb141, 8, none⟩ = some (.int .i64 a2_8) := (blk_cell BK141.out 8).trans rfl
            have hcz46_9 : wc.cell? ⟨gb141, 9, none⟩ = some (.int .u16 a2_9) := (blk_cell BK141.out 9).trans rfl
            have hcz46_10 : wc.cell? ⟨gb141, 10, none⟩ = some (.slice A2_10 l2_10.length c2_10) := (blk_cell BK141.out 10).trans rfl
            have hcz46_11 : wc.cell? ⟨gb141, 11, none⟩ = some (.slice A2_11 l2_11.length c2_11) := (blk_cell BK141.out 11).trans rfl
            have hcz46_12 : wc.cell? ⟨gb141, 12, none⟩ = some (.slice A2_12 l2_12.length c2_12) := (blk_cell BK141.out 12).trans rfl
            have hcz46_13 : wc.cell? ⟨gb141, 13, none⟩ = some (.slice A2_13 l2_13.length c2_13) := (blk_cell BK141.out 13).trans rfl
            have hcz46_14 : wc.cell? ⟨gb141, 14, none⟩ = some (.slice A2_14 l2_14.length c2_14) := (blk_cell BK141.out 14).trans rfl
            have hcz46_15 : wc.cell? ⟨gb141, 15, none⟩ = some (.int .i64 a2_15) := (blk_cell BK141.out 15).trans rfl
            have hfz46_0 := blk_frozen BK141.out 0
            have hfz46_1 := blk_frozen BK141.out 1
            have hfz46_2 := blk_frozen BK141.out 2
            have hfz46_3 := blk_frozen BK141.out 3
            have hfz46_4 := blk_frozen BK141.out 4
            have hfz46_5 := blk_frozen BK141.out 5
            have hfz46_6 := blk_frozen BK141.out 6
            have hfz46_7 := blk_frozen BK141.out 7
            have hfz46_8 := blk_frozen BK141.out 8
            have hfz46_9 := blk_frozen BK141.out 9
            have hfz46_10 := blk_frozen BK141.out 10
            have hfz46_11 := blk_frozen BK141.out 11
            have hfz46_12 := blk_frozen BK141.out 12
            have hfz46_13 := blk_frozen BK141.out 13
            have hfz46_14 := blk_frozen BK141.out 14
            have hfz46_15 := blk_frozen BK141.out 15
            have p149 : 0 ≤ (x11_2 : Int) := of_decide_eq_true (by first | (with_reducible assumption) | assumption)
            have q149 : x11_2 < (l2_11.length : Int) := of_decide_eq_true (by first | (with_reducible assumption) | assumption)
            obtain ⟨ad149, A149_1, c149_1, e149, hx149_0, hx149_1, hl149_1, hi149_1⟩ := at_T43 (Kd.V_reads' HO_142011.out).2.2 x11_2 p149 q149
            cases e149
            obtain ⟨ce149, hce149, hMe149, hcc149⟩ := Kd.V_get HO_142011.out z43 x11_2 p149 (by first | exact q149 | exact of_decide_eq_true (by first | (with_reducible assumption) | assumption) | (have e_ := (Kd.V_reads' HO_142011.out).1; omega))
            obtain ⟨ua149_1, uc149_1, rfl, ul149_1, ge149_1⟩ := k43_openF hMe149
            have hv149_1 := hcc149 1 _ rfl
            rw [add_field _ _ 1 (by omega)] at hv149_1
            replace hv149_1 := Option.some.inj (hv149_1.symm.trans hx149_1)
            injection hv149_1 with hva_ hvn_ hvc_
            rw [hva_] at ge149_1
            rw [hvc_] at ul149_1
            have HL149_1 := Aside0.mk (show Kd.V Kd.string 9 _ w.heap.size _ _ ((rd_T43 l2_11 x11_2).f1) from Kd.V_mk ul149_1 ge149_1)
            clear hva_ hvn_ hvc_ ge149_1 ul149_1
            clear hcc149 hce149
            have HR149_1 := Aside0.mk hi149_1
            have HC149_1 := Aside0.mk hl149_1
            clear hi149_1 hl149_1
            replace p149 := eq_true p149
            replace q149 := eq_true q149
            go_wp2_with (first | ((with_reducible refine gate_callee (f := 20) rfl ?_); refine goesL_ (some 65) rfl rfl Try.func20 (by kernel_rfl) rfl #[.slice A1 l1.length c1, .agg #[.string ((rd_T43 l2_11 x11_2).f0), .slice A149_1 ((rd_T43 l2_11 x11_2).f1).length c149_1]] rfl (by (try simp only [List.map_toArray, List.map_cons, List.map_nil]); first | done | rfl | (simp only [List.length_drop, List.length_take]; rfl)) ?_; (with_reducible refine (warderref21_Lookup.calls kj28 _ _ l1 ((rd_T43 l2_11 x11_2).f0) _ _ ((rd_T43 l2_11 x11_2).f1) t150 false _ ?side1 ?side2 ?side3 ?side4 A38.out).mono ?_); (case side1 => repeat (first | exact (Kd.C_below HR1.out HB.out) | (with_reducible refine Kd.C_alloc ?_ _) | (with_reducible refine Kd.C_drewN ?_ _) | (with_reducible refine Kd.C_drew ?_))); (case side2 => exact HC1.out); (case side3 => repeat (first | exact (by repeat (first | (with_reducible exact HR149_1.out) | (with_reducible refine Kd.C_alloc ?_ _) | (with_reducible refine Kd.C_drewN ?_ _) | (with_reducible refine Kd.C_drew ?_) | exact HR149_1.out)) | (with_reducible refine Kd.C_alloc ?_ _) | (with_reducible refine Kd.C_drewN ?_ _) | (with_reducible refine Kd.C_drew ?_))); (case side4 => exact HC149_1.out); rintro e w47 ⟨rfl, hb⟩; refine ⟨_, rfl, ?_⟩; have n0_ := Aside0.mk (Kd.V_below (by (with_reducible repeat (first | apply Kd.V_alloc | apply Kd.V_drewN | apply Kd.V_drew)); exact HO_142011.out) hb); have n1_ := Aside0.mk (Kd.V_below (by (with_reducible repeat (first | apply Kd.V_alloc | apply Kd.V_drewN | apply Kd.V_drew)); exact HL149_1.out) hb); have n2_ := Aside0.mk (blk_below (g := gb141) (o := .cells #[.int .i64 a2_0, .slice A2_1 l2_1.length c2_1, .int .i64 a2_2, .int .i64 a2_3, .slice A2_4 l2_4.length c2_4, .int .i64 a2_5, .bool a2_6, .bool a2_7, .int .i64 a2_8, .int .u16 a2_9, .slice A2_10 l2_10.length c2_10, .slice (some ad149) l2_11.length c2_11, .slice A2_12 l2_12.length c2_12, .slice A2_13 l2_13.length c2_13, .slice A2_14 l2_14.length c2_14, .int .i64 a2_15] 57 (0, 0)) (by (with_reducible repeat (first | refine blk_drewN ?_ _ | refine blk_drew ?_ | refine blk_alloc ?_ _)); exact BK141.out) hb); have n3_ := Aside0.mk (blk_below (g := gb142) (o := .cells #[.string x143000_2, .slice none 0 0] 43 (0, 0)) (by (with_reducible repeat (first | refine blk_drewN ?_ _ | refine blk_drew ?_ | refine blk_alloc ?_ _)); exact BK142.out) hb); have n4_ := Aside0.mk (Kd.C_below (by repeat (first | (with_reducible exact HR149_1.out) | (with_reducible refine Kd.C_alloc ?_ _) | (with_reducible refine Kd.C_drewN ?_ _) | (with_reducible refine Kd.C_drew ?_) | exact HR149_1.out)) hb); have n5_ := Aside0.mk (below_step (by repeat (first | (with_reducible first | exact HB.out | apply below_alloc | apply pw_below_drewN | apply below_drew1 | refine below_set ?_ GE141.out | refine below_set ?_ GE142.out) | exact HB.out)) hb); clear HO_142011; clear HL149_1; clear BK141; clear BK142; clear HR149_1; clear HB; have HO_142011 := n0_; have HL149_1 := n1_; have BK141 := n2_; have BK142 := n3_; have HR149_1 := n4_; have HB := n5_; clear n0_ n1_ n2_ n3_ n4_ n5_; (try clear hb); (try clear hb2); (try clear hk); (try clear hi)))
            go_roundg kj28
            case measure => have := HK1.out; have := HK2.out; have := HJ28.out; omega
            case rel => exact ⟨(wrap64 (x11_2 + 1)), (x143000_2), (by first | rfl | (simp; done) | (simp [*]; done)), H', ⟨by have := HK1.out; have := HK2.out; have := HJ28.out; omega⟩, ⟨by (with_reducible repeat (first | apply Kd.V_alloc | apply Kd.V_drewN | apply Kd.V_drew)); exact HO_142011.out⟩, ⟨by (with_reducible repeat (first | refine blk_drewN ?_ _ | refine blk_drew ?_ | refine blk_alloc ?_ _)); exact BK141.out⟩, ⟨by (with_reducible repeat (first | refine blk_drewN ?_ _ | refine blk_drew ?_ | refine blk_alloc ?_ _)); exact BK142.out⟩, ⟨by repeat (first | (with_reducible first | exact HB.out | apply below_alloc | apply pw_below_drewN | apply below_drew1 | refine below_set ?_ GE141.out | refine below_set ?_ GE142.out) | exact HB.out)⟩⟩
          ·rw [if_neg c37] at H
           exact absurd H (by simp)
         ·rw [if_neg c36] at H
          exact absurd H (by simp)
        ·replace c35 := Bool.eq_false_iff.mpr c35
         subst c35
         have H1 : (some ((⟨#[]⟩ : ByteArray), ([] : List ByteArray), 211)) = some (r1, r2, r3) := by rw [if_neg (show ¬ (false = true) by decide)] at H; exact H
         clear H
         have H := H1
         clear H1
         simp only [Option.some.injEq, Prod.mk.injEq] at H
         obtain ⟨rfl, rfl, rfl⟩ := H
         have hnb48 := NB142_141.out
         have hnc48 := NB141_142.out
         have hcz49_0 : wc.cell? ⟨gb142, 0, none⟩ = some (.string x143000_2) := (blk_cell BK142.out 0).trans rfl
         have hcz49_1 : wc.cell? ⟨gb142, 1, none⟩ = some (.slice none 0 0) := (blk_cell BK142.out 1).trans rfl
         have hfz49_0 := blk_frozen BK142.out 0
         have hfz49_1 := blk_frozen BK142.out 1
         go_wp2
         refine bodyPost_ret (results_ct rfl _ _ gb142 43 #[.string (⟨#[]⟩ : ByteArray), .slice none 0 0] (0, 0) _ rfl (by (with_reducible repeat (first | refine blk_drewN ?_ _ | refine blk_drew ?_ | refine blk_alloc ?_ _)); refine blk_put (cs := #[.string (⟨#[]⟩ : ByteArray), .slice none 0 0]) ?_ 1 _ rfl; (with_reducible repeat (first | refine blk_drewN ?_ _ | refine blk_drew ?_ | refine blk_alloc ?_ _)); refine blk_put (cs := #[.string x143000_2, .slice none 0 0]) ?_ 0 _ rfl; (with_reducible repeat (first | refine blk_drewN ?_ _ | refine blk_drew ?_ | refine blk_alloc ?_ _)); exact BK142.out) Try.underlying43 rfl (by kernel_rfl)) rfl ?_
         exact ⟨_, by first | rfl | (simp [errW_none, errW_some] <;> rfl) | (simp [*, errW_none, errW_some] <;> rfl), Kd.V_nil _ _ _ _ _, by repeat (first | (with_reducible first | exact HB.out | apply below_alloc | apply pw_below_drewN | apply below_drew1 | refine below_set ?_ GE141.out | refine below_set ?_ GE142.out) | exact HB.out)⟩

end Go.Proofs.Ytalcfnhcenpniaa.XT
