-- printed by wip/xprint.py (a scratch copy of the kit's print, with contracts by hand)
import Derived.Test.YtalcfnhcenpniaaXT0
import Derived.Test.YtalcfnhcenpniaaXT1
import Derived.Test.YtalcfnhcenpniaaXT3
import Derived.Test.YtalcfnhcenpniaaXT4
import Derived.Test.YtalcfnhcenpniaaXT5
import Derived.Test.YtalcfnhcenpniaaXT9
import Derived.Test.YtalcfnhcenpniaaXT10
namespace Go.Proofs.Ytalcfnhcenpniaa.XT
open Go.RowKit Go.Proofs.YtalcfnhcenpniaaW.PrintWords Go.Proofs.YtalcfnhcenpniaaW.PrintLast Go.Proofs.YtalcfnhcenpniaaW.PrintMore
attribute [local go_sem] max2_int min2_int max_two min_two max_three min_three max_four min_four   -- for this text's walks alone
set_option linter.unusedVariables false
set_option linter.unusedSimpArgs false

/-! ### warderlaw21_PrincsTell: function 8 -/
mutual
def warderlaw21_PrincsTell.j0 : Nat → List (S65) → List (S45) → Bool → Bool → Int → List (S35) → Int → Int → List (S35) → Int → Bool → Bool → Int → Int → List (List Int) → List (S43) → List (List (S35)) → List (List (S35)) → List (S134) → Int → ByteArray → List ByteArray → Option (Bool)
 | 0, _, _, _, _, _, _, _, _, _, _, _, _, _, _, _, _, _, _, _, _, _, _ => none
 | k + 1, x0, x1, x9, x42, x159000, x159001, x159002, x159003, x159004, x159005, x159006, x159007, x159008, x159009, x159010, x159011, x159012, x159013, x159014, x159015, x160000, x160001 => if x42 = true then (some x9) else ((princs_Lookup.f x1 x160000 x160001).bind fun bt161 => ((warderref21_Lookup.f k x1 x160000 x160001).bind fun bt163 => ((princs_Whose.f x0 x1 x159000 x159001 x159002 x159003 x159004 x159005 x159006 x159007 x159008 x159009 x159010 x159011 x159012 x159013 x159014 x159015).bind fun bt165 => ((warderref21_Whose.f k x0 x1 x159000 x159001 x159002 x159003 x159004 x159005 x159006 x159007 x159008 x159009 x159010 x159011 x159012 x159013 x159014 x159015).bind fun bt171 => (warderlaw21_PrincsTell.l0 k x1 x9 bt161.1 bt161.2 bt163.1 bt163.2 bt165.2.2 bt171.2.2 true 0 x159000 x159001 x159002 x159003 x159004 x159005 x159006 x159007 x159008 x159009 x159010 x159011 x159012 x159013 x159014 x159015 x160000 x160001 bt165.1 bt165.2.1 bt171.1 bt171.2.1)))))
def warderlaw21_PrincsTell.l0 : Nat → List (S45) → Bool → Int → Bool → Int → Bool → Int → Int → Bool → Int → Int → List (S35) → Int → Int → List (S35) → Int → Bool → Bool → Int → Int → List (List Int) → List (S43) → List (List (S35)) → List (List (S35)) → List (S134) → Int → ByteArray → List ByteArray → ByteArray → List ByteArray → ByteArray → List ByteArray → Option (Bool)
 | 0, _, _, _, _, _, _, _, _, _, _, _, _, _, _, _, _, _, _, _, _, _, _, _, _, _, _, _, _, _, _, _, _ => none
 | k + 1, x1, x9, x10, x11, x12, x13, x15, x17, x18, x19, x159000, x159001, x159002, x159003, x159004, x159005, x159006, x159007, x159008, x159009, x159010, x159011, x159012, x159013, x159014, x159015, x160000, x160001, x171000, x171001, x177000, x177001 => if x19 < (x1.length : Int) then (if x18 = true then (if 0 ≤ x19 then ((princs_Same.f k ((rd_T45 x1 x19).f0.f0) ((rd_T45 x1 x19).f0.f1) x160000 x160001).bind fun t178 => ((warderref09_AlikePrinc.f k ((rd_T45 x1 x19).f0.f0) ((rd_T45 x1 x19).f0.f1) x160000 x160001).bind fun t180 => (warderlaw21_PrincsTell.l0 k x1 x9 x10 x11 x12 x13 x15 x17 (t178 == t180) (wrap64 (x19 + 1)) x159000 x159001 x159002 x159003 x159004 x159005 x159006 x159007 x159008 x159009 x159010 x159011 x159012 x159013 x159014 x159015 x160000 x160001 x171000 x171001 x177000 x177001))) else (none)) else (warderlaw21_PrincsTell.l0 k x1 x9 x10 x11 x12 x13 x15 x17 false (wrap64 (x19 + 1)) x159000 x159001 x159002 x159003 x159004 x159005 x159006 x159007 x159008 x159009 x159010 x159011 x159012 x159013 x159014 x159015 x160000 x160001 x171000 x171001 x177000 x177001)) else (if x9 = true then (if x18 = true then (if x10 = x12 then (if (x11 == x13) = true then ((warderref09_AlikePrinc.f k x171000 x171001 x177000 x177001).bind fun t181 => (if t181 = true then (if x15 = x17 then ((princs_Kdc.f x159000 x159001 x159002 x159003 x159004 x159005 x159006 x159007 x159008 x159009 x159010 x159011 x159012 x159013 x159014 x159015 x160000 x160001).bind fun t182 => ((warderref21_Kdc.f k x159000 x159001 x159002 x159003 x159004 x159005 x159006 x159007 x159008 x159009 x159010 x159011 x159012 x159013 x159014 x159015 x160000 x160001).bind fun t183 => (some (t182 == t183)))) else (some false)) else (some false))) else (some false)) else (some false)) else (some false)) else (some false))
end
def warderlaw21_PrincsTell.f (k : Nat) (l0 : List (S65)) (l1 : List (S45)) (a2_0 : Int) (l2_1 : List (S35)) (a2_2 : Int) (a2_3 : Int) (l2_4 : List (S35)) (a2_5 : Int) (a2_6 : Bool) (a2_7 : Bool) (a2_8 : Int) (a2_9 : Int) (l2_10 : List (List Int)) (l2_11 : List (S43)) (l2_12 : List (List (S35))) (l2_13 : List (List (S35))) (l2_14 : List (S134)) (a2_15 : Int) (a3_0 : ByteArray) (l3_1 : List ByteArray) : Option (Bool) := (warderlaw21_head.f).bind fun t160 => (if (l0.length : Int) > 500 then (warderlaw21_PrincsTell.j0 k l0 l1 t160 true a2_0 l2_1 a2_2 a2_3 l2_4 a2_5 a2_6 a2_7 a2_8 a2_9 l2_10 l2_11 l2_12 l2_13 l2_14 a2_15 a3_0 l3_1) else (if (l1.length : Int) > 500 then (warderlaw21_PrincsTell.j0 k l0 l1 t160 true a2_0 l2_1 a2_2 a2_3 l2_4 a2_5 a2_6 a2_7 a2_8 a2_9 l2_10 l2_11 l2_12 l2_13 l2_14 a2_15 a3_0 l3_1) else (if (l2_11.length : Int) > 500 then (warderlaw21_PrincsTell.j0 k l0 l1 t160 true a2_0 l2_1 a2_2 a2_3 l2_4 a2_5 a2_6 a2_7 a2_8 a2_9 l2_10 l2_11 l2_12 l2_13 l2_14 a2_15 a3_0 l3_1) else (warderlaw21_PrincsTell.j0 k l0 l1 t160 (decide ((l2_10.length : Int) > 500)) a2_0 l2_1 a2_2 a2_3 l2_4 a2_5 a2_6 a2_7 a2_8 a2_9 l2_10 l2_11 l2_12 l2_13 l2_14 a2_15 a3_0 l3_1))))
def warderlaw21_PrincsTell.T12 : Bool × List (List Nat × List Nat) := (true, [([], []), ([0], [0]), ([1], [1]), ([1], [1]), ([2, 3, 1], [1, 2, 3]), ([4, 1], [1, 4]), ([5, 1], [1, 5]), ([1], [1]), ([6, 7, 1, 1], [1, 6, 7]), ([1], [1]), ([1], [1]), ([9, 10, 1], [1, 9, 10]), ([11, 1], [1, 11]), ([12, 1], [1, 12]), ([1], [1]), ([13, 14, 8, 1], [1, 13, 14]), ([8, 15, 1], [1, 8, 15]), ([1, 16], [1, 16]), ([17, 15, 0, 1, 2, 3, 4, 5, 6, 7, 8, 9, 10, 11, 12, 13, 14, 15, 16, 17], [0, 17])])
def warderlaw21_PrincsTell.B12 : List Nat := [0, 1, 3, 3, 15, 31, 63, 3, 255, 3, 3, 1539, 3587, 7683, 3, 32767, 65535, 131071, 262143]
theorem warderlaw21_PrincsTell.tab12 : rtab .any (opsOf Try.f8 12) = warderlaw21_PrincsTell.T12 := by kernel_rfl
theorem warderlaw21_PrincsTell.bits12 : waitsOk warderlaw21_PrincsTell.T12.2 warderlaw21_PrincsTell.B12 = true := by kernel_rfl
def warderlaw21_PrincsTell.T13 : Bool × List (List Nat × List Nat) := (true, [([], []), ([0], [0]), ([1], [1]), ([1, 2], [1, 2]), ([3, 1], [3]), ([4], [4]), ([4], [4]), ([5, 6, 4], [4, 5, 6]), ([4, 7], [4, 7]), ([8, 4], [8]), ([9], [9]), ([9], [9]), ([10, 11, 9], [9, 10, 11]), ([9, 12], [9, 12]), ([13, 9], [13]), ([14], [14]), ([14], [14]), ([15, 16, 14, 14], [14, 15, 16]), ([14, 17], [14, 17]), ([18, 17], [18]), ([19], [19]), ([19], [19]), ([20, 21, 19], [19, 20, 21]), ([19, 22], [19, 22]), ([23, 19], [23]), ([24], [24]), ([24], [24]), ([25, 26, 24, 24], [24, 25, 26]), ([24], [24]), ([24], [24]), ([28, 29, 27, 24], [24, 28, 29]), ([27, 30, 24], [24, 27, 30]), ([24, 31], [24, 31]), ([32, 30, 0, 1, 2, 3, 4, 5, 6, 7, 8, 9, 10, 11, 12, 13, 14, 15, 16, 17, 18, 19, 20, 21, 22, 23, 24, 25, 26, 27, 28, 29, 30, 31, 32], [32])])
def warderlaw21_PrincsTell.B13 : List Nat := [0, 1, 3, 7, 15, 31, 31, 127, 255, 511, 1023, 1023, 4095, 8191, 16383, 32767, 32767, 131071, 262143, 524287, 1048575, 1048575, 4194303, 8388607, 16777215, 33554431, 33554431, 134217727, 33554431, 33554431, 1073741823, 2147483647, 4294967295, 8589934591]
theorem warderlaw21_PrincsTell.tab13 : rtab .any (opsOf Try.f8 13) = warderlaw21_PrincsTell.T13 := by kernel_rfl
theorem warderlaw21_PrincsTell.bits13 : waitsOk warderlaw21_PrincsTell.T13.2 warderlaw21_PrincsTell.B13 = true := by kernel_rfl
set_option maxHeartbeats 8000000 in
set_option maxRecDepth 100000 in
theorem warderlaw21_PrincsTell.calls (k : Nat) (A0 : Option Addr) (c0 : Nat) (l0 : List (S65)) (A1 : Option Addr) (c1 : Nat) (l1 : List (S45)) (a2_0 : Int) (A2_1 : Option Addr) (c2_1 : Nat) (l2_1 : List (S35)) (a2_2 : Int) (a2_3 : Int) (A2_4 : Option Addr) (c2_4 : Nat) (l2_4 : List (S35)) (a2_5 : Int) (a2_6 : Bool) (a2_7 : Bool) (a2_8 : Int) (a2_9 : Int) (A2_10 : Option Addr) (c2_10 : Nat) (l2_10 : List (List Int)) (A2_11 : Option Addr) (c2_11 : Nat) (l2_11 : List (S43)) (A2_12 : Option Addr) (c2_12 : Nat) (l2_12 : List (List (S35))) (A2_13 : Option Addr) (c2_13 : Nat) (l2_13 : List (List (S35))) (A2_14 : Option Addr) (c2_14 : Nat) (l2_14 : List (S134)) (a2_15 : Int) (a3_0 : ByteArray) (A3_1 : Option Addr) (c3_1 : Nat) (l3_1 : List ByteArray) (r : Bool) (w : World) (hr0 : Kd.C k65 w A0 l0.length l0) (hc0 : l0.length ≤ c0) (hr1 : Kd.C k45 w A1 l1.length l1) (hc1 : l1.length ≤ c1) (hr2_1 : Kd.C k35 w A2_1 l2_1.length l2_1) (hc2_1 : l2_1.length ≤ c2_1) (hr2_4 : Kd.C k35 w A2_4 l2_4.length l2_4) (hc2_4 : l2_4.length ≤ c2_4) (hr2_10 : Kd.C (Kd.slice 3 (Kd.int .i64)) w A2_10 l2_10.length l2_10) (hc2_10 : l2_10.length ≤ c2_10) (hr2_11 : Kd.C k43 w A2_11 l2_11.length l2_11) (hc2_11 : l2_11.length ≤ c2_11) (hr2_12 : Kd.C (Kd.slice 35 k35) w A2_12 l2_12.length l2_12) (hc2_12 : l2_12.length ≤ c2_12) (hr2_13 : Kd.C (Kd.slice 35 k35) w A2_13 l2_13.length l2_13) (hc2_13 : l2_13.length ≤ c2_13) (hr2_14 : Kd.C k134 w A2_14 l2_14.length l2_14) (hc2_14 : l2_14.length ≤ c2_14) (hr3_1 : Kd.C Kd.string w A3_1 l3_1.length l3_1) (hc3_1 : l3_1.length ≤ c3_1) (hrt : r = true) (h : warderlaw21_PrincsTell.f k l0 l1 a2_0 l2_1 a2_2 a2_3 l2_4 a2_5 a2_6 a2_7 a2_8 a2_9 l2_10 l2_11 l2_12 l2_13 l2_14 a2_15 a3_0 l3_1 = some r) :
  Calls Try.prog 8 #[.slice A0 l0.length c0, .slice A1 l1.length c1, .agg #[.int .i64 a2_0, .slice A2_1 l2_1.length c2_1, .int .i64 a2_2, .int .i64 a2_3, .slice A2_4 l2_4.length c2_4, .int .i64 a2_5, .bool a2_6, .bool a2_7, .int .i64 a2_8, .int .u16 a2_9, .slice A2_10 l2_10.length c2_10, .slice A2_11 l2_11.length c2_11, .slice A2_12 l2_12.length c2_12, .slice A2_13 l2_13.length c2_13, .slice A2_14 l2_14.length c2_14, .int .i64 a2_15], .agg #[.string a3_0, .slice A3_1 l3_1.length c3_1]] w fun e w' => e = .returned (.bool r) ∧ Below w.heap.size w w' := by
 have hu57 := Try.underlying57
 have hu43 := Try.underlying43
 have HR0 := Aside0.mk hr0
 have HC0 := Aside0.mk hc0
 clear hr0 hc0
 have HR1 := Aside0.mk hr1
 have HC1 := Aside0.mk hc1
 clear hr1 hc1
 have HR2_1 := Aside0.mk hr2_1
 have HC2_1 := Aside0.mk hc2_1
 clear hr2_1 hc2_1
 have HR2_4 := Aside0.mk hr2_4
 have HC2_4 := Aside0.mk hc2_4
 clear hr2_4 hc2_4
 have HR2_10 := Aside0.mk hr2_10
 have HC2_10 := Aside0.mk hc2_10
 clear hr2_10 hc2_10
 have HR2_11 := Aside0.mk hr2_11
 have HC2_11 := Aside0.mk hc2_11
 clear hr2_11 hc2_11
 have HR2_12 := Aside0.mk hr2_12
 have HC2_12 := Aside0.mk hc2_12
 clear hr2_12 hc2_12
 have HR2_13 := Aside0.mk hr2_13
 have HC2_13 := Aside0.mk hc2_13
 clear hr2_13 hc2_13
 have HR2_14 := Aside0.mk hr2_14
 have HC2_14 := Aside0.mk hc2_14
 clear hr2_14 hc2_14
 have HR3_1 := Aside0.mk hr3_1
 have HC3_1 := Aside0.mk hc3_1
 clear hr3_1 hc3_1
 have HB := Aside0.mk (Below.refl w.heap.size w)
 have H : ((warderlaw21_head.f).bind fun t160 => (if (l0.length : Int) > 500 then (warderlaw21_PrincsTell.j0 k l0 l1 t160 true a2_0 l2_1 a2_2 a2_3 l2_4 a2_5 a2_6 a2_7 a2_8 a2_9 l2_10 l2_11 l2_12 l2_13 l2_14 a2_15 a3_0 l3_1) else (if (l1.length : Int) > 500 then (warderlaw21_PrincsTell.j0 k l0 l1 t160 true a2_0 l2_1 a2_2 a2_3 l2_4 a2_5 a2_6 a2_7 a2_8 a2_9 l2_10 l2_11 l2_12 l2_13 l2_14 a2_15 a3_0 l3_1) else (if (l2_11.length : Int) > 500 then (warderlaw21_PrincsTell.j0 k l0 l1 t160 true a2_0 l2_1 a2_2 a2_3 l2_4 a2_5 a2_6 a2_7 a2_8 a2_9 l2_10 l2_11 l2_12 l2_13 l2_14 a2_15 a3_0 l3_1) else (warderlaw21_PrincsTell.j0 k l0 l1 t160 (decide ((l2_10.length : Int) > 500)) a2_0 l2_1 a2_2 a2_3 l2_4 a2_5 a2_6 a2_7 a2_8 a2_9 l2_10 l2_11 l2_12 l2_13 l2_14 a2_15 a3_0 l3_1))))) = some r := h
 clear h
 replace H := Option.bind_eq_some_iff.mp H
 obtain ⟨t160, A50, H⟩ := H
 replace H : (if (l0.length : Int) > 500 then (warderlaw21_PrincsTell.j0 k l0 l1 t160 true a2_0 l2_1 a2_2 a2_3 l2_4 a2_5 a2_6 a2_7 a2_8 a2_9 l2_10 l2_11 l2_12 l2_13 l2_14 a2_15 a3_0 l3_1) else (if (l1.length : Int) > 500 then (warderlaw21_PrincsTell.j0 k l0 l1 t160 true a2_0 l2_1 a2_2 a2_3 l2_4 a2_5 a2_6 a2_7 a2_8 a2_9 l2_10 l2_11 l2_12 l2_13 l2_14 a2_15 a3_0 l3_1) else (if (l2_11.length : Int) > 500 then (warderlaw21_PrincsTell.j0 k l0 l1 t160 true a2_0 l2_1 a2_2 a2_3 l2_4 a2_5 a2_6 a2_7 a2_8 a2_9 l2_10 l2_11 l2_12 l2_13 l2_14 a2_15 a3_0 l3_1) else (warderlaw21_PrincsTell.j0 k l0 l1 t160 (decide ((l2_10.length : Int) > 500)) a2_0 l2_1 a2_2 a2_3 l2_4 a2_5 a2_6 a2_7 a2_8 a2_9 l2_10 l2_11 l2_12 l2_13 l2_14 a2_15 a3_0 l3_1)))) = some r := H
 have A5 := Aside0.mk A50
 clear A50
 have HC6 := Aside0.mk H
 clear H
 go_enter Try.func8, Try.ntmps8
 go_upto_region 2 with (first | ((with_reducible refine gate_dst (N := 6) rfl ?_); (try (refine gate_guard (by rfl) ?_; dsimp only)); refine box_event ?hg (N := 6) ?hd (cs := #[.int .i64 a2_0, .slice A2_1 l2_1.length c2_1, .int .i64 a2_2, .int .i64 a2_3, .slice A2_4 l2_4.length c2_4, .int .i64 a2_5, .bool a2_6, .bool a2_7, .int .i64 a2_8, .int .u16 a2_9, .slice A2_10 l2_10.length c2_10, .slice A2_11 l2_11.length c2_11, .slice A2_12 l2_12.length c2_12, .slice A2_13 l2_13.length c2_13, .slice A2_14 l2_14.length c2_14, .int .i64 a2_15]) (t := 57) ?hr ?_; (case hd => rfl); (case hg => rfl); (case hr => first | (go_simp; done) | (go_simp; rfl)); intro gb158 hg w7 hbox hb; have n0_ := Aside0.mk (below_step (by repeat (first | (with_reducible first | exact HB.out | apply below_alloc | apply pw_below_drewN | apply below_drew1) | exact HB.out)) hb); have n1_ := Aside0.mk (hbox); have n2_ := Aside0.mk ((by rw [hg]; exact (below_size (by repeat (first | (with_reducible first | exact HB.out | apply below_alloc | apply pw_below_drewN | apply below_drew1) | exact HB.out))) : w.heap.size ≤ gb158)); have n3_ := Aside0.mk ((by rw [hg]; exact (below_size (by repeat (first | (with_reducible first | exact HB.out | apply below_alloc | apply pw_below_drewN | apply below_drew1) | exact HB.out))) : w.heap.size ≤ gb158)); clear HB; have HB := n0_; have BK158 := n1_; have GW158 := n2_; have GE158 := n3_; clear n0_ n1_ n2_ n3_; clear hb hbox hg) | ((with_reducible refine gate_dst (N := 7) rfl ?_); (try (refine gate_guard (by rfl) ?_; dsimp only)); refine box_event ?hg (N := 7) ?hd (cs := #[.string a3_0, .slice A3_1 l3_1.length c3_1]) (t := 43) ?hr ?_; (case hd => rfl); (case hg => rfl); (case hr => first | (go_simp; done) | (go_simp; rfl)); intro gb159 hg w8 hbox hb; have n0_ := Aside0.mk (blk_below (g := gb158) (o := .cells #[.int .i64 a2_0, .slice A2_1 l2_1.length c2_1, .int .i64 a2_2, .int .i64 a2_3, .slice A2_4 l2_4.length c2_4, .int .i64 a2_5, .bool a2_6, .bool a2_7, .int .i64 a2_8, .int .u16 a2_9, .slice A2_10 l2_10.length c2_10, .slice A2_11 l2_11.length c2_11, .slice A2_12 l2_12.length c2_12, .slice A2_13 l2_13.length c2_13, .slice A2_14 l2_14.length c2_14, .int .i64 a2_15] 57 (0, 0)) (by (with_reducible repeat (first | refine blk_drewN ?_ _ | refine blk_drew ?_ | refine blk_alloc ?_ _)); exact BK158.out) hb); have n1_ := Aside0.mk (below_step (by repeat (first | (with_reducible first | exact HB.out | apply below_alloc | apply pw_below_drewN | apply below_drew1 | refine below_set ?_ GE158.out) | exact HB.out)) hb); have n2_ := Aside0.mk (hbox); have n3_ := Aside0.mk ((by rw [hg]; exact (below_size (by repeat (first | (with_reducible first | exact HB.out | apply below_alloc | apply pw_below_drewN | apply below_drew1 | refine below_set ?_ GE158.out) | exact HB.out))) : w.heap.size ≤ gb159)); have n4_ := Aside0.mk ((by rw [hg]; exact (below_size (by repeat (first | (with_reducible first | exact HB.out | apply below_alloc | apply pw_below_drewN | apply below_drew1 | refine below_set ?_ GE158.out) | exact HB.out))) : w.heap.size ≤ gb159)); have n5_ := Aside0.mk ((by rw [hg]; exact Nat.ne_of_lt (blk_lt (g := gb158) (o := .cells #[.int .i64 a2_0, .slice A2_1 l2_1.length c2_1, .int .i64 a2_2, .int .i64 a2_3, .slice A2_4 l2_4.length c2_4, .int .i64 a2_5, .bool a2_6, .bool a2_7, .int .i64 a2_8, .int .u16 a2_9, .slice A2_10 l2_10.length c2_10, .slice A2_11 l2_11.length c2_11, .slice A2_12 l2_12.length c2_12, .slice A2_13 l2_13.length c2_13, .slice A2_14 l2_14.length c2_14, .int .i64 a2_15] 57 (0, 0)) (by (with_reducible repeat (first | refine blk_drewN ?_ _ | refine blk_drew ?_ | refine blk_alloc ?_ _)); exact BK158.out)) : gb158 ≠ gb159)); have n6_ := Aside0.mk ((by rw [hg]; exact Nat.ne_of_gt (blk_lt (g := gb158) (o := .cells #[.int .i64 a2_0, .slice A2_1 l2_1.length c2_1, .int .i64 a2_2, .int .i64 a2_3, .slice A2_4 l2_4.length c2_4, .int .i64 a2_5, .bool a2_6, .bool a2_7, .int .i64 a2_8, .int .u16 a2_9, .slice A2_10 l2_10.length c2_10, .slice A2_11 l2_11.length c2_11, .slice A2_12 l2_12.length c2_12, .slice A2_13 l2_13.length c2_13, .slice A2_14 l2_14.length c2_14, .int .i64 a2_15] 57 (0, 0)) (by (with_reducible repeat (first | refine blk_drewN ?_ _ | refine blk_drew ?_ | refine blk_alloc ?_ _)); exact BK158.out)) : gb159 ≠ gb158)); clear BK158; clear HB; have BK158 := n0_; have HB := n1_; have BK159 := n2_; have GW159 := n3_; have GE159 := n4_; have NB158_159 := n5_; have NB159_158 := n6_; clear n0_ n1_ n2_ n3_ n4_ n5_ n6_; clear hb hbox hg) | ((with_reducible refine gate_callee (f := 18) rfl ?_); refine goesL_ (some 20) rfl rfl Try.func18 (by kernel_rfl) rfl #[] rfl (by (try simp only [List.map_toArray, List.map_cons, List.map_nil]); first | done | rfl | (simp only [List.length_drop, List.length_take]; rfl)) ?_; (with_reducible refine (warderlaw21_head.calls  t160 _ A5.out).mono ?_); rintro e w9 ⟨rfl, hb⟩; refine ⟨_, rfl, ?_⟩; have n0_ := Aside0.mk (blk_below (g := gb158) (o := .cells #[.int .i64 a2_0, .slice A2_1 l2_1.length c2_1, .int .i64 a2_2, .int .i64 a2_3, .slice A2_4 l2_4.length c2_4, .int .i64 a2_5, .bool a2_6, .bool a2_7, .int .i64 a2_8, .int .u16 a2_9, .slice A2_10 l2_10.length c2_10, .slice A2_11 l2_11.length c2_11, .slice A2_12 l2_12.length c2_12, .slice A2_13 l2_13.length c2_13, .slice A2_14 l2_14.length c2_14, .int .i64 a2_15] 57 (0, 0)) (by (with_reducible repeat (first | refine blk_drewN ?_ _ | refine blk_drew ?_ | refine blk_alloc ?_ _)); exact BK158.out) hb); have n1_ := Aside0.mk (blk_below (g := gb159) (o := .cells #[.string a3_0, .slice A3_1 l3_1.length c3_1] 43 (0, 0)) (by (with_reducible repeat (first | refine blk_drewN ?_ _ | refine blk_drew ?_ | refine blk_alloc ?_ _)); exact BK159.out) hb); have n2_ := Aside0.mk (below_step (by repeat (first | (with_reducible first | exact HB.out | apply below_alloc | apply pw_below_drewN | apply below_drew1 | refine below_set ?_ GE158.out | refine below_set ?_ GE159.out) | exact HB.out)) hb); clear BK158; clear BK159; clear HB; have BK158 := n0_; have BK159 := n1_; have HB := n2_; clear n0_ n1_ n2_; (try clear hb); (try clear hb2); (try clear hk); (try clear hi)))
 (try simp only [Act.put, List.setIfInBounds_toArray, List.set_cons_zero, List.set_cons_succ])
 go_cut [42] (fun v42 wc => ∃ (kq : Nat) (x42_5 : Bool), v42 = .bool x42_5 ∧ Aside0 (warderlaw21_PrincsTell.j0 kq l0 l1 t160 x42_5 a2_0 l2_1 a2_2 a2_3 l2_4 a2_5 a2_6 a2_7 a2_8 a2_9 l2_10 l2_11 l2_12 l2_13 l2_14 a2_15 a3_0 l3_1 = some r) ∧ Aside0 (kq ≤ k) ∧ Aside0 (wc.heap[gb158]? = some (.cells #[.int .i64 a2_0, (.slice A2_1 l2_1.length c2_1), .int .i64 a2_2, .int .i64 a2_3, (.slice A2_4 l2_4.length c2_4), .int .i64 a2_5, .bool a2_6, .bool a2_7, .int .i64 a2_8, .int .u16 a2_9, (.slice A2_10 l2_10.length c2_10), (.slice A2_11 l2_11.length c2_11), (.slice A2_12 l2_12.length c2_12), (.slice A2_13 l2_13.length c2_13), (.slice A2_14 l2_14.length c2_14), .int .i64 a2_15] 57 (0, 0))) ∧ Aside0 (wc.heap[gb159]? = some (.cells #[.string a3_0, (.slice A3_1 l3_1.length c3_1)] 43 (0, 0))) ∧ Aside0 (Below w.heap.size w wc))
 case first =>
  have H := HC6.out
  clear HC6
  by_cases c10 : (l0.length : Int) > 500
  ·rw [if_pos c10] at H
   have c10b0 : decide (500 < (l0.length : Int)) = true := decide_eq_true c10
   have c10b1 : decide (500 < l0.length) = true := decide_eq_true (by omega)
   clear c10
   (first | rw [c10b0] | (simp only [i64_w, i32_w]; rw [c10b0]) | skip)
   have H' := Aside0.mk H
   clear H
   go_wp2
   go_meet
   case rel => exact ⟨_, (true), (by first | rfl | (simp; done) | (simp [*]; done)), H', ⟨by first | omega | exact Nat.le_refl _⟩, ⟨by (with_reducible repeat (first | refine blk_drewN ?_ _ | refine blk_drew ?_ | refine blk_alloc ?_ _)); exact BK158.out⟩, ⟨by (with_reducible repeat (first | refine blk_drewN ?_ _ | refine blk_drew ?_ | refine blk_alloc ?_ _)); exact BK159.out⟩, ⟨by repeat (first | (with_reducible first | exact HB.out | apply below_alloc | apply pw_below_drewN | apply below_drew1 | refine below_set ?_ GE158.out | refine below_set ?_ GE159.out) | exact HB.out)⟩⟩
  ·as_aux_lemma =>
   rw [if_neg c10] at H
   have c10b0 : decide (500 < (l0.length : Int)) = false := decide_eq_false c10
   have c10b1 : decide (500 < l0.length) = false := decide_eq_false (by omega)
   clear c10
   (first | rw [c10b0] | (simp only [i64_w, i32_w]; rw [c10b0]) | skip)
   by_cases c11 : (l1.length : Int) > 500
   ·rw [if_pos c11] at H
    have c11b0 : decide (500 < (l1.length : Int)) = true := decide_eq_true c11
    have c11b1 : decide (500 < l1.length) = true := decide_eq_true (by omega)
    clear c11
    have H' := Aside0.mk H
    clear H
    go_wp2
    go_meet
    case rel => exact ⟨_, (true), (by first | rfl | (simp; done) | (simp [*]; done)), H', ⟨by first | omega | exact Nat.le_refl _⟩, ⟨by (with_reducible repeat (first | refine blk_drewN ?_ _ | refine blk_drew ?_ | refine blk_alloc ?_ _)); exact BK158.out⟩, ⟨by (with_reducible repeat (first | refine blk_drewN ?_ _ | refine blk_drew ?_ | refine blk_alloc ?_ _)); exact BK159.out⟩, ⟨by repeat (first | (with_reducible first | exact HB.out | apply below_alloc | apply pw_below_drewN | apply below_drew1 | refine below_set ?_ GE158.out | refine below_set ?_ GE159.out) | exact HB.out)⟩⟩
   ·as_aux_lemma =>
    rw [if_neg c11] at H
    have c11b0 : decide (500 < (l1.length : Int)) = false := decide_eq_false c11
    have c11b1 : decide (500 < l1.length) = false := decide_eq_false (by omega)
    clear c11
    by_cases c12 : (l2_11.length : Int) > 500
    ·as_aux_lemma =>
     rw [if_pos c12] at H
     have c12b0 : decide (500 < (l2_11.length : Int)) = true := decide_eq_true c12
     have c12b1 : decide (500 < l2_11.length) = true := decide_eq_true (by omega)
     clear c12
     have H' := Aside0.mk H
     clear H
     have hnb13 := NB158_159.out
     have hnc13 := NB159_158.out
     have hcz14_0 : w9.cell? ⟨gb158, 0, none⟩ = some (.int .i64 a2_0) := (blk_cell BK158.out 0).trans rfl
     have hcz14_1 : w9.cell? ⟨gb158, 1, none⟩ = some (.slice A2_1 l2_1.length c2_1) := (blk_cell BK158.out 1).trans rfl
     have hcz14_2 : w9.cell? ⟨gb158, 2, none⟩ = some (.int .i64 a2_2) := (blk_cell BK158.out 2).trans rfl
     have hcz14_3 : w9.cell? ⟨gb158, 3, none⟩ = some (.int .i64 a2_3) := (blk_cell BK158.out 3).trans rfl
     have hcz14_4 : w9.cell? ⟨gb158, 4, none⟩ = some (.slice A2_4 l2_4.length c2_4) := (blk_cell BK158.out 4).trans rfl
     have hcz14_5 : w9.cell? ⟨gb158, 5, none⟩ = some (.int .i64 a2_5) := (blk_cell BK158.out 5).trans rfl
     have hcz14_6 : w9.cell? ⟨gb158, 6, none⟩ = some (.bool a2_6) := (blk_cell BK158.out 6).trans rfl
     have hcz14_7 : w9.cell? ⟨gb158, 7, none⟩ = some (.bool a2_7) := (blk_cell BK158.out 7).trans rfl
     have hcz14_8 : w9.cell? ⟨gb158, 8, none⟩ = some (.int .i64 a2_8) := (blk_cell BK158.out 8).trans rfl
     have hcz14_9 : w9.cell? ⟨gb158, 9, none⟩ = some (.int .u16 a2_9) := (blk_cell BK158.out 9).trans rfl
     have hcz14_10 : w9.cell? ⟨gb158, 10, none⟩ = some (.slice A2_10 l2_10.length c2_10) := (blk_cell BK158.out 10).trans rfl
     have hcz14_11 : w9.cell? ⟨gb158, 11, none⟩ = some (.slice A2_11 l2_11.length c2_11) := (blk_cell BK158.out 11).trans rfl
     have hcz14_12 : w9.cell? ⟨gb158, 12, none⟩ = some (.slice A2_12 l2_12.length c2_12) := (blk_cell BK158.out 12).trans rfl
     have hcz14_13 : w9.cell? ⟨gb158, 13, none⟩ = some (.slice A2_13 l2_13.length c2_13) := (blk_cell BK158.out 13).trans rfl
     have hcz14_14 : w9.cell? ⟨gb158, 14, none⟩ = some (.slice A2_14 l2_14.length c2_14) := (blk_cell BK158.out 14).trans rfl
     have hcz14_15 : w9.cell? ⟨gb158, 15, none⟩ = some (.int .i64 a2_15) := (blk_cell BK158.out 15).trans rfl
     have hfz14_0 := blk_frozen BK158.out 0
     have hfz14_1 := blk_frozen BK158.out 1
     have hfz14_2 := blk_frozen BK158.out 2
     have hfz14_3 := blk_frozen BK158.out 3
     have hfz14_4 := blk_frozen BK158.out 4
     have hfz14_5 := blk_frozen BK158.out 5
     have hfz14_6 := blk_frozen BK158.out 6
     have hfz14_7 := blk_frozen BK158.out 7
     have hfz14_8 := blk_frozen BK158.out 8
     have hfz14_9 := blk_frozen BK158.out 9
     have hfz14_10 := blk_frozen BK158.out 10
     have hfz14_11 := blk_frozen BK158.out 11
     have hfz14_12 := blk_frozen BK158.out 12
     have hfz14_13 := blk_frozen BK158.out 13
     have hfz14_14 := blk_frozen BK158.out 14
     have hfz14_15 := blk_frozen BK158.out 15
     go_wp2
     go_meet
     case rel => exact ⟨_, (true), (by first | rfl | (simp; done) | (simp [*]; done)), H', ⟨by first | omega | exact Nat.le_refl _⟩, ⟨by (with_reducible repeat (first | refine blk_drewN ?_ _ | refine blk_drew ?_ | refine blk_alloc ?_ _)); exact BK158.out⟩, ⟨by (with_reducible repeat (first | refine blk_drewN ?_ _ | refine blk_drew ?_ | refine blk_alloc ?_ _)); exact BK159.out⟩, ⟨by repeat (first | (with_reducible first | exact HB.out | apply below_alloc | apply pw_below_drewN | apply below_drew1 | refine below_set ?_ GE158.out | refine below_set ?_ GE159.out) | exact HB.out)⟩⟩
    ·as_aux_lemma =>
     rw [if_neg c12] at H
     have c12b0 : decide (500 < (l2_11.length : Int)) = false := decide_eq_false c12
     have c12b1 : decide (500 < l2_11.length) = false := decide_eq_false (by omega)
     clear c12
     have H' := Aside0.mk H
     clear H
     have hnb15 := NB158_159.out
     have hnc15 := NB159_158.out
     have hcz16_0 : w9.cell? ⟨gb158, 0, none⟩ = some (.int .i64 a2_0) := (blk_cell BK158.out 0).trans rfl
     have hcz16_1 : w9.cell? ⟨gb158, 1, none⟩ = some (.slice A2_1 l2_1.length c2_1) := (blk_cell BK158.out 1).trans rfl
     have hcz16_2 : w9.cell? ⟨gb158, 2, none⟩ = some (.int .i64 a2_2) := (blk_cell BK158.out 2).trans rfl
     have hcz16_3 : w9.cell? ⟨gb158, 3, none⟩ = some (.int .i64 a2_3) := (blk_cell BK158.out 3).trans rfl
     have hcz16_4 : w9.cell? ⟨gb158, 4, none⟩ = some (.slice A2_4 l2_4.length c2_4) := (blk_cell BK158.out 4).trans rfl
     have hcz16_5 : w9.cell? ⟨gb158, 5, none⟩ = some (.int .i64 a2_5) := (blk_cell BK158.out 5).trans rfl
     have hcz16_6 : w9.cell? ⟨gb158, 6, none⟩ = some (.bool a2_6) := (blk_cell BK158.out 6).trans rfl
     have hcz16_7 : w9.cell? ⟨gb158, 7, none⟩ = some (.bool a2_7) := (blk_cell BK158.out 7).trans rfl
     have hcz16_8 : w9.cell? ⟨gb158, 8, none⟩ = some (.int .i64 a2_8) := (blk_cell BK158.out 8).trans rfl
     have hcz16_9 : w9.cell? ⟨gb158, 9, none⟩ = some (.int .u16 a2_9) := (blk_cell BK158.out 9).trans rfl
     have hcz16_10 : w9.cell? ⟨gb158, 10, none⟩ = some (.slice A2_10 l2_10.length c2_10) := (blk_cell BK158.out 10).trans rfl
     have hcz16_11 : w9.cell? ⟨gb158, 11, none⟩ = some (.slice A2_11 l2_11.length c2_11) := (blk_cell BK158.out 11).trans rfl
     have hcz16_12 : w9.cell? ⟨gb158, 12, none⟩ = some (.slice A2_12 l2_12.length c2_12) := (blk_cell BK158.out 12).trans rfl
     have hcz16_13 : w9.cell? ⟨gb158, 13, none⟩ = some (.slice A2_13 l2_13.length c2_13) := (blk_cell BK158.out 13).trans rfl
     have hcz16_14 : w9.cell? ⟨gb158, 14, none⟩ = some (.slice A2_14 l2_14.length c2_14) := (blk_cell BK158.out 14).trans rfl
     have hcz16_15 : w9.cell? ⟨gb158, 15, none⟩ = some (.int .i64 a2_15) := (blk_cell BK158.out 15).trans rfl
     have hfz16_0 := blk_frozen BK158.out 0
     have hfz16_1 := blk_frozen BK158.out 1
     have hfz16_2 := blk_frozen BK158.out 2
     have hfz16_3 := blk_frozen BK158.out 3
     have hfz16_4 := blk_frozen BK158.out 4
     have hfz16_5 := blk_frozen BK158.out 5
     have hfz16_6 := blk_frozen BK158.out 6
     have hfz16_7 := blk_frozen BK158.out 7
     have hfz16_8 := blk_frozen BK158.out 8
     have hfz16_9 := blk_frozen BK158.out 9
     have hfz16_10 := blk_frozen BK158.out 10
     have hfz16_11 := blk_frozen BK158.out 11
     have hfz16_12 := blk_frozen BK158.out 12
     have hfz16_13 := blk_frozen BK158.out 13
     have hfz16_14 := blk_frozen BK158.out 14
     have hfz16_15 := blk_frozen BK158.out 15
     go_wp2
     go_meet
     case rel => exact ⟨_, (decide ((l2_10.length : Int) > 500)), (by first | rfl | (simp; done) | (simp [*]; done)), H', ⟨by first | omega | exact Nat.le_refl _⟩, ⟨by (with_reducible repeat (first | refine blk_drewN ?_ _ | refine blk_drew ?_ | refine blk_alloc ?_ _)); exact BK158.out⟩, ⟨by (with_reducible repeat (first | refine blk_drewN ?_ _ | refine blk_drew ?_ | refine blk_alloc ?_ _)); exact BK159.out⟩, ⟨by repeat (first | (with_reducible first | exact HB.out | apply below_alloc | apply pw_below_drewN | apply below_drew1 | refine below_set ?_ GE158.out | refine below_set ?_ GE159.out) | exact HB.out)⟩⟩
 case rest =>
  clear HC6
  try clear c1
  try clear c2
  try clear p2
  try clear c3
  try clear c8
  try clear c10
  try clear c10b0
  try clear c10b1
  try clear c11
  try clear c11b0
  try clear c11b1
  try clear c12
  try clear c12b0
  try clear c12b1
  try clear c13
  try clear c15
  try clear hcz14_0
  try clear hcz14_1
  try clear hcz14_10
  try clear hcz14_11
  try clear hcz14_12
  try clear hcz14_13
  try clear hcz14_14
  try clear hcz14_15
  try clear hcz14_2
  try clear hcz14_3
  try clear hcz14_4
  try clear hcz14_5
  try clear hcz14_6
  try clear hcz14_7
  try clear hcz14_8
  try clear hcz14_9
  try clear hcz16_0
  try clear hcz16_1
  try clear hcz16_10
  try clear hcz16_11
  try clear hcz16_12
  try clear hcz16_13
  try clear hcz16_14
  try clear hcz16_15
  try clear hcz16_2
  try clear hcz16_3
  try clear hcz16_4
  try clear hcz16_5
  try clear hcz16_6
  try clear hcz16_7
  try clear hcz16_8
  try clear hcz16_9
  try clear hfz14_0
  try clear hfz14_1
  try clear hfz14_10
  try clear hfz14_11
  try clear hfz14_12
  try clear hfz14_13
  try clear hfz14_14
  try clear hfz14_15
  try clear hfz14_2
  try clear hfz14_3
  try clear hfz14_4
  try clear hfz14_5
  try clear hfz14_6
  try clear hfz14_7
  try clear hfz14_8
  try clear hfz14_9
  try clear hfz16_0
  try clear hfz16_1
  try clear hfz16_10
  try clear hfz16_11
  try clear hfz16_12
  try clear hfz16_13
  try clear hfz16_14
  try clear hfz16_15
  try clear hfz16_2
  try clear hfz16_3
  try clear hfz16_4
  try clear hfz16_5
  try clear hfz16_6
  try clear hfz16_7
  try clear hfz16_8
  try clear hfz16_9
  obtain ⟨kq, x42_5, rfl, HA, HJ5, BK158, BK159, HB⟩ := hcut
  cases kq with
  | zero => exact absurd HA.out (by simp [warderlaw21_PrincsTell.j0])
  | succ kj5 =>
   have H := HA.out
   clear HA
   simp only [warderlaw21_PrincsTell.j0] at H
   by_cases c17 : x42_5 = true
   ·subst c17
    have H1 : (some t160) = some r := by rw [if_pos rfl] at H; exact H
    clear H
    have H := H1
    clear H1
    obtain rfl := Option.some.inj H
    go_wp2
    go_ret
    exact ⟨by first | rfl | (simp [errW_none, errW_some] <;> rfl) | (simp [*, errW_none, errW_some] <;> rfl), by repeat (first | (with_reducible first | exact HB.out | apply below_alloc | apply pw_below_drewN | apply below_drew1 | refine below_set ?_ GE158.out | refine below_set ?_ GE159.out) | exact HB.out)⟩
   ·as_aux_lemma =>
    replace c17 := Bool.eq_false_iff.mpr c17
    subst c17
    have H1 : ((princs_Lookup.f l1 a3_0 l3_1).bind fun bt161 => ((warderref21_Lookup.f kj5 l1 a3_0 l3_1).bind fun bt163 => ((princs_Whose.f l0 l1 a2_0 l2_1 a2_2 a2_3 l2_4 a2_5 a2_6 a2_7 a2_8 a2_9 l2_10 l2_11 l2_12 l2_13 l2_14 a2_15).bind fun bt165 => ((warderref21_Whose.f kj5 l0 l1 a2_0 l2_1 a2_2 a2_3 l2_4 a2_5 a2_6 a2_7 a2_8 a2_9 l2_10 l2_11 l2_12 l2_13 l2_14 a2_15).bind fun bt171 => (warderlaw21_PrincsTell.l0 kj5 l1 t160 bt161.1 bt161.2 bt163.1 bt163.2 bt165.2.2 bt171.2.2 true 0 a2_0 l2_1 a2_2 a2_3 l2_4 a2_5 a2_6 a2_7 a2_8 a2_9 l2_10 l2_11 l2_12 l2_13 l2_14 a2_15 a3_0 l3_1 bt165.1 bt165.2.1 bt171.1 bt171.2.1))))) = some r := by rw [if_neg (show ¬ (false = true) by decide)] at H; exact H
    clear H
    have H := H1
    clear H1
    replace H := Option.bind_eq_some_iff.mp H
    obtain ⟨⟨t161, t162⟩, A180, H⟩ := H
    replace H : ((warderref21_Lookup.f kj5 l1 a3_0 l3_1).bind fun bt163 => ((princs_Whose.f l0 l1 a2_0 l2_1 a2_2 a2_3 l2_4 a2_5 a2_6 a2_7 a2_8 a2_9 l2_10 l2_11 l2_12 l2_13 l2_14 a2_15).bind fun bt165 => ((warderref21_Whose.f kj5 l0 l1 a2_0 l2_1 a2_2 a2_3 l2_4 a2_5 a2_6 a2_7 a2_8 a2_9 l2_10 l2_11 l2_12 l2_13 l2_14 a2_15).bind fun bt171 => (warderlaw21_PrincsTell.l0 kj5 l1 t160 t161 t162 bt163.1 bt163.2 bt165.2.2 bt171.2.2 true 0 a2_0 l2_1 a2_2 a2_3 l2_4 a2_5 a2_6 a2_7 a2_8 a2_9 l2_10 l2_11 l2_12 l2_13 l2_14 a2_15 a3_0 l3_1 bt165.1 bt165.2.1 bt171.1 bt171.2.1)))) = some r := H
    have A18 := Aside0.mk A180
    clear A180
    replace H := Option.bind_eq_some_iff.mp H
    obtain ⟨⟨t163, t164⟩, A190, H⟩ := H
    replace H : ((princs_Whose.f l0 l1 a2_0 l2_1 a2_2 a2_3 l2_4 a2_5 a2_6 a2_7 a2_8 a2_9 l2_10 l2_11 l2_12 l2_13 l2_14 a2_15).bind fun bt165 => ((warderref21_Whose.f kj5 l0 l1 a2_0 l2_1 a2_2 a2_3 l2_4 a2_5 a2_6 a2_7 a2_8 a2_9 l2_10 l2_11 l2_12 l2_13 l2_14 a2_15).bind fun bt171 => (warderlaw21_PrincsTell.l0 kj5 l1 t160 t161 t162 t163 t164 bt165.2.2 bt171.2.2 true 0 a2_0 l2_1 a2_2 a2_3 l2_4 a2_5 a2_6 a2_7 a2_8 a2_9 l2_10 l2_11 l2_12 l2_13 l2_14 a2_15 a3_0 l3_1 bt165.1 bt165.2.1 bt171.1 bt171.2.1))) = some r := H
    have A19 := Aside0.mk A190
    clear A190
    replace H := Option.bind_eq_some_iff.mp H
    obtain ⟨⟨t165, t166, t169⟩, A200, H⟩ := H
    replace H : ((warderref21_Whose.f kj5 l0 l1 a2_0 l2_1 a2_2 a2_3 l2_4 a2_5 a2_6 a2_7 a2_8 a2_9 l2_10 l2_11 l2_12 l2_13 l2_14 a2_15).bind fun bt171 => (warderlaw21_PrincsTell.l0 kj5 l1 t160 t161 t162 t163 t164 t169 bt171.2.2 true 0 a2_0 l2_1 a2_2 a2_3 l2_4 a2_5 a2_6 a2_7 a2_8 a2_9 l2_10 l2_11 l2_12 l2_13 l2_14 a2_15 a3_0 l3_1 t165 t166 bt171.1 bt171.2.1)) = some r := H
    have A20 := Aside0.mk A200
    clear A200
    replace H := Option.bind_eq_some_iff.mp H
    obtain ⟨⟨t171, t172, t175⟩, A210, H⟩ := H
    replace H : (warderlaw21_PrincsTell.l0 kj5 l1 t160 t161 t162 t163 t164 t169 t175 true 0 a2_0 l2_1 a2_2 a2_3 l2_4 a2_5 a2_6 a2_7 a2_8 a2_9 l2_10 l2_11 l2_12 l2_13 l2_14 a2_15 a3_0 l3_1 t165 t166 t171 t172) = some r := H
    have A21 := Aside0.mk A210
    clear A210
    have H' := Aside0.mk H
    clear H
    have hnb22 := NB159_158.out
    have hnc22 := NB158_159.out
    have hcz23_0 : wc.cell? ⟨gb159, 0, none⟩ = some (.string a3_0) := (blk_cell BK159.out 0).trans rfl
    have hcz23_1 : wc.cell? ⟨gb159, 1, none⟩ = some (.slice A3_1 l3_1.length c3_1) := (blk_cell BK159.out 1).trans rfl
    have hfz23_0 := blk_frozen BK159.out 0
    have hfz23_1 := blk_frozen BK159.out 1
    go_wp2_with (first | ((with_reducible refine gate_callee (f := 19) rfl ?_); refine goesL_ (some 47) rfl rfl Try.func19 (by kernel_rfl) rfl #[.slice A1 l1.length c1, .agg #[.string a3_0, .slice A3_1 l3_1.length c3_1]] rfl (by (try simp only [List.map_toArray, List.map_cons, List.map_nil]); first | done | rfl | (simp only [List.length_drop, List.length_take]; rfl)) ?_; (with_reducible refine (princs_Lookup.calls _ _ l1 a3_0 _ _ l3_1 t161 t162 _ ?side1 ?side2 ?side3 ?side4 A18.out).mono ?_); (case side1 => repeat (first | exact (Kd.C_below HR1.out HB.out) | (with_reducible refine Kd.C_alloc ?_ _) | (with_reducible refine Kd.C_drewN ?_ _) | (with_reducible refine Kd.C_drew ?_))); (case side2 => exact HC1.out); (case side3 => repeat (first | exact (Kd.C_below HR3_1.out HB.out) | (with_reducible refine Kd.C_alloc ?_ _) | (with_reducible refine Kd.C_drewN ?_ _) | (with_reducible refine Kd.C_drew ?_))); (case side4 => exact HC3_1.out); rintro e w24 ⟨rfl, hb⟩; refine ⟨_, rfl, ?_⟩; have n0_ := Aside0.mk (blk_below (g := gb158) (o := .cells #[.int .i64 a2_0, .slice A2_1 l2_1.length c2_1, .int .i64 a2_2, .int .i64 a2_3, .slice A2_4 l2_4.length c2_4, .int .i64 a2_5, .bool a2_6, .bool a2_7, .int .i64 a2_8, .int .u16 a2_9, .slice A2_10 l2_10.length c2_10, .slice A2_11 l2_11.length c2_11, .slice A2_12 l2_12.length c2_12, .slice A2_13 l2_13.length c2_13, .slice A2_14 l2_14.length c2_14, .int .i64 a2_15] 57 (0, 0)) (by (with_reducible repeat (first | refine blk_drewN ?_ _ | refine blk_drew ?_ | refine blk_alloc ?_ _)); exact BK158.out) hb); have n1_ := Aside0.mk (blk_below (g := gb159) (o := .cells #[.string a3_0, .slice A3_1 l3_1.length c3_1] 43 (0, 0)) (by (with_reducible repeat (first | refine blk_drewN ?_ _ | refine blk_drew ?_ | refine blk_alloc ?_ _)); exact BK159.out) hb); have n2_ := Aside0.mk (below_step (by repeat (first | (with_reducible first | exact HB.out | apply below_alloc | apply pw_below_drewN | apply below_drew1 | refine below_set ?_ GE158.out | refine below_set ?_ GE159.out) | exact HB.out)) hb); clear BK158; clear BK159; clear HB; have BK158 := n0_; have BK159 := n1_; have HB := n2_; clear n0_ n1_ n2_; (try clear hb); (try clear hb2); (try clear hk); (try clear hi); have hcz25_0 : w24.cell? ⟨gb159, 0, none⟩ = some (.string a3_0) := (blk_cell BK159.out 0).trans rfl; have hcz25_1 : w24.cell? ⟨gb159, 1, none⟩ = some (.slice A3_1 l3_1.length c3_1) := (blk_cell BK159.out 1).trans rfl; have hfz25_0 := blk_frozen BK159.out 0; have hfz25_1 := blk_frozen BK159.out 1) | ((with_reducible refine gate_callee (f := 20) rfl ?_); refine goesL_ (some 53) rfl rfl Try.func20 (by kernel_rfl) rfl #[.slice A1 l1.length c1, .agg #[.string a3_0, .slice A3_1 l3_1.length c3_1]] rfl (by (try simp only [List.map_toArray, List.map_cons, List.map_nil]); first | done | rfl | (simp only [List.length_drop, List.length_take]; rfl)) ?_; (with_reducible refine (warderref21_Lookup.calls kj5 _ _ l1 a3_0 _ _ l3_1 t163 t164 _ ?side1 ?side2 ?side3 ?side4 A19.out).mono ?_); (case side1 => repeat (first | exact (Kd.C_below HR1.out HB.out) | (with_reducible refine Kd.C_alloc ?_ _) | (with_reducible refine Kd.C_drewN ?_ _) | (with_reducible refine Kd.C_drew ?_))); (case side2 => exact HC1.out); (case side3 => repeat (first | exact (Kd.C_below HR3_1.out HB.out) | (with_reducible refine Kd.C_alloc ?_ _) | (with_reducible refine Kd.C_drewN ?_ _) | (with_reducible refine Kd.C_drew ?_))); (case side4 => exact HC3_1.out); rintro e w26 ⟨rfl, hb⟩; refine ⟨_, rfl, ?_⟩; have n0_ := Aside0.mk (blk_below (g := gb158) (o := .cells #[.int .i64 a2_0, .slice A2_1 l2_1.length c2_1, .int .i64 a2_2, .int .i64 a2_3, .slice A2_4 l2_4.length c2_4, .int .i64 a2_5, .bool a2_6, .bool a2_7, .int .i64 a2_8, .int .u16 a2_9, .slice A2_10 l2_10.length c2_10, .slice A2_11 l2_11.length c2_11, .slice A2_12 l2_12.length c2_12, .slice A2_13 l2_13.length c2_13, .slice A2_14 l2_14.length c2_14, .int .i64 a2_15] 57 (0, 0)) (by (with_reducible repeat (first | refine blk_drewN ?_ _ | refine blk_drew ?_ | refine blk_alloc ?_ _)); exact BK158.out) hb); have n1_ := Aside0.mk (blk_below (g := gb159) (o := .cells #[.string a3_0, .slice A3_1 l3_1.length c3_1] 43 (0, 0)) (by (with_reducible repeat (first | refine blk_drewN ?_ _ | refine blk_drew ?_ | refine blk_alloc ?_ _)); exact BK159.out) hb); have n2_ := Aside0.mk (below_step (by repeat (first | (with_reducible first | exact HB.out | apply below_alloc | apply pw_below_drewN | apply below_drew1 | refine below_set ?_ GE158.out | refine below_set ?_ GE159.out) | exact HB.out)) hb); clear BK158; clear BK159; clear HB; have BK158 := n0_; have BK159 := n1_; have HB := n2_; clear n0_ n1_ n2_; (try clear hb); (try clear hb2); (try clear hk); (try clear hi); have hcz27_0 : w26.cell? ⟨gb158, 0, none⟩ = some (.int .i64 a2_0) := (blk_cell BK158.out 0).trans rfl; have hcz27_1 : w26.cell? ⟨gb158, 1, none⟩ = some (.slice A2_1 l2_1.length c2_1) := (blk_cell BK158.out 1).trans rfl; have hcz27_2 : w26.cell? ⟨gb158, 2, none⟩ = some (.int .i64 a2_2) := (blk_cell BK158.out 2).trans rfl; have hcz27_3 : w26.cell? ⟨gb158, 3, none⟩ = some (.int .i64 a2_3) := (blk_cell BK158.out 3).trans rfl; have hcz27_4 : w26.cell? ⟨gb158, 4, none⟩ = some (.slice A2_4 l2_4.length c2_4) := (blk_cell BK158.out 4).trans rfl; have hcz27_5 : w26.cell? ⟨gb158, 5, none⟩ = some (.int .i64 a2_5) := (blk_cell BK158.out 5).trans rfl; have hcz27_6 : w26.cell? ⟨gb158, 6, none⟩ = some (.bool a2_6) := (blk_cell BK158.out 6).trans rfl; have hcz27_7 : w26.cell? ⟨gb158, 7, none⟩ = some (.bool a2_7) := (blk_cell BK158.out 7).trans rfl; have hcz27_8 : w26.cell? ⟨gb158, 8, none⟩ = some (.int .i64 a2_8) := (blk_cell BK158.out 8).trans rfl; have hcz27_9 : w26.cell? ⟨gb158, 9, none⟩ = some (.int .u16 a2_9) := (blk_cell BK158.out 9).trans rfl; have hcz27_10 : w26.cell? ⟨gb158, 10, none⟩ = some (.slice A2_10 l2_10.length c2_10) := (blk_cell BK158.out 10).trans rfl; have hcz27_11 : w26.cell? ⟨gb158, 11, none⟩ = some (.slice A2_11 l2_11.length c2_11) := (blk_cell BK158.out 11).trans rfl; have hcz27_12 : w26.cell? ⟨gb158, 12, none⟩ = some (.slice A2_12 l2_12.length c2_12) := (blk_cell BK158.out 12).trans rfl; have hcz27_13 : w26.cell? ⟨gb158, 13, none⟩ = some (.slice A2_13 l2_13.length c2_13) := (blk_cell BK158.out 13).trans rfl; have hcz27_14 : w26.cell? ⟨gb158, 14, none⟩ = some (.slice A2_14 l2_14.length c2_14) := (blk_cell BK158.out 14).trans rfl; have hcz27_15 : w26.cell? ⟨gb158, 15, none⟩ = some (.int .i64 a2_15) := (blk_cell BK158.out 15).trans rfl; have hfz27_0 := blk_frozen BK158.out 0; have hfz27_1 := blk_frozen BK158.out 1; have hfz27_2 := blk_frozen BK158.out 2; have hfz27_3 := blk_frozen BK158.out 3; have hfz27_4 := blk_frozen BK158.out 4; have hfz27_5 := blk_frozen BK158.out 5; have hfz27_6 := blk_frozen BK158.out 6; have hfz27_7 := blk_frozen BK158.out 7; have hfz27_8 := blk_frozen BK158.out 8; have hfz27_9 := blk_frozen BK158.out 9; have hfz27_10 := blk_frozen BK158.out 10; have hfz27_11 := blk_frozen BK158.out 11; have hfz27_12 := blk_frozen BK158.out 12; have hfz27_13 := blk_frozen BK158.out 13; have hfz27_14 := blk_frozen BK158.out 14; have hfz27_15 := blk_frozen BK158.out 15) | ((with_reducible refine gate_callee (f := 21) rfl ?_); refine goesL_ (some 60) rfl rfl Try.func21 (by kernel_rfl) rfl #[.slice A0 l0.length c0, .slice A1 l1.length c1, .agg #[.int .i64 a2_0, .slice A2_1 l2_1.length c2_1, .int .i64 a2_2, .int .i64 a2_3, .slice A2_4 l2_4.length c2_4, .int .i64 a2_5, .bool a2_6, .bool a2_7, .int .i64 a2_8, .int .u16 a2_9, .slice A2_10 l2_10.length c2_10, .slice A2_11 l2_11.length c2_11, .slice A2_12 l2_12.length c2_12, .slice A2_13 l2_13.length c2_13, .slice A2_14 l2_14.length c2_14, .int .i64 a2_15]] rfl (by (try simp only [List.map_toArray, List.map_cons, List.map_nil]); first | done | rfl | (simp only [List.length_drop, List.length_take]; rfl)) ?_; (with_reducible refine (princs_Whose.calls _ _ l0 _ _ l1 a2_0 _ _ l2_1 a2_2 a2_3 _ _ l2_4 a2_5 a2_6 a2_7 a2_8 a2_9 _ _ l2_10 _ _ l2_11 _ _ l2_12 _ _ l2_13 _ _ l2_14 a2_15 t165 t166 t169 _ ?side1 ?side2 ?side3 ?side4 ?side5 ?side6 ?side7 ?side8 ?side9 ?side10 ?side11 ?side12 ?side13 ?side14 ?side15 ?side16 ?side17 ?side18 A20.out).mono ?_); (case side1 => repeat (first | exact (Kd.C_below HR0.out HB.out) | (with_reducible refine Kd.C_alloc ?_ _) | (with_reducible refine Kd.C_drewN ?_ _) | (with_reducible refine Kd.C_drew ?_))); (case side2 => exact HC0.out); (case side3 => repeat (first | exact (Kd.C_below HR1.out HB.out) | (with_reducible refine Kd.C_alloc ?_ _) | (with_reducible refine Kd.C_drewN ?_ _) | (with_reducible refine Kd.C_drew ?_))); (case side4 => exact HC1.out); (case side5 => repeat (first | exact (Kd.C_below HR2_1.out HB.out) | (with_reducible refine Kd.C_alloc ?_ _) | (with_reducible refine Kd.C_drewN ?_ _) | (with_reducible refine Kd.C_drew ?_))); (case side6 => exact HC2_1.out); (case side7 => repeat (first | exact (Kd.C_below HR2_4.out HB.out) | (with_reducible refine Kd.C_alloc ?_ _) | (with_reducible refine Kd.C_drewN ?_ _) | (with_reducible refine Kd.C_drew ?_))); (case side8 => exact HC2_4.out); (case side9 => repeat (first | exact (Kd.C_below HR2_10.out HB.out) | (with_reducible refine Kd.C_alloc ?_ _) | (with_reducible refine Kd.C_drewN ?_ _) | (with_reducible refine Kd.C_drew ?_))); (case side10 => exact HC2_10.out); (case side11 => repeat (first | exact (Kd.C_below HR2_11.out HB.out) | (with_reducible refine Kd.C_alloc ?_ _) | (with_reducible refine Kd.C_drewN ?_ _) | (with_reducible refine Kd.C_drew ?_))); (case side12 => exact HC2_11.out); (case side13 => repeat (first | exact (Kd.C_below HR2_12.out HB.out) | (with_reducible refine Kd.C_alloc ?_ _) | (with_reducible refine Kd.C_drewN ?_ _) | (with_reducible refine Kd.C_drew ?_))); (case side14 => exact HC2_12.out); (case side15 => repeat (first | exact (Kd.C_below HR2_13.out HB.out) | (with_reducible refine Kd.C_alloc ?_ _) | (with_reducible refine Kd.C_drewN ?_ _) | (with_reducible refine Kd.C_drew ?_))); (case side16 => exact HC2_13.out); (case side17 => repeat (first | exact (Kd.C_below HR2_14.out HB.out) | (with_reducible refine Kd.C_alloc ?_ _) | (with_reducible refine Kd.C_drewN ?_ _) | (with_reducible refine Kd.C_drew ?_))); (case side18 => exact HC2_14.out); rintro e w28 ⟨v167, rfl, ho0, hb⟩; refine ⟨_, rfl, ?_⟩; have n0_ := Aside0.mk (Kd.R_lower ho0 (below_size (by repeat (first | (with_reducible first | exact HB.out | apply below_alloc | apply pw_below_drewN | apply below_drew1 | refine below_set ?_ GE158.out | refine below_set ?_ GE159.out) | exact HB.out)))); have n1_ := Aside0.mk (blk_below (g := gb158) (o := .cells #[.int .i64 a2_0, .slice A2_1 l2_1.length c2_1, .int .i64 a2_2, .int .i64 a2_3, .slice A2_4 l2_4.length c2_4, .int .i64 a2_5, .bool a2_6, .bool a2_7, .int .i64 a2_8, .int .u16 a2_9, .slice A2_10 l2_10.length c2_10, .slice A2_11 l2_11.length c2_11, .slice A2_12 l2_12.length c2_12, .slice A2_13 l2_13.length c2_13, .slice A2_14 l2_14.length c2_14, .int .i64 a2_15] 57 (0, 0)) (by (with_reducible repeat (first | refine blk_drewN ?_ _ | refine blk_drew ?_ | refine blk_alloc ?_ _)); exact BK158.out) hb); have n2_ := Aside0.mk (blk_below (g := gb159) (o := .cells #[.string a3_0, .slice A3_1 l3_1.length c3_1] 43 (0, 0)) (by (with_reducible repeat (first | refine blk_drewN ?_ _ | refine blk_drew ?_ | refine blk_alloc ?_ _)); exact BK159.out) hb); have n3_ := Aside0.mk (below_step (by repeat (first | (with_reducible first | exact HB.out | apply below_alloc | apply pw_below_drewN | apply below_drew1 | refine below_set ?_ GE158.out | refine below_set ?_ GE159.out) | exact HB.out)) hb); clear BK158; clear BK159; clear HB; have HO168 := n0_; have BK158 := n1_; have BK159 := n2_; have HB := n3_; clear n0_ n1_ n2_ n3_; (try clear hb); (try clear hb2); (try clear hk); (try clear hi); (try clear ho0)) | ((with_reducible refine gate_dst (N := 14) rfl ?_); (try (refine gate_guard (by rfl) ?_; dsimp only)); refine box_event ?hg (N := 14) ?hd (cs := #[.string (⟨#[]⟩ : ByteArray), .slice none 0 0]) (t := 43) ?hr ?_; (case hd => rfl); (case hg => rfl); (case hr => first | (go_simp; done) | (go_simp; rfl)); intro gb170 hg w29 hbox hb; have n0_ := Aside0.mk (Kd.R_below (by (with_reducible repeat (first | apply Kd.R_alloc | apply Kd.R_drewN | apply Kd.R_drew)); exact HO168.out) hb); have n1_ := Aside0.mk (blk_below (g := gb158) (o := .cells #[.int .i64 a2_0, .slice A2_1 l2_1.length c2_1, .int .i64 a2_2, .int .i64 a2_3, .slice A2_4 l2_4.length c2_4, .int .i64 a2_5, .bool a2_6, .bool a2_7, .int .i64 a2_8, .int .u16 a2_9, .slice A2_10 l2_10.length c2_10, .slice A2_11 l2_11.length c2_11, .slice A2_12 l2_12.length c2_12, .slice A2_13 l2_13.length c2_13, .slice A2_14 l2_14.length c2_14, .int .i64 a2_15] 57 (0, 0)) (by (with_reducible repeat (first | refine blk_drewN ?_ _ | refine blk_drew ?_ | refine blk_alloc ?_ _)); exact BK158.out) hb); have n2_ := Aside0.mk (blk_below (g := gb159) (o := .cells #[.string a3_0, .slice A3_1 l3_1.length c3_1] 43 (0, 0)) (by (with_reducible repeat (first | refine blk_drewN ?_ _ | refine blk_drew ?_ | refine blk_alloc ?_ _)); exact BK159.out) hb); have n3_ := Aside0.mk (below_step (by repeat (first | (with_reducible first | exact HB.out | apply below_alloc | apply pw_below_drewN | apply below_drew1 | refine below_set ?_ GE158.out | refine below_set ?_ GE159.out) | exact HB.out)) hb); have n4_ := Aside0.mk (hbox); have n5_ := Aside0.mk ((by rw [hg]; exact (below_size (by repeat (first | (with_reducible first | exact HB.out | apply below_alloc | apply pw_below_drewN | apply below_drew1 | refine below_set ?_ GE158.out | refine below_set ?_ GE159.out) | exact HB.out))) : w.heap.size ≤ gb170)); have n6_ := Aside0.mk ((by rw [hg]; exact (below_size (by repeat (first | (with_reducible first | exact HB.out | apply below_alloc | apply pw_below_drewN | apply below_drew1 | refine below_set ?_ GE158.out | refine below_set ?_ GE159.out) | exact HB.out))) : w.heap.size ≤ gb170)); have n7_ := Aside0.mk ((by rw [hg]; exact Nat.ne_of_lt (blk_lt (g := gb158) (o := .cells #[.int .i64 a2_0, .slice A2_1 l2_1.length c2_1, .int .i64 a2_2, .int .i64 a2_3, .slice A2_4 l2_4.length c2_4, .int .i64 a2_5, .bool a2_6, .bool a2_7, .int .i64 a2_8, .int .u16 a2_9, .slice A2_10 l2_10.length c2_10, .slice A2_11 l2_11.length c2_11, .slice A2_12 l2_12.length c2_12, .slice A2_13 l2_13.length c2_13, .slice A2_14 l2_14.length c2_14, .int .i64 a2_15] 57 (0, 0)) (by (with_reducible repeat (first | refine blk_drewN ?_ _ | refine blk_drew ?_ | refine blk_alloc ?_ _)); exact BK158.out)) : gb158 ≠ gb170)); have n8_ := Aside0.mk ((by rw [hg]; exact Nat.ne_of_gt (blk_lt (g := gb158) (o := .cells #[.int .i64 a2_0, .slice A2_1 l2_1.length c2_1, .int .i64 a2_2, .int .i64 a2_3, .slice A2_4 l2_4.length c2_4, .int .i64 a2_5, .bool a2_6, .bool a2_7, .int .i64 a2_8, .int .u16 a2_9, .slice A2_10 l2_10.length c2_10, .slice A2_11 l2_11.length c2_11, .slice A2_12 l2_12.length c2_12, .slice A2_13 l2_13.length c2_13, .slice A2_14 l2_14.length c2_14, .int .i64 a2_15] 57 (0, 0)) (by (with_reducible repeat (first | refine blk_drewN ?_ _ | refine blk_drew ?_ | refine blk_alloc ?_ _)); exact BK158.out)) : gb170 ≠ gb158)); have n9_ := Aside0.mk ((by rw [hg]; exact Nat.ne_of_lt (blk_lt (g := gb159) (o := .cells #[.string a3_0, .slice A3_1 l3_1.length c3_1] 43 (0, 0)) (by (with_reducible repeat (first | refine blk_drewN ?_ _ | refine blk_drew ?_ | refine blk_alloc ?_ _)); exact BK159.out)) : gb159 ≠ gb170)); have n10_ := Aside0.mk ((by rw [hg]; exact Nat.ne_of_gt (blk_lt (g := gb159) (o := .cells #[.string a3_0, .slice A3_1 l3_1.length c3_1] 43 (0, 0)) (by (with_reducible repeat (first | refine blk_drewN ?_ _ | refine blk_drew ?_ | refine blk_alloc ?_ _)); exact BK159.out)) : gb170 ≠ gb159)); clear HO168; clear BK158; clear BK159; clear HB; have HO168 := n0_; have BK158 := n1_; have BK159 := n2_; have HB := n3_; have BK170 := n4_; have GW170 := n5_; have GE170 := n6_; have NB158_170 := n7_; have NB170_158 := n8_; have NB159_170 := n9_; have NB170_159 := n10_; clear n0_ n1_ n2_ n3_ n4_ n5_ n6_ n7_ n8_ n9_ n10_; clear hb hbox hg; have hnb30 := NB170_158.out; have hnc30 := NB158_170.out; have hnb31 := NB170_159.out; have hnc31 := NB159_170.out; have hcz32_0 : w29.cell? ⟨gb170, 0, none⟩ = some (.string (⟨#[]⟩ : ByteArray)) := (blk_cell BK170.out 0).trans rfl; have hcz32_1 : w29.cell? ⟨gb170, 1, none⟩ = some (.slice none 0 0) := (blk_cell BK170.out 1).trans rfl; have hfz32_0 := blk_frozen BK170.out 0; have hfz32_1 := blk_frozen BK170.out 1; obtain ⟨Ao33, co33, eo33⟩ := Kd.R_slice HO168.out; subst eo33) | ((with_reducible refine gate_store (t := 43) (p := 14) rfl ?_); refine store_event (t := 43) (p := 14) (v := ?vo_w34) (w1 := ((w29.setCell ⟨gb170, 0, none⟩ (.string t165)).setCell ⟨gb170, 1, none⟩ (.slice Ao33 t166.length co33))) ?hg ?ho ?hn ?hr ?_; (case ho => rfl); (case hg => rfl); (case hn => rfl); (case hr => first | (go_simp; done) | (go_simp; rfl)); intro w34 hw; have n0_ : Aside0 (Kd.R Kd.string 9 w34 w.heap.size (fun _ => True) (.slice Ao33 t166.length co33) t166) := ⟨(by rw [hw]; exact (by (with_reducible repeat (first | apply Kd.R_alloc | apply Kd.R_drewN | apply Kd.R_drew)); exact Kd.R_mono (Kd.R_far (p := ⟨gb170, 1, none⟩) (Kd.R_far (p := ⟨gb170, 0, none⟩) (Kd.R_types HO168.out BK170.out (by decide)) (fun _ hk => hk.2) (.string t165)) (fun _ hk => hk.2) (.slice Ao33 t166.length co33)) (fun _ hk => trivial)))⟩; have n1_ : Aside0 (w34.heap[gb158]? = some (.cells #[.int .i64 a2_0, .slice A2_1 l2_1.length c2_1, .int .i64 a2_2, .int .i64 a2_3, .slice A2_4 l2_4.length c2_4, .int .i64 a2_5, .bool a2_6, .bool a2_7, .int .i64 a2_8, .int .u16 a2_9, .slice A2_10 l2_10.length c2_10, .slice A2_11 l2_11.length c2_11, .slice A2_12 l2_12.length c2_12, .slice A2_13 l2_13.length c2_13, .slice A2_14 l2_14.length c2_14, .int .i64 a2_15] 57 (0, 0))) := ⟨(by rw [hw]; exact (by (with_reducible repeat (first | refine blk_drewN ?_ _ | refine blk_drew ?_ | refine blk_alloc ?_ _)); refine blk_far ?_ NB158_170.out _; (with_reducible repeat (first | refine blk_drewN ?_ _ | refine blk_drew ?_ | refine blk_alloc ?_ _)); refine blk_far ?_ NB158_170.out _; (with_reducible repeat (first | refine blk_drewN ?_ _ | refine blk_drew ?_ | refine blk_alloc ?_ _)); exact BK158.out))⟩; have n2_ : Aside0 (w34.heap[gb159]? = some (.cells #[.string a3_0, .slice A3_1 l3_1.length c3_1] 43 (0, 0))) := ⟨(by rw [hw]; exact (by (with_reducible repeat (first | refine blk_drewN ?_ _ | refine blk_drew ?_ | refine blk_alloc ?_ _)); refine blk_far ?_ NB159_170.out _; (with_reducible repeat (first | refine blk_drewN ?_ _ | refine blk_drew ?_ | refine blk_alloc ?_ _)); refine blk_far ?_ NB159_170.out _; (with_reducible repeat (first | refine blk_drewN ?_ _ | refine blk_drew ?_ | refine blk_alloc ?_ _)); exact BK159.out))⟩; have n3_ : Aside0 (w34.heap[gb170]? = some (.cells #[.string t165, .slice Ao33 t166.length co33] 43 (0, 0))) := ⟨(by rw [hw]; exact (by (with_reducible repeat (first | refine blk_drewN ?_ _ | refine blk_drew ?_ | refine blk_alloc ?_ _)); refine blk_put (cs := #[.string t165, .slice none 0 0]) ?_ 1 _ rfl; (with_reducible repeat (first | refine blk_drewN ?_ _ | refine blk_drew ?_ | refine blk_alloc ?_ _)); refine blk_put (cs := #[.string (⟨#[]⟩ : ByteArray), .slice none 0 0]) ?_ 0 _ rfl; (with_reducible repeat (first | refine blk_drewN ?_ _ | refine blk_drew ?_ | refine blk_alloc ?_ _)); exact BK170.out))⟩; have n4_ : Aside0 (Below w.heap.size w w34) := ⟨(by rw [hw]; exact (by repeat (first | (with_reducible first | exact HB.out | apply below_alloc | apply pw_below_drewN | apply below_drew1 | refine below_set ?_ GE158.out | refine below_set ?_ GE159.out | refine below_set ?_ GE170.out) | exact HB.out)))⟩; clear hw; clear HO168; clear BK158; clear BK159; clear BK170; clear HB; have HO168 := n0_; have BK158 := n1_; have BK159 := n2_; have BK170 := n3_; have HB := n4_; clear n0_ n1_ n2_ n3_ n4_; have hcz35_0 : w34.cell? ⟨gb158, 0, none⟩ = some (.int .i64 a2_0) := (blk_cell BK158.out 0).trans rfl; have hcz35_1 : w34.cell? ⟨gb158, 1, none⟩ = some (.slice A2_1 l2_1.length c2_1) := (blk_cell BK158.out 1).trans rfl; have hcz35_2 : w34.cell? ⟨gb158, 2, none⟩ = some (.int .i64 a2_2) := (blk_cell BK158.out 2).trans rfl; have hcz35_3 : w34.cell? ⟨gb158, 3, none⟩ = some (.int .i64 a2_3) := (blk_cell BK158.out 3).trans rfl; have hcz35_4 : w34.cell? ⟨gb158, 4, none⟩ = some (.slice A2_4 l2_4.length c2_4) := (blk_cell BK158.out 4).trans rfl; have hcz35_5 : w34.cell? ⟨gb158, 5, none⟩ = some (.int .i64 a2_5) := (blk_cell BK158.out 5).trans rfl; have hcz35_6 : w34.cell? ⟨gb158, 6, none⟩ = some (.bool a2_6) := (blk_cell BK158.out 6).trans rfl; have hcz35_7 : w34.cell? ⟨gb158, 7, none⟩ = some (.bool a2_7) := (blk_cell BK158.out 7).trans rfl; have hcz35_8 : w34.cell? ⟨gb158, 8, none⟩ = some (.int .i64 a2_8) := (blk_cell BK158.out 8).trans rfl; have hcz35_9 : w34.cell? ⟨gb158, 9, none⟩ = some (.int .u16 a2_9) := (blk_cell BK158.out 9).trans rfl; have hcz35_10 : w34.cell? ⟨gb158, 10, none⟩ = some (.slice A2_10 l2_10.length c2_10) := (blk_cell BK158.out 10).trans rfl; have hcz35_11 : w34.cell? ⟨gb158, 11, none⟩ = some (.slice A2_11 l2_11.length c2_11) := (blk_cell BK158.out 11).trans rfl; have hcz35_12 : w34.cell? ⟨gb158, 12, none⟩ = some (.slice A2_12 l2_12.length c2_12) := (blk_cell BK158.out 12).trans rfl; have hcz35_13 : w34.cell? ⟨gb158, 13, none⟩ = some (.slice A2_13 l2_13.length c2_13) := (blk_cell BK158.out 13).trans rfl; have hcz35_14 : w34.cell? ⟨gb158, 14, none⟩ = some (.slice A2_14 l2_14.length c2_14) := (blk_cell BK158.out 14).trans rfl; have hcz35_15 : w34.cell? ⟨gb158, 15, none⟩ = some (.int .i64 a2_15) := (blk_cell BK158.out 15).trans rfl; have hfz35_0 := blk_frozen BK158.out 0; have hfz35_1 := blk_frozen BK158.out 1; have hfz35_2 := blk_frozen BK158.out 2; have hfz35_3 := blk_frozen BK158.out 3; have hfz35_4 := blk_frozen BK158.out 4; have hfz35_5 := blk_frozen BK158.out 5; have hfz35_6 := blk_frozen BK158.out 6; have hfz35_7 := blk_frozen BK158.out 7; have hfz35_8 := blk_frozen BK158.out 8; have hfz35_9 := blk_frozen BK158.out 9; have hfz35_10 := blk_frozen BK158.out 10; have hfz35_11 := blk_frozen BK158.out 11; have hfz35_12 := blk_frozen BK158.out 12; have hfz35_13 := blk_frozen BK158.out 13; have hfz35_14 := blk_frozen BK158.out 14; have hfz35_15 := blk_frozen BK158.out 15) | ((with_reducible refine gate_callee (f := 22) rfl ?_); refine goesL_ (some 67) rfl rfl Try.func22 (by kernel_rfl) rfl #[.slice A0 l0.length c0, .slice A1 l1.length c1, .agg #[.int .i64 a2_0, .slice A2_1 l2_1.length c2_1, .int .i64 a2_2, .int .i64 a2_3, .slice A2_4 l2_4.length c2_4, .int .i64 a2_5, .bool a2_6, .bool a2_7, .int .i64 a2_8, .int .u16 a2_9, .slice A2_10 l2_10.length c2_10, .slice A2_11 l2_11.length c2_11, .slice A2_12 l2_12.length c2_12, .slice A2_13 l2_13.length c2_13, .slice A2_14 l2_14.length c2_14, .int .i64 a2_15]] rfl (by (try simp only [List.map_toArray, List.map_cons, List.map_nil]); first | done | rfl | (simp only [List.length_drop, List.length_take]; rfl)) ?_; (with_reducible refine (warderref21_Whose.calls kj5 (fun k_ => k_ < w.heap.size) _ _ l0 _ _ l1 a2_0 _ _ l2_1 a2_2 a2_3 _ _ l2_4 a2_5 a2_6 a2_7 a2_8 a2_9 _ _ l2_10 (fun k_ => k_ < w.heap.size) _ _ l2_11 _ _ l2_12 _ _ l2_13 _ _ l2_14 a2_15 t171 t172 t175 _ ?side1 ?side2 ?side3 ?side4 ?side5 ?side6 ?side7 ?side8 ?side9 ?side10 ?side11 ?side12 ?side13 ?side14 ?side15 ?side16 A21.out).mono ?_); (case side1 => exact Kd.V_mk HC0.out (Kd.F_below (Kd.C_F k65_heap HR0.out) (by repeat (first | (with_reducible first | exact HB.out | apply below_alloc | apply pw_below_drewN | apply below_drew1 | refine below_set ?_ GE158.out | refine below_set ?_ GE159.out | refine below_set ?_ GE170.out) | exact HB.out)))); (case side2 => repeat (first | exact (Kd.C_below HR1.out HB.out) | (with_reducible refine Kd.C_alloc ?_ _) | (with_reducible refine Kd.C_drewN ?_ _) | (with_reducible refine Kd.C_drew ?_))); (case side3 => exact HC1.out); (case side4 => repeat (first | exact (Kd.C_below HR2_1.out HB.out) | (with_reducible refine Kd.C_alloc ?_ _) | (with_reducible refine Kd.C_drewN ?_ _) | (with_reducible refine Kd.C_drew ?_))); (case side5 => exact HC2_1.out); (case side6 => repeat (first | exact (Kd.C_below HR2_4.out HB.out) | (with_reducible refine Kd.C_alloc ?_ _) | (with_reducible refine Kd.C_drewN ?_ _) | (with_reducible refine Kd.C_drew ?_))); (case side7 => exact HC2_4.out); (case side8 => repeat (first | exact (Kd.C_below HR2_10.out HB.out) | (with_reducible refine Kd.C_alloc ?_ _) | (with_reducible refine Kd.C_drewN ?_ _) | (with_reducible refine Kd.C_drew ?_))); (case side9 => exact HC2_10.out); (case side10 => exact Kd.V_mk HC2_11.out (Kd.F_below (Kd.C_F k43_heap HR2_11.out) (by repeat (first | (with_reducible first | exact HB.out | apply below_alloc | apply pw_below_drewN | apply below_drew1 | refine below_set ?_ GE158.out | refine below_set ?_ GE159.out | refine below_set ?_ GE170.out) | exact HB.out)))); (case side11 => repeat (first | exact (Kd.C_below HR2_12.out HB.out) | (with_reducible refine Kd.C_alloc ?_ _) | (with_reducible refine Kd.C_drewN ?_ _) | (with_reducible refine Kd.C_drew ?_))); (case side12 => exact HC2_12.out); (case side13 => repeat (first | exact (Kd.C_below HR2_13.out HB.out) | (with_reducible refine Kd.C_alloc ?_ _) | (with_reducible refine Kd.C_drewN ?_ _) | (with_reducible refine Kd.C_drew ?_))); (case side14 => exact HC2_13.out); (case side15 => repeat (first | exact (Kd.C_below HR2_14.out HB.out) | (with_reducible refine Kd.C_alloc ?_ _) | (with_reducible refine Kd.C_drewN ?_ _) | (with_reducible refine Kd.C_drew ?_))); (case side16 => exact HC2_14.out); rintro e w36 ⟨v173, rfl, ho0, hb⟩; refine ⟨_, rfl, ?_⟩; have n0_ := Aside0.mk (Kd.R_below (by (with_reducible repeat (first | apply Kd.R_alloc | apply Kd.R_drewN | apply Kd.R_drew)); exact HO168.out) hb); have n1_ := Aside0.mk (Kd.V_lower (Kd.V_mono (ok' := fun k_ => some k_ ≠ (.slice Ao33 t166.length co33 : Value).ownBlock ∧ k_ ≠ gb158 ∧ k_ ≠ gb159 ∧ k_ ≠ gb170) ho0 (fun k_ hk_ => ⟨Or.elim hk_ (fun hs_ => Or.elim hs_ (fun hs_ => fun e_ => Nat.not_le.2 hs_ (Kd.R_base HO168.out k_ e_.symm)) (fun hs_ => fun e_ => Nat.not_le.2 hs_ (Kd.R_base HO168.out k_ e_.symm))) (fun hn_ => (Kd.fresh' (Kd.R_lt (by (with_reducible repeat (first | apply Kd.R_alloc | apply Kd.R_drewN | apply Kd.R_drew)); exact HO168.out)) k_ hn_)), Or.elim hk_ (fun hs_ => Or.elim hs_ (fun hs_ => fun e_ => Nat.not_le.2 hs_ (by rw [e_]; exact GW158.out)) (fun hs_ => fun e_ => Nat.not_le.2 hs_ (by rw [e_]; exact GW158.out))) (fun hn_ => (Kd.freshB (g := gb158) (o := .cells #[.int .i64 a2_0, .slice A2_1 l2_1.length c2_1, .int .i64 a2_2, .int .i64 a2_3, .slice A2_4 l2_4.length c2_4, .int .i64 a2_5, .bool a2_6, .bool a2_7, .int .i64 a2_8, .int .u16 a2_9, .slice A2_10 l2_10.length c2_10, .slice A2_11 l2_11.length c2_11, .slice A2_12 l2_12.length c2_12, .slice A2_13 l2_13.length c2_13, .slice A2_14 l2_14.length c2_14, .int .i64 a2_15] 57 (0, 0)) (by (with_reducible repeat (first | refine blk_drewN ?_ _ | refine blk_drew ?_ | refine blk_alloc ?_ _)); exact BK158.out) k_ hn_)), Or.elim hk_ (fun hs_ => Or.elim hs_ (fun hs_ => fun e_ => Nat.not_le.2 hs_ (by rw [e_]; exact GW159.out)) (fun hs_ => fun e_ => Nat.not_le.2 hs_ (by rw [e_]; exact GW159.out))) (fun hn_ => (Kd.freshB (g := gb159) (o := .cells #[.string a3_0, .slice A3_1 l3_1.length c3_1] 43 (0, 0)) (by (with_reducible repeat (first | refine blk_drewN ?_ _ | refine blk_drew ?_ | refine blk_alloc ?_ _)); exact BK159.out) k_ hn_)), Or.elim hk_ (fun hs_ => Or.elim hs_ (fun hs_ => fun e_ => Nat.not_le.2 hs_ (by rw [e_]; exact GW170.out)) (fun hs_ => fun e_ => Nat.not_le.2 hs_ (by rw [e_]; exact GW170.out))) (fun hn_ => (Kd.freshB (g := gb170) (o := .cells #[.string t165, .slice Ao33 t166.length co33] 43 (0, 0)) (by (with_reducible repeat (first | refine blk_drewN ?_ _ | refine blk_drew ?_ | refine blk_alloc ?_ _)); exact BK170.out) k_ hn_))⟩)) (below_size (by repeat (first | (with_reducible first | exact HB.out | apply below_alloc | apply pw_below_drewN | apply below_drew1 | refine below_set ?_ GE158.out | refine below_set ?_ GE159.out | refine below_set ?_ GE170.out) | exact HB.out)))); have n2_ := Aside0.mk (blk_below (g := gb158) (o := .cells #[.int .i64 a2_0, .slice A2_1 l2_1.length c2_1, .int .i64 a2_2, .int .i64 a2_3, .slice A2_4 l2_4.length c2_4, .int .i64 a2_5, .bool a2_6, .bool a2_7, .int .i64 a2_8, .int .u16 a2_9, .slice A2_10 l2_10.length c2_10, .slice A2_11 l2_11.length c2_11, .slice A2_12 l2_12.length c2_12, .slice A2_13 l2_13.length c2_13, .slice A2_14 l2_14.length c2_14, .int .i64 a2_15] 57 (0, 0)) (by (with_reducible repeat (first | refine blk_drewN ?_ _ | refine blk_drew ?_ | refine blk_alloc ?_ _)); exact BK158.out) hb); have n3_ := Aside0.mk (blk_below (g := gb159) (o := .cells #[.string a3_0, .slice A3_1 l3_1.length c3_1] 43 (0, 0)) (by (with_reducible repeat (first | refine blk_drewN ?_ _ | refine blk_drew ?_ | refine blk_alloc ?_ _)); exact BK159.out) hb); have n4_ := Aside0.mk (blk_below (g := gb170) (o := .cells #[.string t165, .slice Ao33 t166.length co33] 43 (0, 0)) (by (with_reducible repeat (first | refine blk_drewN ?_ _ | refine blk_drew ?_ | refine blk_alloc ?_ _)); exact BK170.out) hb); have n5_ := Aside0.mk (below_step (by repeat (first | (with_reducible first | exact HB.out | apply below_alloc | apply pw_below_drewN | apply below_drew1 | refine below_set ?_ GE158.out | refine below_set ?_ GE159.out | refine below_set ?_ GE170.out) | exact HB.out)) hb); clear HO168; clear BK158; clear BK159; clear BK170; clear HB; have HO168 := n0_; have HO174 := n1_; have BK158 := n2_; have BK159 := n3_; have BK170 := n4_; have HB := n5_; clear n0_ n1_ n2_ n3_ n4_ n5_; (try clear hb); (try clear hb2); (try clear hk); (try clear hi); (try clear ho0)) | ((with_reducible refine gate_dst (N := 16) rfl ?_); (try (refine gate_guard (by rfl) ?_; dsimp only)); refine box_event ?hg (N := 16) ?hd (cs := #[.string (⟨#[]⟩ : ByteArray), .slice none 0 0]) (t := 43) ?hr ?_; (case hd => rfl); (case hg => rfl); (case hr => first | (go_simp; done) | (go_simp; rfl)); intro gb176 hg w37 hbox hb; have n0_ := Aside0.mk (Kd.R_below (by (with_reducible repeat (first | apply Kd.R_alloc | apply Kd.R_drewN | apply Kd.R_drew)); exact HO168.out) hb); have n1_ := Aside0.mk (Kd.V_below (Kd.V_elderB (by (with_reducible repeat (first | apply Kd.V_alloc | apply Kd.V_drewN | apply Kd.V_drew)); exact HO174.out) gb176 (Nat.le_of_eq hg.symm)) hb); have n2_ := Aside0.mk (blk_below (g := gb158) (o := .cells #[.int .i64 a2_0, .slice A2_1 l2_1.length c2_1, .int .i64 a2_2, .int .i64 a2_3, .slice A2_4 l2_4.length c2_4, .int .i64 a2_5, .bool a2_6, .bool a2_7, .int .i64 a2_8, .int .u16 a2_9, .slice A2_10 l2_10.length c2_10, .slice A2_11 l2_11.length c2_11, .slice A2_12 l2_12.length c2_12, .slice A2_13 l2_13.length c2_13, .slice A2_14 l2_14.length c2_14, .int .i64 a2_15] 57 (0, 0)) (by (with_reducible repeat (first | refine blk_drewN ?_ _ | refine blk_drew ?_ | refine blk_alloc ?_ _)); exact BK158.out) hb); have n3_ := Aside0.mk (blk_below (g := gb159) (o := .cells #[.string a3_0, .slice A3_1 l3_1.length c3_1] 43 (0, 0)) (by (with_reducible repeat (first | refine blk_drewN ?_ _ | refine blk_drew ?_ | refine blk_alloc ?_ _)); exact BK159.out) hb); have n4_ := Aside0.mk (blk_below (g := gb170) (o := .cells #[.string t165, .slice Ao33 t166.length co33] 43 (0, 0)) (by (with_reducible repeat (first | refine blk_drewN ?_ _ | refine blk_drew ?_ | refine blk_alloc ?_ _)); exact BK170.out) hb); have n5_ := Aside0.mk (below_step (by repeat (first | (with_reducible first | exact HB.out | apply below_alloc | apply pw_below_drewN | apply below_drew1 | refine below_set ?_ GE158.out | refine below_set ?_ GE159.out | refine below_set ?_ GE170.out) | exact HB.out)) hb); have n6_ := Aside0.mk (hbox); have n7_ := Aside0.mk ((by rw [hg]; exact (below_size (by repeat (first | (with_reducible first | exact HB.out | apply below_alloc | apply pw_below_drewN | apply below_drew1 | refine below_set ?_ GE158.out | refine below_set ?_ GE159.out | refine below_set ?_ GE170.out) | exact HB.out))) : w.heap.size ≤ gb176)); have n8_ := Aside0.mk ((by rw [hg]; exact (below_size (by repeat (first | (with_reducible first | exact HB.out | apply below_alloc | apply pw_below_drewN | apply below_drew1 | refine below_set ?_ GE158.out | refine below_set ?_ GE159.out | refine below_set ?_ GE170.out) | exact HB.out))) : w.heap.size ≤ gb176)); have n9_ := Aside0.mk ((by rw [hg]; exact Nat.ne_of_lt (blk_lt (g := gb158) (o := .cells #[.int .i64 a2_0, .slice A2_1 l2_1.length c2_1, .int .i64 a2_2, .int .i64 a2_3, .slice A2_4 l2_4.length c2_4, .int .i64 a2_5, .bool a2_6, .bool a2_7, .int .i64 a2_8, .int .u16 a2_9, .slice A2_10 l2_10.length c2_10, .slice A2_11 l2_11.length c2_11, .slice A2_12 l2_12.length c2_12, .slice A2_13 l2_13.length c2_13, .slice A2_14 l2_14.length c2_14, .int .i64 a2_15] 57 (0, 0)) (by (with_reducible repeat (first | refine blk_drewN ?_ _ | refine blk_drew ?_ | refine blk_alloc ?_ _)); exact BK158.out)) : gb158 ≠ gb176)); have n10_ := Aside0.mk ((by rw [hg]; exact Nat.ne_of_gt (blk_lt (g := gb158) (o := .cells #[.int .i64 a2_0, .slice A2_1 l2_1.length c2_1, .int .i64 a2_2, .int .i64 a2_3, .slice A2_4 l2_4.length c2_4, .int .i64 a2_5, .bool a2_6, .bool a2_7, .int .i64 a2_8, .int .u16 a2_9, .slice A2_10 l2_10.length c2_10, .slice A2_11 l2_11.length c2_11, .slice A2_12 l2_12.length c2_12, .slice A2_13 l2_13.length c2_13, .slice A2_14 l2_14.length c2_14, .int .i64 a2_15] 57 (0, 0)) (by (with_reducible repeat (first | refine blk_drewN ?_ _ | refine blk_drew ?_ | refine blk_alloc ?_ _)); exact BK158.out)) : gb176 ≠ gb158)); have n11_ := Aside0.mk ((by rw [hg]; exact Nat.ne_of_lt (blk_lt (g := gb159) (o := .cells #[.string a3_0, .slice A3_1 l3_1.length c3_1] 43 (0, 0)) (by (with_reducible repeat (first | refine blk_drewN ?_ _ | refine blk_drew ?_ | refine blk_alloc ?_ _)); exact BK159.out)) : gb159 ≠ gb176)); have n12_ := Aside0.mk ((by rw [hg]; exact Nat.ne_of_gt (blk_lt (g := gb159) (o := .cells #[.string a3_0, .slice A3_1 l3_1.length c3_1] 43 (0, 0)) (by (with_reducible repeat (first | refine blk_drewN ?_ _ | refine blk_drew ?_ | refine blk_alloc ?_ _)); exact BK159.out)) : gb176 ≠ gb159)); have n13_ := Aside0.mk ((by rw [hg]; exact Nat.ne_of_lt (blk_lt (g := gb170) (o := .cells #[.string t165, .slice Ao33 t166.length co33] 43 (0, 0)) (by (with_reducible repeat (first | refine blk_drewN ?_ _ | refine blk_drew ?_ | refine blk_alloc ?_ _)); exact BK170.out)) : gb170 ≠ gb176)); have n14_ := Aside0.mk ((by rw [hg]; exact Nat.ne_of_gt (blk_lt (g := gb170) (o := .cells #[.string t165, .slice Ao33 t166.length co33] 43 (0, 0)) (by (with_reducible repeat (first | refine blk_drewN ?_ _ | refine blk_drew ?_ | refine blk_alloc ?_ _)); exact BK170.out)) : gb176 ≠ gb170)); clear HO168; clear HO174; clear BK158; clear BK159; clear BK170; clear HB; have HO168 := n0_; have HO174 := n1_; have BK158 := n2_; have BK159 := n3_; have BK170 := n4_; have HB := n5_; have BK176 := n6_; have GW176 := n7_; have GE176 := n8_; have NB158_176 := n9_; have NB176_158 := n10_; have NB159_176 := n11_; have NB176_159 := n12_; have NB170_176 := n13_; have NB176_170 := n14_; clear n0_ n1_ n2_ n3_ n4_ n5_ n6_ n7_ n8_ n9_ n10_ n11_ n12_ n13_ n14_; clear hb hbox hg; have hnb38 := NB176_158.out; have hnc38 := NB158_176.out; have hnb39 := NB176_159.out; have hnc39 := NB159_176.out; have hnb40 := NB176_170.out; have hnc40 := NB170_176.out; have hcz41_0 : w37.cell? ⟨gb176, 0, none⟩ = some (.string (⟨#[]⟩ : ByteArray)) := (blk_cell BK176.out 0).trans rfl; have hcz41_1 : w37.cell? ⟨gb176, 1, none⟩ = some (.slice none 0 0) := (blk_cell BK176.out 1).trans rfl; have hfz41_0 := blk_frozen BK176.out 0; have hfz41_1 := blk_frozen BK176.out 1; obtain ⟨Ao42, co42, eo42⟩ := Kd.V_slice HO174.out; subst eo42))
    go_loopg [18, 19] kj5 (fun kq v18 v19 w' => ∃ (x18_2 : Bool) (x19_2 : Int), v18 = .bool x18_2 ∧ v19 = .int .i64 x19_2 ∧ Aside0 (warderlaw21_PrincsTell.l0 kq l1 t160 t161 t162 t163 t164 t169 t175 x18_2 x19_2 a2_0 l2_1 a2_2 a2_3 l2_4 a2_5 a2_6 a2_7 a2_8 a2_9 l2_10 l2_11 l2_12 l2_13 l2_14 a2_15 a3_0 l3_1 t165 t166 t171 t172 = some r) ∧ Aside0 (kq ≤ kj5) ∧ Aside0 (Kd.R Kd.string 9 w' w.heap.size (fun _ => True) (.slice Ao33 t166.length co33) t166) ∧ Aside0 (Kd.V Kd.string 9 w' w.heap.size (fun k_ => some k_ ≠ ((.slice Ao33 t166.length co33) : Value).ownBlock ∧ k_ ≠ gb158 ∧ k_ ≠ gb159 ∧ k_ ≠ gb170 ∧ k_ ≠ gb176) (.slice Ao42 t172.length co42) t172) ∧ Aside0 (w'.heap[gb158]? = some (.cells #[.int .i64 a2_0, (.slice A2_1 l2_1.length c2_1), .int .i64 a2_2, .int .i64 a2_3, (.slice A2_4 l2_4.length c2_4), .int .i64 a2_5, .bool a2_6, .bool a2_7, .int .i64 a2_8, .int .u16 a2_9, (.slice A2_10 l2_10.length c2_10), (.slice A2_11 l2_11.length c2_11), (.slice A2_12 l2_12.length c2_12), (.slice A2_13 l2_13.length c2_13), (.slice A2_14 l2_14.length c2_14), .int .i64 a2_15] 57 (0, 0))) ∧ Aside0 (w'.heap[gb159]? = some (.cells #[.string a3_0, (.slice A3_1 l3_1.length c3_1)] 43 (0, 0))) ∧ Aside0 (w'.heap[gb170]? = some (.cells #[.string t165, (.slice Ao33 t166.length co33)] 43 (0, 0))) ∧ Aside0 (w'.heap[gb176]? = some (.cells #[.string t171, (.slice Ao42 t172.length co42)] 43 (0, 0))) ∧ Aside0 (Below w.heap.size w w'))
    case atStart => exact ⟨(true), (0), (by first | rfl | (simp; done) | (simp [*]; done)), (by first | rfl | (simp; done) | (simp [*]; done)), H', ⟨Nat.le_refl _⟩, ⟨by (with_reducible repeat (first | apply Kd.R_alloc | apply Kd.R_drewN | apply Kd.R_drew)); exact Kd.R_mono (Kd.R_far (p := ⟨gb176, 1, none⟩) (Kd.R_far (p := ⟨gb176, 0, none⟩) (Kd.R_types HO168.out BK176.out (by decide)) (fun _ hk => hk.2) (.string t171)) (fun _ hk => hk.2) (.slice Ao42 t172.length co42)) (fun _ hk => trivial)⟩, ⟨by (with_reducible repeat (first | apply Kd.V_alloc | apply Kd.V_drewN | apply Kd.V_drew)); exact Kd.V_mono (Kd.V_far (p := ⟨gb176, 1, none⟩) (Kd.V_far (p := ⟨gb176, 0, none⟩) (Kd.V_mono HO174.out (fun k_ hk => (⟨hk, hk.2⟩ : _ ∧ k_ ≠ gb176))) (fun _ hk => hk.2) (.string t171)) (fun _ hk => hk.2) (.slice Ao42 t172.length co42)) (fun _ hk => ⟨hk.1.1.1, ⟨hk.1.1.2.1, ⟨hk.1.1.2.2.1, ⟨hk.1.1.2.2.2, hk.1.2⟩⟩⟩⟩)⟩, ⟨by (with_reducible repeat (first | refine blk_drewN ?_ _ | refine blk_drew ?_ | refine blk_alloc ?_ _)); refine blk_far ?_ NB158_176.out _; (with_reducible repeat (first | refine blk_drewN ?_ _ | refine blk_drew ?_ | refine blk_alloc ?_ _)); refine blk_far ?_ NB158_176.out _; (with_reducible repeat (first | refine blk_drewN ?_ _ | refine blk_drew ?_ | refine blk_alloc ?_ _)); exact BK158.out⟩, ⟨by (with_reducible repeat (first | refine blk_drewN ?_ _ | refine blk_drew ?_ | refine blk_alloc ?_ _)); refine blk_far ?_ NB159_176.out _; (with_reducible repeat (first | refine blk_drewN ?_ _ | refine blk_drew ?_ | refine blk_alloc ?_ _)); refine blk_far ?_ NB159_176.out _; (with_reducible repeat (first | refine blk_drewN ?_ _ | refine blk_drew ?_ | refine blk_alloc ?_ _)); exact BK159.out⟩, ⟨by (with_reducible repeat (first | refine blk_drewN ?_ _ | refine blk_drew ?_ | refine blk_alloc ?_ _)); refine blk_far ?_ NB170_176.out _; (with_reducible repeat (first | refine blk_drewN ?_ _ | refine blk_drew ?_ | refine blk_alloc ?_ _)); refine blk_far ?_ NB170_176.out _; (with_reducible repeat (first | refine blk_drewN ?_ _ | refine blk_drew ?_ | refine blk_alloc ?_ _)); exact BK170.out⟩, ⟨by (with_reducible repeat (first | refine blk_drewN ?_ _ | refine blk_drew ?_ | refine blk_alloc ?_ _)); refine blk_put (cs := #[.string t171, .slice none 0 0]) ?_ 1 _ rfl; (with_reducible repeat (first | refine blk_drewN ?_ _ | refine blk_drew ?_ | refine blk_alloc ?_ _)); refine blk_put (cs := #[.string (⟨#[]⟩ : ByteArray), .slice none 0 0]) ?_ 0 _ rfl; (with_reducible repeat (first | refine blk_drewN ?_ _ | refine blk_drew ?_ | refine blk_alloc ?_ _)); exact BK176.out⟩, ⟨by repeat (first | (with_reducible first | exact HB.out | apply below_alloc | apply pw_below_drewN | apply below_drew1 | refine below_set ?_ GE158.out | refine below_set ?_ GE159.out | refine below_set ?_ GE170.out | refine below_set ?_ GE176.out) | exact HB.out)⟩⟩
    case round =>
     clear H'
     try clear c1
     try clear c2
     try clear p2
     try clear c3
     try clear c4
     try clear c8
     try clear c10
     try clear c10b0
     try clear c10b1
     try clear c11
     try clear c11b0
     try clear c11b1
     try clear c12
     try clear c12b0
     try clear c12b1
     try clear c13
     try clear c15
     try clear c17
     try clear c18
     try clear c19
     try clear c20
     try clear c21
     try clear c22
     try clear c30
     try clear c31
     try clear c38
     try clear c39
     try clear c40
     try clear hcz14_0
     try clear hcz14_1
     try clear hcz14_10
     try clear hcz14_11
     try clear hcz14_12
     try clear hcz14_13
     try clear hcz14_14
     try clear hcz14_15
     try clear hcz14_2
     try clear hcz14_3
     try clear hcz14_4
     try clear hcz14_5
     try clear hcz14_6
     try clear hcz14_7
     try clear hcz14_8
     try clear hcz14_9
     try clear hcz16_0
     try clear hcz16_1
     try clear hcz16_10
     try clear hcz16_11
     try clear hcz16_12
     try clear hcz16_13
     try clear hcz16_14
     try clear hcz16_15
     try clear hcz16_2
     try clear hcz16_3
     try clear hcz16_4
     try clear hcz16_5
     try clear hcz16_6
     try clear hcz16_7
     try clear hcz16_8
     try clear hcz16_9
     try clear hcz23_0
     try clear hcz23_1
     try clear hcz25_0
     try clear hcz25_1
     try clear hcz27_0
     try clear hcz27_1
     try clear hcz27_10
     try clear hcz27_11
     try clear hcz27_12
     try clear hcz27_13
     try clear hcz27_14
     try clear hcz27_15
     try clear hcz27_2
     try clear hcz27_3
     try clear hcz27_4
     try clear hcz27_5
     try clear hcz27_6
     try clear hcz27_7
     try clear hcz27_8
     try clear hcz27_9
     try clear hcz32_0
     try clear hcz32_1
     try clear hcz35_0
     try clear hcz35_1
     try clear hcz35_10
     try clear hcz35_11
     try clear hcz35_12
     try clear hcz35_13
     try clear hcz35_14
     try clear hcz35_15
     try clear hcz35_2
     try clear hcz35_3
     try clear hcz35_4
     try clear hcz35_5
     try clear hcz35_6
     try clear hcz35_7
     try clear hcz35_8
     try clear hcz35_9
     try clear hcz41_0
     try clear hcz41_1
     try clear hfz14_0
     try clear hfz14_1
     try clear hfz14_10
     try clear hfz14_11
     try clear hfz14_12
     try clear hfz14_13
     try clear hfz14_14
     try clear hfz14_15
     try clear hfz14_2
     try clear hfz14_3
     try clear hfz14_4
     try clear hfz14_5
     try clear hfz14_6
     try clear hfz14_7
     try clear hfz14_8
     try clear hfz14_9
     try clear hfz16_0
     try clear hfz16_1
     try clear hfz16_10
     try clear hfz16_11
     try clear hfz16_12
     try clear hfz16_13
     try clear hfz16_14
     try clear hfz16_15
     try clear hfz16_2
     try clear hfz16_3
     try clear hfz16_4
     try clear hfz16_5
     try clear hfz16_6
     try clear hfz16_7
     try clear hfz16_8
     try clear hfz16_9
     try clear hfz23_0
     try clear hfz23_1
     try clear hfz25_0
     try clear hfz25_1
     try clear hfz27_0
     try clear hfz27_1
     try clear hfz27_10
     try clear hfz27_11
     try clear hfz27_12
     try clear hfz27_13
     try clear hfz27_14
     try clear hfz27_15
     try clear hfz27_2
     try clear hfz27_3
     try clear hfz27_4
     try clear hfz27_5
     try clear hfz27_6
     try clear hfz27_7
     try clear hfz27_8
     try clear hfz27_9
     try clear hfz32_0
     try clear hfz32_1
     try clear hfz35_0
     try clear hfz35_1
     try clear hfz35_10
     try clear hfz35_11
     try clear hfz35_12
     try clear hfz35_13
     try clear hfz35_14
     try clear hfz35_15
     try clear hfz35_2
     try clear hfz35_3
     try clear hfz35_4
     try clear hfz35_5
     try clear hfz35_6
     try clear hfz35_7
     try clear hfz35_8
     try clear hfz35_9
     try clear hfz41_0
     try clear hfz41_1
     try clear p2
     obtain ⟨x18_2, x19_2, rfl, rfl, HA, HK2, HO_171001, HO_177001, BK158, BK159, BK170, BK176, HB⟩ := hrel
     cases gk with
     | zero => exact absurd HA.out (by simp [warderlaw21_PrincsTell.l0])
     | succ k2 =>
      have H := HA.out
      clear HA
      simp only [warderlaw21_PrincsTell.l0] at H
      by_cases c43 : x19_2 < (l1.length : Int)
      ·as_aux_lemma =>
       rw [if_pos c43] at H
       have c43b0 : decide (x19_2 < (l1.length : Int)) = true := decide_eq_true c43
       clear c43
       by_cases c44 : x18_2 = true
       ·as_aux_lemma =>
        subst c44
        have H1 : (if 0 ≤ x19_2 then ((princs_Same.f k2 ((rd_T45 l1 x19_2).f0.f0) ((rd_T45 l1 x19_2).f0.f1) a3_0 l3_1).bind fun t178 => ((warderref09_AlikePrinc.f k2 ((rd_T45 l1 x19_2).f0.f0) ((rd_T45 l1 x19_2).f0.f1) a3_0 l3_1).bind fun t180 => (warderlaw21_PrincsTell.l0 k2 l1 t160 t161 t162 t163 t164 t169 t175 (t178 == t180) (wrap64 (x19_2 + 1)) a2_0 l2_1 a2_2 a2_3 l2_4 a2_5 a2_6 a2_7 a2_8 a2_9 l2_10 l2_11 l2_12 l2_13 l2_14 a2_15 a3_0 l3_1 t165 t166 t171 t172))) else (none)) = some r := by rw [if_pos rfl] at H; exact H
        clear H
        have H := H1
        clear H1
        by_cases c45 : 0 ≤ x19_2
        ·as_aux_lemma =>
         rw [if_pos c45] at H
         have c45b0 : decide (0 ≤ x19_2) = true := decide_eq_true c45
         clear c45
         replace H := Option.bind_eq_some_iff.mp H
         obtain ⟨t178, A460, H⟩ := H
         replace H : ((warderref09_AlikePrinc.f k2 ((rd_T45 l1 x19_2).f0.f0) ((rd_T45 l1 x19_2).f0.f1) a3_0 l3_1).bind fun t180 => (warderlaw21_PrincsTell.l0 k2 l1 t160 t161 t162 t163 t164 t169 t175 (t178 == t180) (wrap64 (x19_2 + 1)) a2_0 l2_1 a2_2 a2_3 l2_4 a2_5 a2_6 a2_7 a2_8 a2_9 l2_10 l2_11 l2_12 l2_13 l2_14 a2_15 a3_0 l3_1 t165 t166 t171 t172)) = some r := H
         have A46 := Aside0.mk A460
         clear A460
         replace H := Option.bind_eq_some_iff.mp H
         obtain ⟨t180, A470, H⟩ := H
         replace H : (warderlaw21_PrincsTell.l0 k2 l1 t160 t161 t162 t163 t164 t169 t175 (t178 == t180) (wrap64 (x19_2 + 1)) a2_0 l2_1 a2_2 a2_3 l2_4 a2_5 a2_6 a2_7 a2_8 a2_9 l2_10 l2_11 l2_12 l2_13 l2_14 a2_15 a3_0 l3_1 t165 t166 t171 t172) = some r := H
         have A47 := Aside0.mk A470
         clear A470
         have H' := Aside0.mk H
         clear H
         try go_wp2
         have n0_ := Aside0.mk (Kd.R_drew HO_171001.out)
         have n1_ := Aside0.mk (Kd.V_drew HO_177001.out)
         have n2_ := Aside0.mk (blk_drew BK158.out)
         have n3_ := Aside0.mk (blk_drew BK159.out)
         have n4_ := Aside0.mk (blk_drew BK170.out)
         have n5_ := Aside0.mk (blk_drew BK176.out)
         have n6_ := Aside0.mk (below_drew1 HB.out)
         clear HO_171001
         clear HO_177001
         clear BK158
         clear BK159
         clear BK170
         clear BK176
         clear HB
         have HO_171001 := n0_
         have HO_177001 := n1_
         have BK158 := n2_
         have BK159 := n3_
         have BK170 := n4_
         have BK176 := n5_
         have HB := n6_
         clear n0_ n1_ n2_ n3_ n4_ n5_ n6_
         have p177 : 0 ≤ (x19_2 : Int) := of_decide_eq_true (by first | (with_reducible assumption) | assumption)
         have q177 : x19_2 < (l1.length : Int) := of_decide_eq_true (by first | (with_reducible assumption) | assumption)
         obtain ⟨ad177, A177_1, c177_1, e177, hx177_0, hx177_1, hx177_2, hl177_1, hi177_1⟩ := at_T45 HR1.out x19_2 p177 q177
         have hw177_2 := hx177_2
         have hw177_1 := hx177_1
         have hw177_0 := hx177_0
         cases e177
         replace hx177_0 := (HB.out.cell (World.block_lt_of_cell? w _ hx177_0)).trans hx177_0
         replace hx177_1 := (HB.out.cell (World.block_lt_of_cell? w _ hx177_1)).trans hx177_1
         replace hx177_2 := (HB.out.cell (World.block_lt_of_cell? w _ hx177_2)).trans hx177_2
         have HR177_1 := Aside0.mk hi177_1
         have HC177_1 := Aside0.mk hl177_1
         clear hi177_1 hl177_1
         replace p177 := eq_true p177
         replace q177 := eq_true q177
         have p179 : 0 ≤ (x19_2 : Int) := of_decide_eq_true (by first | (with_reducible assumption) | assumption)
         have q179 : x19_2 < (l1.length : Int) := of_decide_eq_true (by first | (with_reducible assumption) | assumption)
         obtain ⟨ad179, A179_1, c179_1, e179, hx179_0, hx179_1, hx179_2, hl179_1, hi179_1⟩ := at_T45 HR1.out x19_2 p179 q179
         have hw179_2 := hx179_2
         have hw179_1 := hx179_1
         have hw179_0 := hx179_0
         obtain rfl : ad177 = ad179 := (by injection e179)
         replace hx179_0 := (HB.out.cell (World.block_lt_of_cell? w _ hx179_0)).trans hx179_0
         replace hx179_1 := (HB.out.cell (World.block_lt_of_cell? w _ hx179_1)).trans hx179_1
         replace hx179_2 := (HB.out.cell (World.block_lt_of_cell? w _ hx179_2)).trans hx179_2
         have HR179_1 := Aside0.mk hi179_1
         have HC179_1 := Aside0.mk hl179_1
         clear hi179_1 hl179_1
         replace p179 := eq_true p179
         replace q179 := eq_true q179
         have ea_ := Option.some.inj (hx177_1.symm.trans hx179_1)
         injection ea_ with ea_ en_ ec_
         subst ea_
         subst ec_
         clear en_
         refine start_ (n := 19) (S := fun w' => w'.cell? ⟨gb159, 0, none⟩ = some (.string a3_0) ∧ w'.cell? ⟨gb159, 1, none⟩ = some (.slice A3_1 l3_1.length c3_1) ∧ w'.cell? (ad177.add ((x19_2).toNat * 3)) = some (.string ((rd_T45 l1 x19_2).f0.f0)) ∧ w'.cell? ⟨(ad177.add ((x19_2).toNat * 3)).block, (ad177.add ((x19_2).toNat * 3)).off + 1, none⟩ = some (.slice A177_1 ((rd_T45 l1 x19_2).f0.f1).length c177_1) ∧ w'.cell? ⟨(ad177.add ((x19_2).toNat * 3)).block, (ad177.add ((x19_2).toNat * 3)).off + 2, none⟩ = some (.int .i64 ((rd_T45 l1 x19_2).f1)) ∧ w'.cell? (ad177.add ((x19_2).toNat * 3)) = some (.string ((rd_T45 l1 x19_2).f0.f0)) ∧ w'.cell? ⟨(ad177.add ((x19_2).toNat * 3)).block, (ad177.add ((x19_2).toNat * 3)).off + 1, none⟩ = some (.slice A177_1 ((rd_T45 l1 x19_2).f0.f1).length c177_1) ∧ w'.cell? ⟨(ad177.add ((x19_2).toNat * 3)).block, (ad177.add ((x19_2).toNat * 3)).off + 2, none⟩ = some (.int .i64 ((rd_T45 l1 x19_2).f1))) (ds := []) #[false, false, false, false, false, false, false, false, false, false, false, false, false, false, false, false, false, false, false] (by kernel_rfl) rfl rfl ⟨(blk_cell BK159.out 0).trans rfl, (blk_cell BK159.out 1).trans rfl, ((HB.out.cell (World.block_lt_of_cell? w _ hw177_0)).trans hw177_0), ((HB.out.cell (World.block_lt_of_cell? w _ hw177_1)).trans hw177_1), ((HB.out.cell (World.block_lt_of_cell? w _ hw177_2)).trans hw177_2), ((HB.out.cell (World.block_lt_of_cell? w _ hw179_0)).trans hw179_0), ((HB.out.cell (World.block_lt_of_cell? w _ hw179_1)).trans hw179_1), ((HB.out.cell (World.block_lt_of_cell? w _ hw179_2)).trans hw179_2)⟩ (fun hHeld => ?_); refine with_tabW warderlaw21_PrincsTell.tab12 warderlaw21_PrincsTell.bits12 (fun HT_ HW_ => ?_)
         generalize wr.drew = w48 at HO_171001 HO_177001 BK158 BK159 BK170 BK176 HB HR177_1 HR179_1 hx177_0 hx177_1 hx177_2 hx179_0 hx179_1 hx179_2 hHeld ⊢
         refine pure_ (i := 0) (N := some 76) (v := ?_) (a' := ?_) #[true, false, false, false, false, false, false, false, false, false, false, false, false, false, false, false, false, false, false] rfl rfl (any_of HT_.out (by kernel_rfl)) (fun _ _ _ h => h) (Or.inl ⟨by rfl, ?_⟩) ?_ ?_
         rotate_left
         ·intro w'
          go_simp
          with_reducible rfl
         rotate_left
         ·simp only [Act.put, List.setIfInBounds_toArray, List.set_cons_zero, List.set_cons_succ, i64_w, i32_w]
          rfl
         refine pure_ (i := 1) (N := some 77) (v := ?_) (a' := ?_) #[true, true, false, false, false, false, false, false, false, false, false, false, false, false, false, false, false, false, false] rfl rfl (any_of HT_.out (by kernel_rfl)) (fun _ _ _ h => h) (Or.inl ⟨by rfl, ?_⟩) ?_ ?_
         rotate_left
         ·intro w'
          go_simp
          with_reducible rfl
         rotate_left
         ·simp only [Act.put, List.setIfInBounds_toArray, List.set_cons_zero, List.set_cons_succ, i64_w, i32_w]
          rfl
         refine pure_ (i := 2) (N := some 78) (v := ?_) (a' := ?_) #[true, true, true, false, false, false, false, false, false, false, false, false, false, false, false, false, false, false, false] rfl rfl (any_of HT_.out (by kernel_rfl)) (fun _ _ _ h => h) (Or.inl ⟨by rfl, ?_⟩) ?_ ?_
         rotate_left
         ·intro w'
          go_simp
          with_reducible rfl
         rotate_left
         ·simp only [Act.put, List.setIfInBounds_toArray, List.set_cons_zero, List.set_cons_succ, i64_w, i32_w]
          rfl
         refine pure_ (i := 3) (N := some 79) (v := ?_) (a' := ?_) #[true, true, true, true, false, false, false, false, false, false, false, false, false, false, false, false, false, false, false] rfl rfl (any_of HT_.out (by kernel_rfl)) (fun _ _ _ h => h) (Or.inl ⟨by rfl, ?_⟩) ?_ ?_
         rotate_left
         ·intro w'
          go_simp
          with_reducible rfl
         rotate_left
         ·simp only [Act.put, List.setIfInBounds_toArray, List.set_cons_zero, List.set_cons_succ, i64_w, i32_w]
          rfl
         refine pure_ (i := 4) (N := some 80) (v := ?_) (a' := ?_) #[true, true, true, true, true, false, false, false, false, false, false, false, false, false, false, false, false, false, false] rfl rfl (any_of HT_.out (by kernel_rfl)) (fun _ _ _ h => h) (Or.inl ⟨by rfl, ?_⟩) ?_ ?_
         rotate_left
         ·intro w'
          go_simp
          with_reducible rfl
         rotate_left
         ·simp only [Act.put, List.setIfInBounds_toArray, List.set_cons_zero, List.set_cons_succ, i64_w, i32_w]
          rfl
         refine pure_ (i := 5) (N := some 81) (v := ?_) (a' := ?_) #[true, true, true, true, true, true, false, false, false, false, false, false, false, false, false, false, false, false, false] rfl rfl (any_of HT_.out (by kernel_rfl)) (fun _ _ _ h => h) (Or.inl ⟨by rfl, ?_⟩) ?_ ?_
         rotate_left
         ·intro w'
          go_simp
          with_reducible rfl
         rotate_left
         ·simp only [Act.put, List.setIfInBounds_toArray, List.set_cons_zero, List.set_cons_succ, i64_w, i32_w]
          rfl
         refine pure_ (i := 9) (N := some 85) (v := ?_) (a' := ?_) #[true, true, true, true, true, true, false, false, false, true, false, false, false, false, false, false, false, false, false] rfl rfl (any_of HT_.out (by kernel_rfl)) (fun _ _ _ h => h) (Or.inl ⟨by rfl, ?_⟩) ?_ ?_
         rotate_left
         ·intro w'
          go_simp
          with_reducible rfl
         rotate_left
         ·simp only [Act.put, List.setIfInBounds_toArray, List.set_cons_zero, List.set_cons_succ, i64_w, i32_w]
          rfl
         refine pure_ (i := 10) (N := some 86) (v := ?_) (a' := ?_) #[true, true, true, true, true, true, false, false, false, true, true, false, false, false, false, false, false, false, false] rfl rfl (any_of HT_.out (by kernel_rfl)) (fun _ _ _ h => h) (Or.inl ⟨by rfl, ?_⟩) ?_ ?_
         rotate_left
         ·intro w'
          go_simp
          with_reducible rfl
         rotate_left
         ·simp only [Act.put, List.setIfInBounds_toArray, List.set_cons_zero, List.set_cons_succ, i64_w, i32_w]
          rfl
         refine pure_ (i := 11) (N := some 87) (v := ?_) (a' := ?_) #[true, true, true, true, true, true, false, false, false, true, true, true, false, false, false, false, false, false, false] rfl rfl (any_of HT_.out (by kernel_rfl)) (fun _ _ _ h => h) (Or.inl ⟨by rfl, ?_⟩) ?_ ?_
         rotate_left
         ·intro w'
          go_simp
          with_reducible rfl
         rotate_left
         ·simp only [Act.put, List.setIfInBounds_toArray, List.set_cons_zero, List.set_cons_succ, i64_w, i32_w]
          rfl
         refine pure_ (i := 12) (N := some 88) (v := ?_) (a' := ?_) #[true, true, true, true, true, true, false, false, false, true, true, true, true, false, false, false, false, false, false] rfl rfl (any_of HT_.out (by kernel_rfl)) (fun _ _ _ h => h) (Or.inl ⟨by rfl, ?_⟩) ?_ ?_
         rotate_left
         ·intro w'
          go_simp
          with_reducible rfl
         rotate_left
         ·simp only [Act.put, List.setIfInBounds_toArray, List.set_cons_zero, List.set_cons_succ, i64_w, i32_w]
          rfl
         refine take_ (i := 6) (N := some 82) (v := ?_) (a' := ?_) #[true, true, true, true, true, true, true, false, false, true, true, true, true, false, false, false, false, false, false] rfl rfl (take_ofW HT_.out HW_.out (by kernel_rfl)) (fun _ _ _ h => h) (Or.inl ⟨by rfl, ?_⟩) hHeld ?_ ?_
         rotate_left
         ·rintro w' ⟨s0, s1, s2, s3, s4, s5, s6, s7⟩
          go_simp
          with_reducible rfl
         rotate_left
         ·simp only [Act.put, List.setIfInBounds_toArray, List.set_cons_zero, List.set_cons_succ, i64_w, i32_w]
          rfl
         refine take_ (i := 7) (N := some 83) (v := ?_) (a' := ?_) #[true, true, true, true, true, true, true, true, false, true, true, true, true, false, false, false, false, false, false] rfl rfl (take_ofW HT_.out HW_.out (by kernel_rfl)) (fun _ _ _ h => h) (Or.inl ⟨by rfl, ?_⟩) hHeld ?_ ?_
         rotate_left
         ·rintro w' ⟨s0, s1, s2, s3, s4, s5, s6, s7⟩
          go_simp
          with_reducible rfl
         rotate_left
         ·simp only [Act.put, List.setIfInBounds_toArray, List.set_cons_zero, List.set_cons_succ, i64_w, i32_w]
          rfl
         refine take_ (i := 13) (N := some 89) (v := ?_) (a' := ?_) #[true, true, true, true, true, true, true, true, false, true, true, true, true, true, false, false, false, false, false] rfl rfl (take_ofW HT_.out HW_.out (by kernel_rfl)) (fun _ _ _ h => h) (Or.inl ⟨by rfl, ?_⟩) hHeld ?_ ?_
         rotate_left
         ·rintro w' ⟨s0, s1, s2, s3, s4, s5, s6, s7⟩
          go_simp
          with_reducible rfl
         rotate_left
         ·simp only [Act.put, List.setIfInBounds_toArray, List.set_cons_zero, List.set_cons_succ, i64_w, i32_w]
          rfl
         refine take_ (i := 14) (N := some 90) (v := ?_) (a' := ?_) #[true, true, true, true, true, true, true, true, false, true, true, true, true, true, true, false, false, false, false] rfl rfl (take_ofW HT_.out HW_.out (by kernel_rfl)) (fun _ _ _ h => h) (Or.inl ⟨by rfl, ?_⟩) hHeld ?_ ?_
         rotate_left
         ·rintro w' ⟨s0, s1, s2, s3, s4, s5, s6, s7⟩
          go_simp
          with_reducible rfl
         rotate_left
         ·simp only [Act.put, List.setIfInBounds_toArray, List.set_cons_zero, List.set_cons_succ, i64_w, i32_w]
          rfl
         refine one_ (i := 8) (N := some 84) #[true, true, true, true, true, true, true, true, true, true, true, true, true, true, true, false, false, false, false] rfl rfl (one_of HT_.out (by kernel_rfl)) (by decide) (fun K hK => ?_)
         refine goes_ Try.func23 (by kernel_rfl) rfl #[.agg #[.string ((rd_T45 l1 x19_2).f0.f0), .slice A177_1 ((rd_T45 l1 x19_2).f0.f1).length c177_1], .agg #[.string a3_0, .slice A3_1 l3_1.length c3_1]] (by rfl) rfl rfl (by (try simp only [List.map_toArray, List.map_cons, List.map_nil]); first | done | rfl | (simp only [List.length_drop, List.length_take]; rfl)) ?_
         with_reducible refine (princs_Same.calls k2 ((rd_T45 l1 x19_2).f0.f0) _ _ ((rd_T45 l1 x19_2).f0.f1) a3_0 _ _ l3_1 t178 _ ?side1 ?side2 ?side3 ?side4 A46.out).mono ?_
         (case side1 => repeat (first | exact (Kd.C_below HR177_1.out HB.out) | (with_reducible refine Kd.C_alloc ?_ _) | (with_reducible refine Kd.C_drewN ?_ _) | (with_reducible refine Kd.C_drew ?_)))
         (case side2 => exact HC177_1.out)
         (case side3 => repeat (first | exact (Kd.C_below HR3_1.out HB.out) | (with_reducible refine Kd.C_alloc ?_ _) | (with_reducible refine Kd.C_drewN ?_ _) | (with_reducible refine Kd.C_drew ?_)))
         (case side4 => exact HC3_1.out)
         rintro e w49 ⟨rfl, hb⟩
         refine ⟨_, rfl, ?_⟩
         have n0_ := Aside0.mk (Kd.R_below (by (with_reducible repeat (first | apply Kd.R_alloc | apply Kd.R_drewN | apply Kd.R_drew)); exact HO_171001.out) hb)
         have n1_ := Aside0.mk (Kd.V_below (by (with_reducible repeat (first | apply Kd.V_alloc | apply Kd.V_drewN | apply Kd.V_drew)); exact HO_177001.out) hb)
         have n2_ := Aside0.mk (blk_below (g := gb158) (o := .cells #[.int .i64 a2_0, .slice A2_1 l2_1.length c2_1, .int .i64 a2_2, .int .i64 a2_3, .slice A2_4 l2_4.length c2_4, .int .i64 a2_5, .bool a2_6, .bool a2_7, .int .i64 a2_8, .int .u16 a2_9, .slice A2_10 l2_10.length c2_10, .slice A2_11 l2_11.length c2_11, .slice A2_12 l2_12.length c2_12, .slice A2_13 l2_13.length c2_13, .slice A2_14 l2_14.length c2_14, .int .i64 a2_15] 57 (0, 0)) (by (with_reducible repeat (first | refine blk_drewN ?_ _ | refine blk_drew ?_ | refine blk_alloc ?_ _)); exact BK158.out) hb)
         have n3_ := Aside0.mk (blk_below (g := gb159) (o := .cells #[.string a3_0, .slice A3_1 l3_1.length c3_1] 43 (0, 0)) (by (with_reducible repeat (first | refine blk_drewN ?_ _ | refine blk_drew ?_ | refine blk_alloc ?_ _)); exact BK159.out) hb)
         have n4_ := Aside0.mk (blk_below (g := gb170) (o := .cells #[.string t165, .slice Ao33 t166.length co33] 43 (0, 0)) (by (with_reducible repeat (first | refine blk_drewN ?_ _ | refine blk_drew ?_ | refine blk_alloc ?_ _)); exact BK170.out) hb)
         have n5_ := Aside0.mk (blk_below (g := gb176) (o := .cells #[.string t171, .slice Ao42 t172.length co42] 43 (0, 0)) (by (with_reducible repeat (first | refine blk_drewN ?_ _ | refine blk_drew ?_ | refine blk_alloc ?_ _)); exact BK176.out) hb)
         have n6_ := Aside0.mk (below_step (by repeat (first | (with_reducible first | exact HB.out | apply below_alloc | apply pw_below_drewN | apply below_drew1 | refine below_set ?_ GE158.out | refine below_set ?_ GE159.out | refine below_set ?_ GE170.out | refine below_set ?_ GE176.out) | exact HB.out)) hb)
         clear HO_171001
         clear HO_177001
         clear BK158
         clear BK159
         clear BK170
         clear BK176
         clear HB
         have HO_171001 := n0_
         have HO_177001 := n1_
         have BK158 := n2_
         have BK159 := n3_
         have BK170 := n4_
         have BK176 := n5_
         have HB := n6_
         clear n0_ n1_ n2_ n3_ n4_ n5_ n6_
         (try clear hb)
         (try clear hb2)
         (try clear hk)
         (try clear hi)
         refine hK.out _ _ ⟨(blk_cell BK159.out 0).trans rfl, (blk_cell BK159.out 1).trans rfl, ((HB.out.cell (World.block_lt_of_cell? w _ hw177_0)).trans hw177_0), ((HB.out.cell (World.block_lt_of_cell? w _ hw177_1)).trans hw177_1), ((HB.out.cell (World.block_lt_of_cell? w _ hw177_2)).trans hw177_2), ((HB.out.cell (World.block_lt_of_cell? w _ hw179_0)).trans hw179_0), ((HB.out.cell (World.block_lt_of_cell? w _ hw179_1)).trans hw179_1), ((HB.out.cell (World.block_lt_of_cell? w _ hw179_2)).trans hw179_2)⟩ (fun hHeld => ?_)
         clear hK K
         refine norm_ (a' := ?_) ?_ ?_
         rotate_left
         ·show Act.put _ (some 84) _ = _
          simp only [Act.put, List.setIfInBounds_toArray, List.set_cons_zero, List.set_cons_succ, i64_w, i32_w]
          rfl
         refine one_ (i := 15) (N := some 91) #[true, true, true, true, true, true, true, true, true, true, true, true, true, true, true, true, false, false, false] rfl rfl (one_of HT_.out (by kernel_rfl)) (by decide) (fun K hK => ?_)
         refine goes_ Try.func24 (by kernel_rfl) rfl #[.agg #[.string ((rd_T45 l1 x19_2).f0.f0), .slice A177_1 ((rd_T45 l1 x19_2).f0.f1).length c177_1], .agg #[.string a3_0, .slice A3_1 l3_1.length c3_1]] (by rfl) rfl rfl (by (try simp only [List.map_toArray, List.map_cons, List.map_nil]); first | done | rfl | (simp only [List.length_drop, List.length_take]; rfl)) ?_
         with_reducible refine (warderref09_AlikePrinc.calls k2 ((rd_T45 l1 x19_2).f0.f0) _ _ ((rd_T45 l1 x19_2).f0.f1) a3_0 _ _ l3_1 t180 _ ?side1 ?side2 ?side3 ?side4 A47.out).mono ?_
         (case side1 => repeat (first | exact (Kd.C_below HR179_1.out HB.out) | (with_reducible refine Kd.C_alloc ?_ _) | (with_reducible refine Kd.C_drewN ?_ _) | (with_reducible refine Kd.C_drew ?_)))
         (case side2 => exact HC179_1.out)
         (case side3 => repeat (first | exact (Kd.C_below HR3_1.out HB.out) | (with_reducible refine Kd.C_alloc ?_ _) | (with_reducible refine Kd.C_drewN ?_ _) | (with_reducible refine Kd.C_drew ?_)))
         (case side4 => exact HC3_1.out)
         rintro e w50 ⟨rfl, hb⟩
         refine ⟨_, rfl, ?_⟩
         have n0_ := Aside0.mk (Kd.R_below (by (with_reducible repeat (first | apply Kd.R_alloc | apply Kd.R_drewN | apply Kd.R_drew)); exact HO_171001.out) hb)
         have n1_ := Aside0.mk (Kd.V_below (by (with_reducible repeat (first | apply Kd.V_alloc | apply Kd.V_drewN | apply Kd.V_drew)); exact HO_177001.out) hb)
         have n2_ := Aside0.mk (blk_below (g := gb158) (o := .cells #[.int .i64 a2_0, .slice A2_1 l2_1.length c2_1, .int .i64 a2_2, .int .i64 a2_3, .slice A2_4 l2_4.length c2_4, .int .i64 a2_5, .bool a2_6, .bool a2_7, .int .i64 a2_8, .int .u16 a2_9, .slice A2_10 l2_10.length c2_10, .slice A2_11 l2_11.length c2_11, .slice A2_12 l2_12.length c2_12, .slice A2_13 l2_13.length c2_13, .slice A2_14 l2_14.length c2_14, .int .i64 a2_15] 57 (0, 0)) (by (with_reducible repeat (first | refine blk_drewN ?_ _ | refine blk_drew ?_ | refine blk_alloc ?_ _)); exact BK158.out) hb)
         have n3_ := Aside0.mk (blk_below (g := gb159) (o := .cells #[.string a3_0, .slice A3_1 l3_1.length c3_1] 43 (0, 0)) (by (with_reducible repeat (first | refine blk_drewN ?_ _ | refine blk_drew ?_ | refine blk_alloc ?_ _)); exact BK159.out) hb)
         have n4_ := Aside0.mk (blk_below (g := gb170) (o := .cells #[.string t165, .slice Ao33 t166.length co33] 43 (0, 0)) (by (with_reducible repeat (first | refine blk_drewN ?_ _ | refine blk_drew ?_ | refine blk_alloc ?_ _)); exact BK170.out) hb)
         have n5_ := Aside0.mk (blk_below (g := gb176) (o := .cells #[.string t171, .slice Ao42 t172.length co42] 43 (0, 0)) (by (with_reducible repeat (first | refine blk_drewN ?_ _ | refine blk_drew ?_ | refine blk_alloc ?_ _)); exact BK176.out) hb)
         have n6_ := Aside0.mk (below_step (by repeat (first | (with_reducible first | exact HB.out | apply below_alloc | apply pw_below_drewN | apply below_drew1 | refine below_set ?_ GE158.out | refine below_set ?_ GE159.out | refine below_set ?_ GE170.out | refine below_set ?_ GE176.out) | exact HB.out)) hb)
         clear HO_171001
         clear HO_177001
         clear BK158
         clear BK159
         clear BK170
         clear BK176
         clear HB
         have HO_171001 := n0_
         have HO_177001 := n1_
         have BK158 := n2_
         have BK159 := n3_
         have BK170 := n4_
         have BK176 := n5_
         have HB := n6_
         clear n0_ n1_ n2_ n3_ n4_ n5_ n6_
         (try clear hb)
         (try clear hb2)
         (try clear hk)
         (try clear hi)
         refine hK.out _ _ ⟨(blk_cell BK159.out 0).trans rfl, (blk_cell BK159.out 1).trans rfl, ((HB.out.cell (World.block_lt_of_cell? w _ hw177_0)).trans hw177_0), ((HB.out.cell (World.block_lt_of_cell? w _ hw177_1)).trans hw177_1), ((HB.out.cell (World.block_lt_of_cell? w _ hw177_2)).trans hw177_2), ((HB.out.cell (World.block_lt_of_cell? w _ hw179_0)).trans hw179_0), ((HB.out.cell (World.block_lt_of_cell? w _ hw179_1)).trans hw179_1), ((HB.out.cell (World.block_lt_of_cell? w _ hw179_2)).trans hw179_2)⟩ (fun hHeld => ?_)
         clear hK K
         refine norm_ (a' := ?_) ?_ ?_
         rotate_left
         ·show Act.put _ (some 91) _ = _
          simp only [Act.put, List.setIfInBounds_toArray, List.set_cons_zero, List.set_cons_succ, i64_w, i32_w]
          rfl
         refine pure_ (i := 16) (N := some 92) (v := ?_) (a' := ?_) #[true, true, true, true, true, true, true, true, true, true, true, true, true, true, true, true, true, false, false] rfl rfl (any_of HT_.out (by kernel_rfl)) (fun _ _ _ h => h) (Or.inl ⟨by rfl, ?_⟩) ?_ ?_
         rotate_left
         ·intro w'
          go_simp
          with_reducible rfl
         rotate_left
         ·simp only [Act.put, List.setIfInBounds_toArray, List.set_cons_zero, List.set_cons_succ, i64_w, i32_w]
          rfl
         refine pure_ (i := 17) (N := some 93) (v := ?_) (a' := ?_) #[true, true, true, true, true, true, true, true, true, true, true, true, true, true, true, true, true, true, false] rfl rfl (any_of HT_.out (by kernel_rfl)) (fun _ _ _ h => h) (Or.inl ⟨by rfl, ?_⟩) ?_ ?_
         rotate_left
         ·intro w'
          go_simp
          with_reducible rfl
         rotate_left
         ·simp only [Act.put, List.setIfInBounds_toArray, List.set_cons_zero, List.set_cons_succ, i64_w, i32_w]
          rfl
         refine pure_ (i := 18) (N := some 18) (v := ?_) (a' := ?_) #[true, true, true, true, true, true, true, true, true, true, true, true, true, true, true, true, true, true, true] rfl rfl (any_of HT_.out (by kernel_rfl)) (fun _ _ _ h => h) (Or.inl ⟨by rfl, ?_⟩) ?_ ?_
         rotate_left
         ·intro w'
          go_simp
          with_reducible rfl
         rotate_left
         ·simp only [Act.put, List.setIfInBounds_toArray, List.set_cons_zero, List.set_cons_succ, i64_w, i32_w]
          rfl
         refine done_ (done_of HT_.out (by kernel_rfl)) ?_
         try go_wp2
         go_roundg k2
         case measure => have := HJ5.out; have := HK2.out; omega
         case rel => exact ⟨((t178 == t180)), (wrap64 (x19_2 + 1)), (by first | rfl | (simp; done) | (simp [*]; done)), (by first | rfl | (simp; done) | (simp [*]; done)), H', ⟨by have := HJ5.out; have := HK2.out; omega⟩, ⟨by (with_reducible repeat (first | apply Kd.R_alloc | apply Kd.R_drewN | apply Kd.R_drew)); exact HO_171001.out⟩, ⟨by (with_reducible repeat (first | apply Kd.V_alloc | apply Kd.V_drewN | apply Kd.V_drew)); exact HO_177001.out⟩, ⟨by (with_reducible repeat (first | refine blk_drewN ?_ _ | refine blk_drew ?_ | refine blk_alloc ?_ _)); exact BK158.out⟩, ⟨by (with_reducible repeat (first | refine blk_drewN ?_ _ | refine blk_drew ?_ | refine blk_alloc ?_ _)); exact BK159.out⟩, ⟨by (with_reducible repeat (first | refine blk_drewN ?_ _ | refine blk_drew ?_ | refine blk_alloc ?_ _)); exact BK170.out⟩, ⟨by (with_reducible repeat (first | refine blk_drewN ?_ _ | refine blk_drew ?_ | refine blk_alloc ?_ _)); exact BK176.out⟩, ⟨by repeat (first | (with_reducible first | exact HB.out | apply below_alloc | apply pw_below_drewN | apply below_drew1 | refine below_set ?_ GE158.out | refine below_set ?_ GE159.out | refine below_set ?_ GE170.out | refine below_set ?_ GE176.out) | exact HB.out)⟩⟩
        ·rw [if_neg c45] at H
         exact absurd H (by simp)
       ·as_aux_lemma =>
        replace c44 := Bool.eq_false_iff.mpr c44
        subst c44
        have H1 : (warderlaw21_PrincsTell.l0 k2 l1 t160 t161 t162 t163 t164 t169 t175 false (wrap64 (x19_2 + 1)) a2_0 l2_1 a2_2 a2_3 l2_4 a2_5 a2_6 a2_7 a2_8 a2_9 l2_10 l2_11 l2_12 l2_13 l2_14 a2_15 a3_0 l3_1 t165 t166 t171 t172) = some r := by rw [if_neg (show ¬ (false = true) by decide)] at H; exact H
        clear H
        have H := H1
        clear H1
        have H' := Aside0.mk H
        clear H
        try go_wp2
        have n0_ := Aside0.mk (Kd.R_drew HO_171001.out)
        have n1_ := Aside0.mk (Kd.V_drew HO_177001.out)
        have n2_ := Aside0.mk (blk_drew BK158.out)
        have n3_ := Aside0.mk (blk_drew BK159.out)
        have n4_ := Aside0.mk (blk_drew BK170.out)
        have n5_ := Aside0.mk (blk_drew BK176.out)
        have n6_ := Aside0.mk (below_drew1 HB.out)
        clear HO_171001
        clear HO_177001
        clear BK158
        clear BK159
        clear BK170
        clear BK176
        clear HB
        have HO_171001 := n0_
        have HO_177001 := n1_
        have BK158 := n2_
        have BK159 := n3_
        have BK170 := n4_
        have BK176 := n5_
        have HB := n6_
        clear n0_ n1_ n2_ n3_ n4_ n5_ n6_
        refine start_ (n := 19) (S := fun w' => True) (ds := []) #[false, false, false, false, false, false, false, false, false, false, false, false, false, false, false, false, false, false, false] (by kernel_rfl) rfl rfl trivial (fun hHeld => ?_); refine with_tabW warderlaw21_PrincsTell.tab12 warderlaw21_PrincsTell.bits12 (fun HT_ HW_ => ?_)
        generalize wr.drew = w51 at HO_171001 HO_177001 BK158 BK159 BK170 BK176 HB hHeld ⊢
        refine pure_ (i := 0) (N := some 76) (v := ?_) (a' := ?_) #[true, false, false, false, false, false, false, false, false, false, false, false, false, false, false, false, false, false, false] rfl rfl (any_of HT_.out (by kernel_rfl)) (fun _ _ _ h => h) (Or.inl ⟨by rfl, ?_⟩) ?_ ?_
        rotate_left
        ·intro w'
         go_simp
         with_reducible rfl
        rotate_left
        ·simp only [Act.put, List.setIfInBounds_toArray, List.set_cons_zero, List.set_cons_succ, i64_w, i32_w]
         rfl
        refine pure_ (i := 1) (N := some 77) (v := ?_) (a' := ?_) #[true, true, false, false, false, false, false, false, false, false, false, false, false, false, false, false, false, false, false] rfl rfl (any_of HT_.out (by kernel_rfl)) (fun _ _ _ h => h) (Or.inl ⟨by rfl, ?_⟩) ?_ ?_
        rotate_left
        ·intro w'
         go_simp
         with_reducible rfl
        rotate_left
        ·simp only [Act.put, List.setIfInBounds_toArray, List.set_cons_zero, List.set_cons_succ, i64_w, i32_w]
         rfl
        refine pure_ (i := 2) (N := some 78) (v := undef) (a' := ?_) #[true, true, true, false, false, false, false, false, false, false, false, false, false, false, false, false, false, false, false] rfl rfl (any_of HT_.out (by kernel_rfl)) (fun _ _ _ h => h) (Or.inr ⟨by rfl, rfl⟩) ?_ ?_
        rotate_left
        ·simp only [Act.put, List.setIfInBounds_toArray, List.set_cons_zero, List.set_cons_succ, i64_w, i32_w]
         rfl
        refine pure_ (i := 3) (N := some 79) (v := undef) (a' := ?_) #[true, true, true, true, false, false, false, false, false, false, false, false, false, false, false, false, false, false, false] rfl rfl (any_of HT_.out (by kernel_rfl)) (fun _ _ _ h => h) (Or.inr ⟨by rfl, rfl⟩) ?_ ?_
        rotate_left
        ·simp only [Act.put, List.setIfInBounds_toArray, List.set_cons_zero, List.set_cons_succ, i64_w, i32_w]
         rfl
        refine pure_ (i := 4) (N := some 80) (v := undef) (a' := ?_) #[true, true, true, true, true, false, false, false, false, false, false, false, false, false, false, false, false, false, false] rfl rfl (any_of HT_.out (by kernel_rfl)) (fun _ _ _ h => h) (Or.inr ⟨by rfl, rfl⟩) ?_ ?_
        rotate_left
        ·simp only [Act.put, List.setIfInBounds_toArray, List.set_cons_zero, List.set_cons_succ, i64_w, i32_w]
         rfl
        refine pure_ (i := 5) (N := some 81) (v := undef) (a' := ?_) #[true, true, true, true, true, true, false, false, false, false, false, false, false, false, false, false, false, false, false] rfl rfl (any_of HT_.out (by kernel_rfl)) (fun _ _ _ h => h) (Or.inr ⟨by rfl, rfl⟩) ?_ ?_
        rotate_left
        ·simp only [Act.put, List.setIfInBounds_toArray, List.set_cons_zero, List.set_cons_succ, i64_w, i32_w]
         rfl
        refine pure_ (i := 6) (N := some 82) (v := undef) (a' := ?_) #[true, true, true, true, true, true, true, false, false, false, false, false, false, false, false, false, false, false, false] rfl rfl (any_of HT_.out (by kernel_rfl)) (fun _ _ _ h => h) (Or.inr ⟨by rfl, rfl⟩) ?_ ?_
        rotate_left
        ·simp only [Act.put, List.setIfInBounds_toArray, List.set_cons_zero, List.set_cons_succ, i64_w, i32_w]
         rfl
        refine pure_ (i := 7) (N := some 83) (v := undef) (a' := ?_) #[true, true, true, true, true, true, true, true, false, false, false, false, false, false, false, false, false, false, false] rfl rfl (any_of HT_.out (by kernel_rfl)) (fun _ _ _ h => h) (Or.inr ⟨by rfl, rfl⟩) ?_ ?_
        rotate_left
        ·simp only [Act.put, List.setIfInBounds_toArray, List.set_cons_zero, List.set_cons_succ, i64_w, i32_w]
         rfl
        refine pure_ (i := 8) (N := some 84) (v := undef) (a' := ?_) #[true, true, true, true, true, true, true, true, true, false, false, false, false, false, false, false, false, false, false] rfl rfl (any_of HT_.out (by kernel_rfl)) (fun _ _ _ h => h) (Or.inr ⟨by rfl, rfl⟩) ?_ ?_
        rotate_left
        ·simp only [Act.put, List.setIfInBounds_toArray, List.set_cons_zero, List.set_cons_succ, i64_w, i32_w]
         rfl
        refine pure_ (i := 9) (N := some 85) (v := undef) (a' := ?_) #[true, true, true, true, true, true, true, true, true, true, false, false, false, false, false, false, false, false, false] rfl rfl (any_of HT_.out (by kernel_rfl)) (fun _ _ _ h => h) (Or.inr ⟨by rfl, rfl⟩) ?_ ?_
        rotate_left
        ·simp only [Act.put, List.setIfInBounds_toArray, List.set_cons_zero, List.set_cons_succ, i64_w, i32_w]
         rfl
        refine pure_ (i := 10) (N := some 86) (v := undef) (a' := ?_) #[true, true, true, true, true, true, true, true, true, true, true, false, false, false, false, false, false, false, false] rfl rfl (any_of HT_.out (by kernel_rfl)) (fun _ _ _ h => h) (Or.inr ⟨by rfl, rfl⟩) ?_ ?_
        rotate_left
        ·simp only [Act.put, List.setIfInBounds_toArray, List.set_cons_zero, List.set_cons_succ, i64_w, i32_w]
         rfl
        refine pure_ (i := 11) (N := some 87) (v := undef) (a' := ?_) #[true, true, true, true, true, true, true, true, true, true, true, true, false, false, false, false, false, false, false] rfl rfl (any_of HT_.out (by kernel_rfl)) (fun _ _ _ h => h) (Or.inr ⟨by rfl, rfl⟩) ?_ ?_
        rotate_left
        ·simp only [Act.put, List.setIfInBounds_toArray, List.set_cons_zero, List.set_cons_succ, i64_w, i32_w]
         rfl
        refine pure_ (i := 12) (N := some 88) (v := undef) (a' := ?_) #[true, true, true, true, true, true, true, true, true, true, true, true, true, false, false, false, false, false, false] rfl rfl (any_of HT_.out (by kernel_rfl)) (fun _ _ _ h => h) (Or.inr ⟨by rfl, rfl⟩) ?_ ?_
        rotate_left
        ·simp only [Act.put, List.setIfInBounds_toArray, List.set_cons_zero, List.set_cons_succ, i64_w, i32_w]
         rfl
        refine pure_ (i := 13) (N := some 89) (v := undef) (a' := ?_) #[true, true, true, true, true, true, true, true, true, true, true, true, true, true, false, false, false, false, false] rfl rfl (any_of HT_.out (by kernel_rfl)) (fun _ _ _ h => h) (Or.inr ⟨by rfl, rfl⟩) ?_ ?_
        rotate_left
        ·simp only [Act.put, List.setIfInBounds_toArray, List.set_cons_zero, List.set_cons_succ, i64_w, i32_w]
         rfl
        refine pure_ (i := 14) (N := some 90) (v := undef) (a' := ?_) #[true, true, true, true, true, true, true, true, true, true, true, true, true, true, true, false, false, false, false] rfl rfl (any_of HT_.out (by kernel_rfl)) (fun _ _ _ h => h) (Or.inr ⟨by rfl, rfl⟩) ?_ ?_
        rotate_left
        ·simp only [Act.put, List.setIfInBounds_toArray, List.set_cons_zero, List.set_cons_succ, i64_w, i32_w]
         rfl
        refine pure_ (i := 15) (N := some 91) (v := undef) (a' := ?_) #[true, true, true, true, true, true, true, true, true, true, true, true, true, true, true, true, false, false, false] rfl rfl (any_of HT_.out (by kernel_rfl)) (fun _ _ _ h => h) (Or.inr ⟨by rfl, rfl⟩) ?_ ?_
        rotate_left
        ·simp only [Act.put, List.setIfInBounds_toArray, List.set_cons_zero, List.set_cons_succ, i64_w, i32_w]
         rfl
        refine pure_ (i := 16) (N := some 92) (v := undef) (a' := ?_) #[true, true, true, true, true, true, true, true, true, true, true, true, true, true, true, true, true, false, false] rfl rfl (any_of HT_.out (by kernel_rfl)) (fun _ _ _ h => h) (Or.inr ⟨by rfl, rfl⟩) ?_ ?_
        rotate_left
        ·simp only [Act.put, List.setIfInBounds_toArray, List.set_cons_zero, List.set_cons_succ, i64_w, i32_w]
         rfl
        refine pure_ (i := 17) (N := some 93) (v := ?_) (a' := ?_) #[true, true, true, true, true, true, true, true, true, true, true, true, true, true, true, true, true, true, false] rfl rfl (any_of HT_.out (by kernel_rfl)) (fun _ _ _ h => h) (Or.inl ⟨by rfl, ?_⟩) ?_ ?_
        rotate_left
        ·intro w'
         go_simp
         with_reducible rfl
        rotate_left
        ·simp only [Act.put, List.setIfInBounds_toArray, List.set_cons_zero, List.set_cons_succ, i64_w, i32_w]
         rfl
        refine pure_ (i := 18) (N := some 18) (v := ?_) (a' := ?_) #[true, true, true, true, true, true, true, true, true, true, true, true, true, true, true, true, true, true, true] rfl rfl (any_of HT_.out (by kernel_rfl)) (fun _ _ _ h => h) (Or.inl ⟨by rfl, ?_⟩) ?_ ?_
        rotate_left
        ·intro w'
         go_simp
         with_reducible rfl
        rotate_left
        ·simp only [Act.put, List.setIfInBounds_toArray, List.set_cons_zero, List.set_cons_succ, i64_w, i32_w]
         rfl
        refine done_ (done_of HT_.out (by kernel_rfl)) ?_
        try go_wp2
        go_roundg k2
        case measure => have := HJ5.out; have := HK2.out; omega
        case rel => exact ⟨(false), (wrap64 (x19_2 + 1)), (by first | rfl | (simp; done) | (simp [*]; done)), (by first | rfl | (simp; done) | (simp [*]; done)), H', ⟨by have := HJ5.out; have := HK2.out; omega⟩, ⟨by (with_reducible repeat (first | apply Kd.R_alloc | apply Kd.R_drewN | apply Kd.R_drew)); exact HO_171001.out⟩, ⟨by (with_reducible repeat (first | apply Kd.V_alloc | apply Kd.V_drewN | apply Kd.V_drew)); exact HO_177001.out⟩, ⟨by (with_reducible repeat (first | refine blk_drewN ?_ _ | refine blk_drew ?_ | refine blk_alloc ?_ _)); exact BK158.out⟩, ⟨by (with_reducible repeat (first | refine blk_drewN ?_ _ | refine blk_drew ?_ | refine blk_alloc ?_ _)); exact BK159.out⟩, ⟨by (with_reducible repeat (first | refine blk_drewN ?_ _ | refine blk_drew ?_ | refine blk_alloc ?_ _)); exact BK170.out⟩, ⟨by (with_reducible repeat (first | refine blk_drewN ?_ _ | refine blk_drew ?_ | refine blk_alloc ?_ _)); exact BK176.out⟩, ⟨by repeat (first | (with_reducible first | exact HB.out | apply below_alloc | apply pw_below_drewN | apply below_drew1 | refine below_set ?_ GE158.out | refine below_set ?_ GE159.out | refine below_set ?_ GE170.out | refine below_set ?_ GE176.out) | exact HB.out)⟩⟩
      ·as_aux_lemma =>
       rw [if_neg c43] at H
       have c43b0 : decide (x19_2 < (l1.length : Int)) = false := decide_eq_false c43
       clear c43
       by_cases c52 : t160 = true
       ·as_aux_lemma =>
        subst c52
        have H1 : (if x18_2 = true then (if t161 = t163 then (if (t162 == t164) = true then ((warderref09_AlikePrinc.f k2 t165 t166 t171 t172).bind fun t181 => (if t181 = true then (if t169 = t175 then ((princs_Kdc.f a2_0 l2_1 a2_2 a2_3 l2_4 a2_5 a2_6 a2_7 a2_8 a2_9 l2_10 l2_11 l2_12 l2_13 l2_14 a2_15 a3_0 l3_1).bind fun t182 => ((warderref21_Kdc.f k2 a2_0 l2_1 a2_2 a2_3 l2_4 a2_5 a2_6 a2_7 a2_8 a2_9 l2_10 l2_11 l2_12 l2_13 l2_14 a2_15 a3_0 l3_1).bind fun t183 => (some (t182 == t183)))) else (some false)) else (some false))) else (some false)) else (some false)) else (some false)) = some r := by rw [if_pos rfl] at H; exact H
        clear H
        have H := H1
        clear H1
        by_cases c53 : x18_2 = true
        ·as_aux_lemma =>
         subst c53
         have H1 : (if t161 = t163 then (if (t162 == t164) = true then ((warderref09_AlikePrinc.f k2 t165 t166 t171 t172).bind fun t181 => (if t181 = true then (if t169 = t175 then ((princs_Kdc.f a2_0 l2_1 a2_2 a2_3 l2_4 a2_5 a2_6 a2_7 a2_8 a2_9 l2_10 l2_11 l2_12 l2_13 l2_14 a2_15 a3_0 l3_1).bind fun t182 => ((warderref21_Kdc.f k2 a2_0 l2_1 a2_2 a2_3 l2_4 a2_5 a2_6 a2_7 a2_8 a2_9 l2_10 l2_11 l2_12 l2_13 l2_14 a2_15 a3_0 l3_1).bind fun t183 => (some (t182 == t183)))) else (some false)) else (some false))) else (some false)) else (some false)) = some r := by rw [if_pos rfl] at H; exact H
         clear H
         have H := H1
         clear H1
         by_cases c54 : t161 = t163
         ·as_aux_lemma =>
          rw [if_pos c54] at H
          have c54b0 : (t161 == t163) = true := beq_iff_eq.mpr c54
          have c54b1 : (t161 != t163) = false := bne_eq_false_iff_eq.mpr c54
          clear c54
          by_cases c55 : (t162 == t164) = true
          ·as_aux_lemma =>
           rw [if_pos c55] at H
           have c55b0 : (t162 == t164) = true := c55
           (try (have c55b1 : decide (t162 = t164) = true := by simpa using c55))
           (try (have c55b2 : (t162 == t164) = true := by simpa using c55))
           clear c55
           replace H := Option.bind_eq_some_iff.mp H
           obtain ⟨t181, A560, H⟩ := H
           replace H : (if t181 = true then (if t169 = t175 then ((princs_Kdc.f a2_0 l2_1 a2_2 a2_3 l2_4 a2_5 a2_6 a2_7 a2_8 a2_9 l2_10 l2_11 l2_12 l2_13 l2_14 a2_15 a3_0 l3_1).bind fun t182 => ((warderref21_Kdc.f k2 a2_0 l2_1 a2_2 a2_3 l2_4 a2_5 a2_6 a2_7 a2_8 a2_9 l2_10 l2_11 l2_12 l2_13 l2_14 a2_15 a3_0 l3_1).bind fun t183 => (some (t182 == t183)))) else (some false)) else (some false)) = some r := H
           have A56 := Aside0.mk A560
           clear A560
           by_cases c57 : t181 = true
           ·as_aux_lemma =>
            subst c57
            have H1 : (if t169 = t175 then ((princs_Kdc.f a2_0 l2_1 a2_2 a2_3 l2_4 a2_5 a2_6 a2_7 a2_8 a2_9 l2_10 l2_11 l2_12 l2_13 l2_14 a2_15 a3_0 l3_1).bind fun t182 => ((warderref21_Kdc.f k2 a2_0 l2_1 a2_2 a2_3 l2_4 a2_5 a2_6 a2_7 a2_8 a2_9 l2_10 l2_11 l2_12 l2_13 l2_14 a2_15 a3_0 l3_1).bind fun t183 => (some (t182 == t183)))) else (some false)) = some r := by rw [if_pos rfl] at H; exact H
            clear H
            have H := H1
            clear H1
            by_cases c58 : t169 = t175
            ·as_aux_lemma =>
             rw [if_pos c58] at H
             have c58b0 : (t169 == t175) = true := beq_iff_eq.mpr c58
             have c58b1 : (t169 != t175) = false := bne_eq_false_iff_eq.mpr c58
             clear c58
             replace H := Option.bind_eq_some_iff.mp H
             obtain ⟨t182, A590, H⟩ := H
             replace H : ((warderref21_Kdc.f k2 a2_0 l2_1 a2_2 a2_3 l2_4 a2_5 a2_6 a2_7 a2_8 a2_9 l2_10 l2_11 l2_12 l2_13 l2_14 a2_15 a3_0 l3_1).bind fun t183 => (some (t182 == t183))) = some r := H
             have A59 := Aside0.mk A590
             clear A590
             replace H := Option.bind_eq_some_iff.mp H
             obtain ⟨t183, A600, H⟩ := H
             replace H : (some (t182 == t183)) = some r := H
             have A60 := Aside0.mk A600
             clear A600
             obtain rfl := Option.some.inj H
             try go_wp2
             have n0_ := Aside0.mk (Kd.R_drew HO_171001.out)
             have n1_ := Aside0.mk (Kd.V_drew HO_177001.out)
             have n2_ := Aside0.mk (blk_drew BK158.out)
             have n3_ := Aside0.mk (blk_drew BK159.out)
             have n4_ := Aside0.mk (blk_drew BK170.out)
             have n5_ := Aside0.mk (blk_drew BK176.out)
             have n6_ := Aside0.mk (below_drew1 HB.out)
             clear HO_171001
             clear HO_177001
             clear BK158
             clear BK159
             clear BK170
             clear BK176
             clear HB
             have HO_171001 := n0_
             have HO_177001 := n1_
             have BK158 := n2_
             have BK159 := n3_
             have BK170 := n4_
             have BK176 := n5_
             have HB := n6_
             clear n0_ n1_ n2_ n3_ n4_ n5_ n6_
             refine start_ (n := 34) (S := fun w' => w'.cell? ⟨gb170, 0, none⟩ = some (.string t165) ∧ w'.cell? ⟨gb170, 1, none⟩ = some (.slice Ao33 t166.length co33) ∧ w'.cell? ⟨gb176, 0, none⟩ = some (.string t171) ∧ w'.cell? ⟨gb176, 1, none⟩ = some (.slice Ao42 t172.length co42) ∧ w'.cell? ⟨gb158, 0, none⟩ = some (.int .i64 a2_0) ∧ w'.cell? ⟨gb158, 1, none⟩ = some (.slice A2_1 l2_1.length c2_1) ∧ w'.cell? ⟨gb158, 2, none⟩ = some (.int .i64 a2_2) ∧ w'.cell? ⟨gb158, 3, none⟩ = some (.int .i64 a2_3) ∧ w'.cell? ⟨gb158, 4, none⟩ = some (.slice A2_4 l2_4.length c2_4) ∧ w'.cell? ⟨gb158, 5, none⟩ = some (.int .i64 a2_5) ∧ w'.cell? ⟨gb158, 6, none⟩ = some (.bool a2_6) ∧ w'.cell? ⟨gb158, 7, none⟩ = some (.bool a2_7) ∧ w'.cell? ⟨gb158, 8, none⟩ = some (.int .i64 a2_8) ∧ w'.cell? ⟨gb158, 9, none⟩ = some (.int .u16 a2_9) ∧ w'.cell? ⟨gb158, 10, none⟩ = some (.slice A2_10 l2_10.length c2_10) ∧ w'.cell? ⟨gb158, 11, none⟩ = some (.slice A2_11 l2_11.length c2_11) ∧ w'.cell? ⟨gb158, 12, none⟩ = some (.slice A2_12 l2_12.length c2_12) ∧ w'.cell? ⟨gb158, 13, none⟩ = some (.slice A2_13 l2_13.length c2_13) ∧ w'.cell? ⟨gb158, 14, none⟩ = some (.slice A2_14 l2_14.length c2_14) ∧ w'.cell? ⟨gb158, 15, none⟩ = some (.int .i64 a2_15) ∧ w'.cell? ⟨gb159, 0, none⟩ = some (.string a3_0) ∧ w'.cell? ⟨gb159, 1, none⟩ = some (.slice A3_1 l3_1.length c3_1)) (ds := []) #[false, false, false, false, false, false, false, false, false, false, false, false, false, false, false, false, false, false, false, false, false, false, false, false, false, false, false, false, false, false, false, false, false, false] (by kernel_rfl) rfl rfl ⟨(blk_cell BK170.out 0).trans rfl, (blk_cell BK170.out 1).trans rfl, (blk_cell BK176.out 0).trans rfl, (blk_cell BK176.out 1).trans rfl, (blk_cell BK158.out 0).trans rfl, (blk_cell BK158.out 1).trans rfl, (blk_cell BK158.out 2).trans rfl, (blk_cell BK158.out 3).trans rfl, (blk_cell BK158.out 4).trans rfl, (blk_cell BK158.out 5).trans rfl, (blk_cell BK158.out 6).trans rfl, (blk_cell BK158.out 7).trans rfl, (blk_cell BK158.out 8).trans rfl, (blk_cell BK158.out 9).trans rfl, (blk_cell BK158.out 10).trans rfl, (blk_cell BK158.out 11).trans rfl, (blk_cell BK158.out 12).trans rfl, (blk_cell BK158.out 13).trans rfl, (blk_cell BK158.out 14).trans rfl, (blk_cell BK158.out 15).trans rfl, (blk_cell BK159.out 0).trans rfl, (blk_cell BK159.out 1).trans rfl⟩ (fun hHeld => ?_); refine with_tabW warderlaw21_PrincsTell.tab13 warderlaw21_PrincsTell.bits13 (fun HT_ HW_ => ?_)
             generalize wr.drew = w61 at HO_171001 HO_177001 BK158 BK159 BK170 BK176 HB hHeld ⊢
             refine pure_ (i := 0) (N := some 94) (v := ?_) (a' := ?_) #[true, false, false, false, false, false, false, false, false, false, false, false, false, false, false, false, false, false, false, false, false, false, false, false, false, false, false, false, false, false, false, false, false, false] rfl rfl (any_of HT_.out (by kernel_rfl)) (fun _ _ _ h => h) (Or.inl ⟨by rfl, ?_⟩) ?_ ?_
             rotate_left
             ·intro w'
              go_simp
              with_reducible rfl
             rotate_left
             ·simp only [Act.put, List.setIfInBounds_toArray, List.set_cons_zero, List.set_cons_succ, i64_w, i32_w]
              rfl
             refine pure_ (i := 1) (N := some 95) (v := ?_) (a' := ?_) #[true, true, false, false, false, false, false, false, false, false, false, false, false, false, false, false, false, false, false, false, false, false, false, false, false, false, false, false, false, false, false, false, false, false] rfl rfl (any_of HT_.out (by kernel_rfl)) (fun _ _ _ h => h) (Or.inl ⟨by rfl, ?_⟩) ?_ ?_
             rotate_left
             ·intro w'
              go_simp
              with_reducible rfl
             rotate_left
             ·simp only [Act.put, List.setIfInBounds_toArray, List.set_cons_zero, List.set_cons_succ, i64_w, i32_w]
              rfl
             refine pure_ (i := 2) (N := some 96) (v := ?_) (a' := ?_) #[true, true, true, false, false, false, false, false, false, false, false, false, false, false, false, false, false, false, false, false, false, false, false, false, false, false, false, false, false, false, false, false, false, false] rfl rfl (any_of HT_.out (by kernel_rfl)) (fun _ _ _ h => h) (Or.inl ⟨by rfl, ?_⟩) ?_ ?_
             rotate_left
             ·intro w'
              go_simp
              with_reducible rfl
             rotate_left
             ·simp only [Act.put, List.setIfInBounds_toArray, List.set_cons_zero, List.set_cons_succ, i64_w, i32_w]
              rfl
             refine pure_ (i := 3) (N := some 97) (v := ?_) (a' := ?_) #[true, true, true, true, false, false, false, false, false, false, false, false, false, false, false, false, false, false, false, false, false, false, false, false, false, false, false, false, false, false, false, false, false, false] rfl rfl (any_of HT_.out (by kernel_rfl)) (fun _ _ _ h => h) (Or.inl ⟨by rfl, ?_⟩) ?_ ?_
             rotate_left
             ·intro w'
              go_simp
              with_reducible rfl
             rotate_left
             ·simp only [Act.put, List.setIfInBounds_toArray, List.set_cons_zero, List.set_cons_succ, i64_w, i32_w]
              rfl
             refine pure_ (i := 4) (N := some 98) (v := ?_) (a' := ?_) #[true, true, true, true, true, false, false, false, false, false, false, false, false, false, false, false, false, false, false, false, false, false, false, false, false, false, false, false, false, false, false, false, false, false] rfl rfl (any_of HT_.out (by kernel_rfl)) (fun _ _ _ h => h) (Or.inl ⟨by rfl, ?_⟩) ?_ ?_
             rotate_left
             ·intro w'
              go_simp
              with_reducible rfl
             rotate_left
             ·simp only [Act.put, List.setIfInBounds_toArray, List.set_cons_zero, List.set_cons_succ, i64_w, i32_w]
              rfl
             refine pure_ (i := 5) (N := some 99) (v := ?_) (a' := ?_) #[true, true, true, true, true, true, false, false, false, false, false, false, false, false, false, false, false, false, false, false, false, false, false, false, false, false, false, false, false, false, false, false, false, false] rfl rfl (any_of HT_.out (by kernel_rfl)) (fun _ _ _ h => h) (Or.inl ⟨by rfl, ?_⟩) ?_ ?_
             rotate_left
             ·intro w'
              go_simp
              with_reducible rfl
             rotate_left
             ·simp only [Act.put, List.setIfInBounds_toArray, List.set_cons_zero, List.set_cons_succ, i64_w, i32_w]
              rfl
             refine pure_ (i := 6) (N := some 100) (v := ?_) (a' := ?_) #[true, true, true, true, true, true, true, false, false, false, false, false, false, false, false, false, false, false, false, false, false, false, false, false, false, false, false, false, false, false, false, false, false, false] rfl rfl (any_of HT_.out (by kernel_rfl)) (fun _ _ _ h => h) (Or.inl ⟨by rfl, ?_⟩) ?_ ?_
             rotate_left
             ·intro w'
              go_simp
              with_reducible rfl
             rotate_left
             ·simp only [Act.put, List.setIfInBounds_toArray, List.set_cons_zero, List.set_cons_succ, i64_w, i32_w]
              rfl
             refine pure_ (i := 7) (N := some 101) (v := ?_) (a' := ?_) #[true, true, true, true, true, true, true, true, false, false, false, false, false, false, false, false, false, false, false, false, false, false, false, false, false, false, false, false, false, false, false, false, false, false] rfl rfl (any_of HT_.out (by kernel_rfl)) (fun _ _ _ h => h) (Or.inl ⟨by rfl, ?_⟩) ?_ ?_
             rotate_left
             ·intro w'
              go_simp
              with_reducible rfl
             rotate_left
             ·simp only [Act.put, List.setIfInBounds_toArray, List.set_cons_zero, List.set_cons_succ, i64_w, i32_w]
              rfl
             refine pure_ (i := 8) (N := some 102) (v := ?_) (a' := ?_) #[true, true, true, true, true, true, true, true, true, false, false, false, false, false, false, false, false, false, false, false, false, false, false, false, false, false, false, false, false, false, false, false, false, false] rfl rfl (any_of HT_.out (by kernel_rfl)) (fun _ _ _ h => h) (Or.inl ⟨by rfl, ?_⟩) ?_ ?_
             rotate_left
             ·intro w'
              go_simp
              with_reducible rfl
             rotate_left
             ·simp only [Act.put, List.setIfInBounds_toArray, List.set_cons_zero, List.set_cons_succ, i64_w, i32_w]
              rfl
             refine pure_ (i := 9) (N := some 103) (v := ?_) (a' := ?_) #[true, true, true, true, true, true, true, true, true, true, false, false, false, false, false, false, false, false, false, false, false, false, false, false, false, false, false, false, false, false, false, false, false, false] rfl rfl (any_of HT_.out (by kernel_rfl)) (fun _ _ _ h => h) (Or.inl ⟨by rfl, ?_⟩) ?_ ?_
             rotate_left
             ·intro w'
              go_simp
              with_reducible rfl
             rotate_left
             ·simp only [Act.put, List.setIfInBounds_toArray, List.set_cons_zero, List.set_cons_succ, i64_w, i32_w]
              rfl
             refine pure_ (i := 10) (N := some 104) (v := ?_) (a' := ?_) #[true, true, true, true, true, true, true, true, true, true, true, false, false, false, false, false, false, false, false, false, false, false, false, false, false, false, false, false, false, false, false, false, false, false] rfl rfl (any_of HT_.out (by kernel_rfl)) (fun _ _ _ h => h) (Or.inl ⟨by rfl, ?_⟩) ?_ ?_
             rotate_left
             ·intro w'
              go_simp
              with_reducible rfl
             rotate_left
             ·simp only [Act.put, List.setIfInBounds_toArray, List.set_cons_zero, List.set_cons_succ, i64_w, i32_w]
              rfl
             refine pure_ (i := 11) (N := some 105) (v := ?_) (a' := ?_) #[true, true, true, true, true, true, true, true, true, true, true, true, false, false, false, false, false, false, false, false, false, false, false, false, false, false, false, false, false, false, false, false, false, false] rfl rfl (any_of HT_.out (by kernel_rfl)) (fun _ _ _ h => h) (Or.inl ⟨by rfl, ?_⟩) ?_ ?_
             rotate_left
             ·intro w'
              go_simp
              with_reducible rfl
             rotate_left
             ·simp only [Act.put, List.setIfInBounds_toArray, List.set_cons_zero, List.set_cons_succ, i64_w, i32_w]
              rfl
             refine pure_ (i := 12) (N := some 106) (v := ?_) (a' := ?_) #[true, true, true, true, true, true, true, true, true, true, true, true, true, false, false, false, false, false, false, false, false, false, false, false, false, false, false, false, false, false, false, false, false, false] rfl rfl (any_of HT_.out (by kernel_rfl)) (fun _ _ _ h => h) (Or.inl ⟨by rfl, ?_⟩) ?_ ?_
             rotate_left
             ·intro w'
              go_simp
              with_reducible rfl
             rotate_left
             ·simp only [Act.put, List.setIfInBounds_toArray, List.set_cons_zero, List.set_cons_succ, i64_w, i32_w]
              rfl
             refine pure_ (i := 13) (N := some 107) (v := ?_) (a' := ?_) #[true, true, true, true, true, true, true, true, true, true, true, true, true, true, false, false, false, false, false, false, false, false, false, false, false, false, false, false, false, false, false, false, false, false] rfl rfl (any_of HT_.out (by kernel_rfl)) (fun _ _ _ h => h) (Or.inl ⟨by rfl, ?_⟩) ?_ ?_
             rotate_left
             ·intro w'
              go_simp
              with_reducible rfl
             rotate_left
             ·simp only [Act.put, List.setIfInBounds_toArray, List.set_cons_zero, List.set_cons_succ, i64_w, i32_w]
              rfl
             refine pure_ (i := 14) (N := some 108) (v := ?_) (a' := ?_) #[true, true, true, true, true, true, true, true, true, true, true, true, true, true, true, false, false, false, false, false, false, false, false, false, false, false, false, false, false, false, false, false, false, false] rfl rfl (any_of HT_.out (by kernel_rfl)) (fun _ _ _ h => h) (Or.inl ⟨by rfl, ?_⟩) ?_ ?_
             rotate_left
             ·intro w'
              go_simp
              with_reducible rfl
             rotate_left
             ·simp only [Act.put, List.setIfInBounds_toArray, List.set_cons_zero, List.set_cons_succ, i64_w, i32_w]
              rfl
             refine take_ (i := 15) (N := some 109) (v := ?_) (a' := ?_) #[true, true, true, true, true, true, true, true, true, true, true, true, true, true, true, true, false, false, false, false, false, false, false, false, false, false, false, false, false, false, false, false, false, false] rfl rfl (take_ofW HT_.out HW_.out (by kernel_rfl)) (fun _ _ _ h => h) (Or.inl ⟨by rfl, ?_⟩) hHeld ?_ ?_
             rotate_left
             ·rintro w' ⟨s0, s1, s2, s3, s4, s5, s6, s7, s8, s9, s10, s11, s12, s13, s14, s15, s16, s17, s18, s19, s20, s21⟩
              go_simp
              with_reducible rfl
             rotate_left
             ·simp only [Act.put, List.setIfInBounds_toArray, List.set_cons_zero, List.set_cons_succ, i64_w, i32_w]
              rfl
             refine take_ (i := 16) (N := some 110) (v := ?_) (a' := ?_) #[true, true, true, true, true, true, true, true, true, true, true, true, true, true, true, true, true, false, false, false, false, false, false, false, false, false, false, false, false, false, false, false, false, false] rfl rfl (take_ofW HT_.out HW_.out (by kernel_rfl)) (fun _ _ _ h => h) (Or.inl ⟨by rfl, ?_⟩) hHeld ?_ ?_
             rotate_left
             ·rintro w' ⟨s0, s1, s2, s3, s4, s5, s6, s7, s8, s9, s10, s11, s12, s13, s14, s15, s16, s17, s18, s19, s20, s21⟩
              go_simp
              with_reducible rfl
             rotate_left
             ·simp only [Act.put, List.setIfInBounds_toArray, List.set_cons_zero, List.set_cons_succ, i64_w, i32_w]
              rfl
             refine one_ (i := 17) (N := some 111) #[true, true, true, true, true, true, true, true, true, true, true, true, true, true, true, true, true, true, false, false, false, false, false, false, false, false, false, false, false, false, false, false, false, false] rfl rfl (one_of HT_.out (by kernel_rfl)) (by decide) (fun K hK => ?_)
             refine goes_ Try.func24 (by kernel_rfl) rfl #[.agg #[.string t165, .slice Ao33 t166.length co33], .agg #[.string t171, .slice Ao42 t172.length co42]] (by rfl) rfl rfl (by (try simp only [List.map_toArray, List.map_cons, List.map_nil]); first | done | rfl | (simp only [List.length_drop, List.length_take]; rfl)) ?_
             with_reducible refine (warderref09_AlikePrinc.calls k2 t165 _ _ t166 t171 _ _ t172 true _ ?side1 ?side2 ?side3 ?side4 A56.out).mono ?_
             (case side1 => repeat (first | exact (Kd.R_reads' HO_171001.out).2.2 | (with_reducible refine Kd.C_alloc ?_ _) | (with_reducible refine Kd.C_drewN ?_ _) | (with_reducible refine Kd.C_drew ?_)))
             (case side2 => exact (Kd.R_reads' HO_171001.out).2.1)
             (case side3 => repeat (first | exact (Kd.V_reads' HO_177001.out).2.2 | (with_reducible refine Kd.C_alloc ?_ _) | (with_reducible refine Kd.C_drewN ?_ _) | (with_reducible refine Kd.C_drew ?_)))
             (case side4 => exact (Kd.V_reads' HO_177001.out).2.1)
             rintro e w62 ⟨rfl, hb⟩
             refine ⟨_, rfl, ?_⟩
             have n0_ := Aside0.mk (Kd.R_below (by (with_reducible repeat (first | apply Kd.R_alloc | apply Kd.R_drewN | apply Kd.R_drew)); exact HO_171001.out) hb)
             have n1_ := Aside0.mk (Kd.V_below (by (with_reducible repeat (first | apply Kd.V_alloc | apply Kd.V_drewN | apply Kd.V_drew)); exact HO_177001.out) hb)
             have n2_ := Aside0.mk (blk_below (g := gb158) (o := .cells #[.int .i64 a2_0, .slice A2_1 l2_1.length c2_1, .int .i64 a2_2, .int .i64 a2_3, .slice A2_4 l2_4.length c2_4, .int .i64 a2_5, .bool a2_6, .bool a2_7, .int .i64 a2_8, .int .u16 a2_9, .slice A2_10 l2_10.length c2_10, .slice A2_11 l2_11.length c2_11, .slice A2_12 l2_12.length c2_12, .slice A2_13 l2_13.length c2_13, .slice A2_14 l2_14.length c2_14, .int .i64 a2_15] 57 (0, 0)) (by (with_reducible repeat (first | refine blk_drewN ?_ _ | refine blk_drew ?_ | refine blk_alloc ?_ _)); exact BK158.out) hb)
             have n3_ := Aside0.mk (blk_below (g := gb159) (o := .cells #[.string a3_0, .slice A3_1 l3_1.length c3_1] 43 (0, 0)) (by (with_reducible repeat (first | refine blk_drewN ?_ _ | refine blk_drew ?_ | refine blk_alloc ?_ _)); exact BK159.out) hb)
             have n4_ := Aside0.mk (blk_below (g := gb170) (o := .cells #[.string t165, .slice Ao33 t166.length co33] 43 (0, 0)) (by (with_reducible repeat (first | refine blk_drewN ?_ _ | refine blk_drew ?_ | refine blk_alloc ?_ _)); exact BK170.out) hb)
             have n5_ := Aside0.mk (blk_below (g := gb176) (o := .cells #[.string t171, .slice Ao42 t172.length co42] 43 (0, 0)) (by (with_reducible repeat (first | refine blk_drewN ?_ _ | refine blk_drew ?_ | refine blk_alloc ?_ _)); exact BK176.out) hb)
             have n6_ := Aside0.mk (below_step (by repeat (first | (with_reducible first | exact HB.out | apply below_alloc | apply pw_below_drewN | apply below_drew1 | refine below_set ?_ GE158.out | refine below_set ?_ GE159.out | refine below_set ?_ GE170.out | refine below_set ?_ GE176.out) | exact HB.out)) hb)
             clear HO_171001
             clear HO_177001
             clear BK158
             clear BK159
             clear BK170
             clear BK176
             clear HB
             have HO_171001 := n0_
             have HO_177001 := n1_
             have BK158 := n2_
             have BK159 := n3_
             have BK170 := n4_
             have BK176 := n5_
             have HB := n6_
             clear n0_ n1_ n2_ n3_ n4_ n5_ n6_
             (try clear hb)
             (try clear hb2)
             (try clear hk)
             (try clear hi)
             refine hK.out _ _ ⟨(blk_cell BK170.out 0).trans rfl, (blk_cell BK170.out 1).trans rfl, (blk_cell BK176.out 0).trans rfl, (blk_cell BK176.out 1).trans rfl, (blk_cell BK158.out 0).trans rfl, (blk_cell BK158.out 1).trans rfl, (blk_cell BK158.out 2).trans rfl, (blk_cell BK158.out 3).trans rfl, (blk_cell BK158.out 4).trans rfl, (blk_cell BK158.out 5).trans rfl, (blk_cell BK158.out 6).trans rfl, (blk_cell BK158.out 7).trans rfl, (blk_cell BK158.out 8).trans rfl, (blk_cell BK158.out 9).trans rfl, (blk_cell BK158.out 10).trans rfl, (blk_cell BK158.out 11).trans rfl, (blk_cell BK158.out 12).trans rfl, (blk_cell BK158.out 13).trans rfl, (blk_cell BK158.out 14).trans rfl, (blk_cell BK158.out 15).trans rfl, (blk_cell BK159.out 0).trans rfl, (blk_cell BK159.out 1).trans rfl⟩ (fun hHeld => ?_)
             clear hK K
             refine norm_ (a' := ?_) ?_ ?_
             rotate_left
             ·show Act.put _ (some 111) _ = _
              simp only [Act.put, List.setIfInBounds_toArray, List.set_cons_zero, List.set_cons_succ, i64_w, i32_w]
              rfl
             refine pure_ (i := 18) (N := some 112) (v := ?_) (a' := ?_) #[true, true, true, true, true, true, true, true, true, true, true, true, true, true, true, true, true, true, true, false, false, false, false, false, false, false, false, false, false, false, false, false, false, false] rfl rfl (any_of HT_.out (by kernel_rfl)) (fun _ _ _ h => h) (Or.inl ⟨by rfl, ?_⟩) ?_ ?_
             rotate_left
             ·intro w'
              go_simp
              with_reducible rfl
             rotate_left
             ·simp only [Act.put, List.setIfInBounds_toArray, List.set_cons_zero, List.set_cons_succ, i64_w, i32_w]
              rfl
             refine pure_ (i := 19) (N := some 113) (v := ?_) (a' := ?_) #[true, true, true, true, true, true, true, true, true, true, true, true, true, true, true, true, true, true, true, true, false, false, false, false, false, false, false, false, false, false, false, false, false, false] rfl rfl (any_of HT_.out (by kernel_rfl)) (fun _ _ _ h => h) (Or.inl ⟨by rfl, ?_⟩) ?_ ?_
             rotate_left
             ·intro w'
              go_simp
              with_reducible rfl
             rotate_left
             ·simp only [Act.put, List.setIfInBounds_toArray, List.set_cons_zero, List.set_cons_succ, i64_w, i32_w]
              rfl
             refine pure_ (i := 20) (N := some 114) (v := ?_) (a' := ?_) #[true, true, true, true, true, true, true, true, true, true, true, true, true, true, true, true, true, true, true, true, true, false, false, false, false, false, false, false, false, false, false, false, false, false] rfl rfl (any_of HT_.out (by kernel_rfl)) (fun _ _ _ h => h) (Or.inl ⟨by rfl, ?_⟩) ?_ ?_
             rotate_left
             ·intro w'
              go_simp
              with_reducible rfl
             rotate_left
             ·simp only [Act.put, List.setIfInBounds_toArray, List.set_cons_zero, List.set_cons_succ, i64_w, i32_w]
              rfl
             refine pure_ (i := 21) (N := some 115) (v := ?_) (a' := ?_) #[true, true, true, true, true, true, true, true, true, true, true, true, true, true, true, true, true, true, true, true, true, true, false, false, false, false, false, false, false, false, false, false, false, false] rfl rfl (any_of HT_.out (by kernel_rfl)) (fun _ _ _ h => h) (Or.inl ⟨by rfl, ?_⟩) ?_ ?_
             rotate_left
             ·intro w'
              go_simp
              with_reducible rfl
             rotate_left
             ·simp only [Act.put, List.setIfInBounds_toArray, List.set_cons_zero, List.set_cons_succ, i64_w, i32_w]
              rfl
             refine pure_ (i := 22) (N := some 116) (v := ?_) (a' := ?_) #[true, true, true, true, true, true, true, true, true, true, true, true, true, true, true, true, true, true, true, true, true, true, true, false, false, false, false, false, false, false, false, false, false, false] rfl rfl (any_of HT_.out (by kernel_rfl)) (fun _ _ _ h => h) (Or.inl ⟨by rfl, ?_⟩) ?_ ?_
             rotate_left
             ·intro w'
              go_simp
              with_reducible rfl
             rotate_left
             ·simp only [Act.put, List.setIfInBounds_toArray, List.set_cons_zero, List.set_cons_succ, i64_w, i32_w]
              rfl
             refine pure_ (i := 23) (N := some 117) (v := ?_) (a' := ?_) #[true, true, true, true, true, true, true, true, true, true, true, true, true, true, true, true, true, true, true, true, true, true, true, true, false, false, false, false, false, false, false, false, false, false] rfl rfl (any_of HT_.out (by kernel_rfl)) (fun _ _ _ h => h) (Or.inl ⟨by rfl, ?_⟩) ?_ ?_
             rotate_left
             ·intro w'
              go_simp
              with_reducible rfl
             rotate_left
             ·simp only [Act.put, List.setIfInBounds_toArray, List.set_cons_zero, List.set_cons_succ, i64_w, i32_w]
              rfl
             refine pure_ (i := 24) (N := some 118) (v := ?_) (a' := ?_) #[true, true, true, true, true, true, true, true, true, true, true, true, true, true, true, true, true, true, true, true, true, true, true, true, true, false, false, false, false, false, false, false, false, false] rfl rfl (any_of HT_.out (by kernel_rfl)) (fun _ _ _ h => h) (Or.inl ⟨by rfl, ?_⟩) ?_ ?_
             rotate_left
             ·intro w'
              go_simp
              with_reducible rfl
             rotate_left
             ·simp only [Act.put, List.setIfInBounds_toArray, List.set_cons_zero, List.set_cons_succ, i64_w, i32_w]
              rfl
             refine take_ (i := 25) (N := some 119) (v := ?_) (a' := ?_) #[true, true, true, true, true, true, true, true, true, true, true, true, true, true, true, true, true, true, true, true, true, true, true, true, true, true, false, false, false, false, false, false, false, false] rfl rfl (take_ofW HT_.out HW_.out (by kernel_rfl)) (fun _ _ _ h => h) (Or.inl ⟨by rfl, ?_⟩) hHeld ?_ ?_
             rotate_left
             ·rintro w' ⟨s0, s1, s2, s3, s4, s5, s6, s7, s8, s9, s10, s11, s12, s13, s14, s15, s16, s17, s18, s19, s20, s21⟩
              go_simp
              with_reducible rfl
             rotate_left
             ·simp only [Act.put, List.setIfInBounds_toArray, List.set_cons_zero, List.set_cons_succ, i64_w, i32_w]
              rfl
             refine take_ (i := 26) (N := some 120) (v := ?_) (a' := ?_) #[true, true, true, true, true, true, true, true, true, true, true, true, true, true, true, true, true, true, true, true, true, true, true, true, true, true, true, false, false, false, false, false, false, false] rfl rfl (take_ofW HT_.out HW_.out (by kernel_rfl)) (fun _ _ _ h => h) (Or.inl ⟨by rfl, ?_⟩) hHeld ?_ ?_
             rotate_left
             ·rintro w' ⟨s0, s1, s2, s3, s4, s5, s6, s7, s8, s9, s10, s11, s12, s13, s14, s15, s16, s17, s18, s19, s20, s21⟩
              go_simp
              with_reducible rfl
             rotate_left
             ·simp only [Act.put, List.setIfInBounds_toArray, List.set_cons_zero, List.set_cons_succ, i64_w, i32_w]
              rfl
             refine take_ (i := 28) (N := some 122) (v := ?_) (a' := ?_) #[true, true, true, true, true, true, true, true, true, true, true, true, true, true, true, true, true, true, true, true, true, true, true, true, true, true, true, false, true, false, false, false, false, false] rfl rfl (take_ofW HT_.out HW_.out (by kernel_rfl)) (fun _ _ _ h => h) (Or.inl ⟨by rfl, ?_⟩) hHeld ?_ ?_
             rotate_left
             ·rintro w' ⟨s0, s1, s2, s3, s4, s5, s6, s7, s8, s9, s10, s11, s12, s13, s14, s15, s16, s17, s18, s19, s20, s21⟩
              go_simp
              with_reducible rfl
             rotate_left
             ·simp only [Act.put, List.setIfInBounds_toArray, List.set_cons_zero, List.set_cons_succ, i64_w, i32_w]
              rfl
             refine take_ (i := 29) (N := some 123) (v := ?_) (a' := ?_) #[true, true, true, true, true, true, true, true, true, true, true, true, true, true, true, true, true, true, true, true, true, true, true, true, true, true, true, false, true, true, false, false, false, false] rfl rfl (take_ofW HT_.out HW_.out (by kernel_rfl)) (fun _ _ _ h => h) (Or.inl ⟨by rfl, ?_⟩) hHeld ?_ ?_
             rotate_left
             ·rintro w' ⟨s0, s1, s2, s3, s4, s5, s6, s7, s8, s9, s10, s11, s12, s13, s14, s15, s16, s17, s18, s19, s20, s21⟩
              go_simp
              with_reducible rfl
             rotate_left
             ·simp only [Act.put, List.setIfInBounds_toArray, List.set_cons_zero, List.set_cons_succ, i64_w, i32_w]
              rfl
             refine one_ (i := 27) (N := some 121) #[true, true, true, true, true, true, true, true, true, true, true, true, true, true, true, true, true, true, true, true, true, true, true, true, true, true, true, true, true, true, false, false, false, false] rfl rfl (one_of HT_.out (by kernel_rfl)) (by decide) (fun K hK => ?_)
             refine goes_ Try.func25 (by kernel_rfl) rfl #[.agg #[.int .i64 a2_0, .slice A2_1 l2_1.length c2_1, .int .i64 a2_2, .int .i64 a2_3, .slice A2_4 l2_4.length c2_4, .int .i64 a2_5, .bool a2_6, .bool a2_7, .int .i64 a2_8, .int .u16 a2_9, .slice A2_10 l2_10.length c2_10, .slice A2_11 l2_11.length c2_11, .slice A2_12 l2_12.length c2_12, .slice A2_13 l2_13.length c2_13, .slice A2_14 l2_14.length c2_14, .int .i64 a2_15], .agg #[.string a3_0, .slice A3_1 l3_1.length c3_1]] (by rfl) rfl rfl (by (try simp only [List.map_toArray, List.map_cons, List.map_nil]); first | done | rfl | (simp only [List.length_drop, List.length_take]; rfl)) ?_
             with_reducible refine (princs_Kdc.calls a2_0 _ _ l2_1 a2_2 a2_3 _ _ l2_4 a2_5 a2_6 a2_7 a2_8 a2_9 _ _ l2_10 _ _ l2_11 _ _ l2_12 _ _ l2_13 _ _ l2_14 a2_15 a3_0 _ _ l3_1 t182 _ ?side1 ?side2 ?side3 ?side4 ?side5 ?side6 ?side7 ?side8 ?side9 ?side10 ?side11 ?side12 ?side13 ?side14 ?side15 ?side16 A59.out).mono ?_
             (case side1 => repeat (first | exact (Kd.C_below HR2_1.out HB.out) | (with_reducible refine Kd.C_alloc ?_ _) | (with_reducible refine Kd.C_drewN ?_ _) | (with_reducible refine Kd.C_drew ?_)))
             (case side2 => exact HC2_1.out)
             (case side3 => repeat (first | exact (Kd.C_below HR2_4.out HB.out) | (with_reducible refine Kd.C_alloc ?_ _) | (with_reducible refine Kd.C_drewN ?_ _) | (with_reducible refine Kd.C_drew ?_)))
             (case side4 => exact HC2_4.out)
             (case side5 => repeat (first | exact (Kd.C_below HR2_10.out HB.out) | (with_reducible refine Kd.C_alloc ?_ _) | (with_reducible refine Kd.C_drewN ?_ _) | (with_reducible refine Kd.C_drew ?_)))
             (case side6 => exact HC2_10.out)
             (case side7 => repeat (first | exact (Kd.C_below HR2_11.out HB.out) | (with_reducible refine Kd.C_alloc ?_ _) | (with_reducible refine Kd.C_drewN ?_ _) | (with_reducible refine Kd.C_drew ?_)))
             (case side8 => exact HC2_11.out)
             (case side9 => repeat (first | exact (Kd.C_below HR2_12.out HB.out) | (with_reducible refine Kd.C_alloc ?_ _) | (with_reducible refine Kd.C_drewN ?_ _) | (with_reducible refine Kd.C_drew ?_)))
             (case side10 => exact HC2_12.out)
             (case side11 => repeat (first | exact (Kd.C_below HR2_13.out HB.out) | (with_reducible refine Kd.C_alloc ?_ _) | (with_reducible refine Kd.C_drewN ?_ _) | (with_reducible refine Kd.C_drew ?_)))
             (case side12 => exact HC2_13.out)
             (case side13 => repeat (first | exact (Kd.C_below HR2_14.out HB.out) | (with_reducible refine Kd.C_alloc ?_ _) | (with_reducible refine Kd.C_drewN ?_ _) | (with_reducible refine Kd.C_drew ?_)))
             (case side14 => exact HC2_14.out)
             (case side15 => repeat (first | exact (Kd.C_below HR3_1.out HB.out) | (with_reducible refine Kd.C_alloc ?_ _) | (with_reducible refine Kd.C_drewN ?_ _) | (with_reducible refine Kd.C_drew ?_)))
             (case side16 => exact HC3_1.out)
             rintro e w63 ⟨rfl, hb⟩
             refine ⟨_, rfl, ?_⟩
             have n0_ := Aside0.mk (Kd.R_below (by (with_reducible repeat (first | apply Kd.R_alloc | apply Kd.R_drewN | apply Kd.R_drew)); exact HO_171001.out) hb)
             have n1_ := Aside0.mk (Kd.V_below (by (with_reducible repeat (first | apply Kd.V_alloc | apply Kd.V_drewN | apply Kd.V_drew)); exact HO_177001.out) hb)
             have n2_ := Aside0.mk (blk_below (g := gb158) (o := .cells #[.int .i64 a2_0, .slice A2_1 l2_1.length c2_1, .int .i64 a2_2, .int .i64 a2_3, .slice A2_4 l2_4.length c2_4, .int .i64 a2_5, .bool a2_6, .bool a2_7, .int .i64 a2_8, .int .u16 a2_9, .slice A2_10 l2_10.length c2_10, .slice A2_11 l2_11.length c2_11, .slice A2_12 l2_12.length c2_12, .slice A2_13 l2_13.length c2_13, .slice A2_14 l2_14.length c2_14, .int .i64 a2_15] 57 (0, 0)) (by (with_reducible repeat (first | refine blk_drewN ?_ _ | refine blk_drew ?_ | refine blk_alloc ?_ _)); exact BK158.out) hb)
             have n3_ := Aside0.mk (blk_below (g := gb159) (o := .cells #[.string a3_0, .slice A3_1 l3_1.length c3_1] 43 (0, 0)) (by (with_reducible repeat (first | refine blk_drewN ?_ _ | refine blk_drew ?_ | refine blk_alloc ?_ _)); exact BK159.out) hb)
             have n4_ := Aside0.mk (blk_below (g := gb170) (o := .cells #[.string t165, .slice Ao33 t166.length co33] 43 (0, 0)) (by (with_reducible repeat (first | refine blk_drewN ?_ _ | refine blk_drew ?_ | refine blk_alloc ?_ _)); exact BK170.out) hb)
             have n5_ := Aside0.mk (blk_below (g := gb176) (o := .cells #[.string t171, .slice Ao42 t172.length co42] 43 (0, 0)) (by (with_reducible repeat (first | refine blk_drewN ?_ _ | refine blk_drew ?_ | refine blk_alloc ?_ _)); exact BK176.out) hb)
             have n6_ := Aside0.mk (below_step (by repeat (first | (with_reducible first | exact HB.out | apply below_alloc | apply pw_below_drewN | apply below_drew1 | refine below_set ?_ GE158.out | refine below_set ?_ GE159.out | refine below_set ?_ GE170.out | refine below_set ?_ GE176.out) | exact HB.out)) hb)
             clear HO_171001
             clear HO_177001
             clear BK158
             clear BK159
             clear BK170
             clear BK176
             clear HB
             have HO_171001 := n0_
             have HO_177001 := n1_
             have BK158 := n2_
             have BK159 := n3_
             have BK170 := n4_
             have BK176 := n5_
             have HB := n6_
             clear n0_ n1_ n2_ n3_ n4_ n5_ n6_
             (try clear hb)
             (try clear hb2)
             (try clear hk)
             (try clear hi)
             refine hK.out _ _ ⟨(blk_cell BK170.out 0).trans rfl, (blk_cell BK170.out 1).trans rfl, (blk_cell BK176.out 0).trans rfl, (blk_cell BK176.out 1).trans rfl, (blk_cell BK158.out 0).trans rfl, (blk_cell BK158.out 1).trans rfl, (blk_cell BK158.out 2).trans rfl, (blk_cell BK158.out 3).trans rfl, (blk_cell BK158.out 4).trans rfl, (blk_cell BK158.out 5).trans rfl, (blk_cell BK158.out 6).trans rfl, (blk_cell BK158.out 7).trans rfl, (blk_cell BK158.out 8).trans rfl, (blk_cell BK158.out 9).trans rfl, (blk_cell BK158.out 10).trans rfl, (blk_cell BK158.out 11).trans rfl, (blk_cell BK158.out 12).trans rfl, (blk_cell BK158.out 13).trans rfl, (blk_cell BK158.out 14).trans rfl, (blk_cell BK158.out 15).trans rfl, (blk_cell BK159.out 0).trans rfl, (blk_cell BK159.out 1).trans rfl⟩ (fun hHeld => ?_)
             clear hK K
             refine norm_ (a' := ?_) ?_ ?_
             rotate_left
             ·show Act.put _ (some 121) _ = _
              simp only [Act.put, List.setIfInBounds_toArray, List.set_cons_zero, List.set_cons_succ, i64_w, i32_w]
              rfl
             refine one_ (i := 30) (N := some 124) #[true, true, true, true, true, true, true, true, true, true, true, true, true, true, true, true, true, true, true, true, true, true, true, true, true, true, true, true, true, true, true, false, false, false] rfl rfl (one_of HT_.out (by kernel_rfl)) (by decide) (fun K hK => ?_)
             refine goes_ Try.func26 (by kernel_rfl) rfl #[.agg #[.int .i64 a2_0, .slice A2_1 l2_1.length c2_1, .int .i64 a2_2, .int .i64 a2_3, .slice A2_4 l2_4.length c2_4, .int .i64 a2_5, .bool a2_6, .bool a2_7, .int .i64 a2_8, .int .u16 a2_9, .slice A2_10 l2_10.length c2_10, .slice A2_11 l2_11.length c2_11, .slice A2_12 l2_12.length c2_12, .slice A2_13 l2_13.length c2_13, .slice A2_14 l2_14.length c2_14, .int .i64 a2_15], .agg #[.string a3_0, .slice A3_1 l3_1.length c3_1]] (by rfl) rfl rfl (by (try simp only [List.map_toArray, List.map_cons, List.map_nil]); first | done | rfl | (simp only [List.length_drop, List.length_take]; rfl)) ?_
             with_reducible refine (warderref21_Kdc.calls k2 a2_0 _ _ l2_1 a2_2 a2_3 _ _ l2_4 a2_5 a2_6 a2_7 a2_8 a2_9 _ _ l2_10 _ _ l2_11 _ _ l2_12 _ _ l2_13 _ _ l2_14 a2_15 a3_0 _ _ l3_1 t183 _ ?side1 ?side2 ?side3 ?side4 ?side5 ?side6 ?side7 ?side8 ?side9 ?side10 ?side11 ?side12 ?side13 ?side14 ?side15 ?side16 A60.out).mono ?_
             (case side1 => repeat (first | exact (Kd.C_below HR2_1.out HB.out) | (with_reducible refine Kd.C_alloc ?_ _) | (with_reducible refine Kd.C_drewN ?_ _) | (with_reducible refine Kd.C_drew ?_)))
             (case side2 => exact HC2_1.out)
             (case side3 => repeat (first | exact (Kd.C_below HR2_4.out HB.out) | (with_reducible refine Kd.C_alloc ?_ _) | (with_reducible refine Kd.C_drewN ?_ _) | (with_reducible refine Kd.C_drew ?_)))
             (case side4 => exact HC2_4.out)
             (case side5 => repeat (first | exact (Kd.C_below HR2_10.out HB.out) | (with_reducible refine Kd.C_alloc ?_ _) | (with_reducible refine Kd.C_drewN ?_ _) | (with_reducible refine Kd.C_drew ?_)))
             (case side6 => exact HC2_10.out)
             (case side7 => repeat (first | exact (Kd.C_below HR2_11.out HB.out) | (with_reducible refine Kd.C_alloc ?_ _) | (with_reducible refine Kd.C_drewN ?_ _) | (with_reducible refine Kd.C_drew ?_)))
             (case side8 => exact HC2_11.out)
             (case side9 => repeat (first | exact (Kd.C_below HR2_12.out HB.out) | (with_reducible refine Kd.C_alloc ?_ _) | (with_reducible refine Kd.C_drewN ?_ _) | (with_reducible refine Kd.C_drew ?_)))
             (case side10 => exact HC2_12.out)
             (case side11 => repeat (first | exact (Kd.C_below HR2_13.out HB.out) | (with_reducible refine Kd.C_alloc ?_ _) | (with_reducible refine Kd.C_drewN ?_ _) | (with_reducible refine Kd.C_drew ?_)))
             (case side12 => exact HC2_13.out)
             (case side13 => repeat (first | exact (Kd.C_below HR2_14.out HB.out) | (with_reducible refine Kd.C_alloc ?_ _) | (with_reducible refine Kd.C_drewN ?_ _) | (with_reducible refine Kd.C_drew ?_)))
             (case side14 => exact HC2_14.out)
             (case side15 => repeat (first | exact (Kd.C_below HR3_1.out HB.out) | (with_reducible refine Kd.C_alloc ?_ _) | (with_reducible refine Kd.C_drewN ?_ _) | (with_reducible refine Kd.C_drew ?_)))
             (case side16 => exact HC3_1.out)
             rintro e w64 ⟨rfl, hb⟩
             refine ⟨_, rfl, ?_⟩
             have n0_ := Aside0.mk (Kd.R_below (by (with_reducible repeat (first | apply Kd.R_alloc | apply Kd.R_drewN | apply Kd.R_drew)); exact HO_171001.out) hb)
             have n1_ := Aside0.mk (Kd.V_below (by (with_reducible repeat (first | apply Kd.V_alloc | apply Kd.V_drewN | apply Kd.V_drew)); exact HO_177001.out) hb)
             have n2_ := Aside0.mk (blk_below (g := gb158) (o := .cells #[.int .i64 a2_0, .slice A2_1 l2_1.length c2_1, .int .i64 a2_2, .int .i64 a2_3, .slice A2_4 l2_4.length c2_4, .int .i64 a2_5, .bool a2_6, .bool a2_7, .int .i64 a2_8, .int .u16 a2_9, .slice A2_10 l2_10.length c2_10, .slice A2_11 l2_11.length c2_11, .slice A2_12 l2_12.length c2_12, .slice A2_13 l2_13.length c2_13, .slice A2_14 l2_14.length c2_14, .int .i64 a2_15] 57 (0, 0)) (by (with_reducible repeat (first | refine blk_drewN ?_ _ | refine blk_drew ?_ | refine blk_alloc ?_ _)); exact BK158.out) hb)
             have n3_ := Aside0.mk (blk_below (g := gb159) (o := .cells #[.string a3_0, .slice A3_1 l3_1.length c3_1] 43 (0, 0)) (by (with_reducible repeat (first | refine blk_drewN ?_ _ | refine blk_drew ?_ | refine blk_alloc ?_ _)); exact BK159.out) hb)
             have n4_ := Aside0.mk (blk_below (g := gb170) (o := .cells #[.string t165, .slice Ao33 t166.length co33] 43 (0, 0)) (by (with_reducible repeat (first | refine blk_drewN ?_ _ | refine blk_drew ?_ | refine blk_alloc ?_ _)); exact BK170.out) hb)
             have n5_ := Aside0.mk (blk_below (g := gb176) (o := .cells #[.string t171, .slice Ao42 t172.length co42] 43 (0, 0)) (by (with_reducible repeat (first | refine blk_drewN ?_ _ | refine blk_drew ?_ | refine blk_alloc ?_ _)); exact BK176.out) hb)
             have n6_ := Aside0.mk (below_step (by repeat (first | (with_reducible first | exact HB.out | apply below_alloc | apply pw_below_drewN | apply below_drew1 | refine below_set ?_ GE158.out | refine below_set ?_ GE159.out | refine below_set ?_ GE170.out | refine below_set ?_ GE176.out) | exact HB.out)) hb)
             clear HO_171001
             clear HO_177001
             clear BK158
             clear BK159
             clear BK170
             clear BK176
             clear HB
             have HO_171001 := n0_
             have HO_177001 := n1_
             have BK158 := n2_
             have BK159 := n3_
             have BK170 := n4_
             have BK176 := n5_
             have HB := n6_
             clear n0_ n1_ n2_ n3_ n4_ n5_ n6_
             (try clear hb)
             (try clear hb2)
             (try clear hk)
             (try clear hi)
             refine hK.out _ _ ⟨(blk_cell BK170.out 0).trans rfl, (blk_cell BK170.out 1).trans rfl, (blk_cell BK176.out 0).trans rfl, (blk_cell BK176.out 1).trans rfl, (blk_cell BK158.out 0).trans rfl, (blk_cell BK158.out 1).trans rfl, (blk_cell BK158.out 2).trans rfl, (blk_cell BK158.out 3).trans rfl, (blk_cell BK158.out 4).trans rfl, (blk_cell BK158.out 5).trans rfl, (blk_cell BK158.out 6).trans rfl, (blk_cell BK158.out 7).trans rfl, (blk_cell BK158.out 8).trans rfl, (blk_cell BK158.out 9).trans rfl, (blk_cell BK158.out 10).trans rfl, (blk_cell BK158.out 11).trans rfl, (blk_cell BK158.out 12).trans rfl, (blk_cell BK158.out 13).trans rfl, (blk_cell BK158.out 14).trans rfl, (blk_cell BK158.out 15).trans rfl, (blk_cell BK159.out 0).trans rfl, (blk_cell BK159.out 1).trans rfl⟩ (fun hHeld => ?_)
             clear hK K
             refine norm_ (a' := ?_) ?_ ?_
             rotate_left
             ·show Act.put _ (some 124) _ = _
              simp only [Act.put, List.setIfInBounds_toArray, List.set_cons_zero, List.set_cons_succ, i64_w, i32_w]
              rfl
             refine pure_ (i := 31) (N := some 125) (v := ?_) (a' := ?_) #[true, true, true, true, true, true, true, true, true, true, true, true, true, true, true, true, true, true, true, true, true, true, true, true, true, true, true, true, true, true, true, true, false, false] rfl rfl (any_of HT_.out (by kernel_rfl)) (fun _ _ _ h => h) (Or.inl ⟨by rfl, ?_⟩) ?_ ?_
             rotate_left
             ·intro w'
              go_simp
              with_reducible rfl
             rotate_left
             ·simp only [Act.put, List.setIfInBounds_toArray, List.set_cons_zero, List.set_cons_succ, i64_w, i32_w]
              rfl
             refine pure_ (i := 32) (N := some 126) (v := ?_) (a' := ?_) #[true, true, true, true, true, true, true, true, true, true, true, true, true, true, true, true, true, true, true, true, true, true, true, true, true, true, true, true, true, true, true, true, true, false] rfl rfl (any_of HT_.out (by kernel_rfl)) (fun _ _ _ h => h) (Or.inl ⟨by rfl, ?_⟩) ?_ ?_
             rotate_left
             ·intro w'
              go_simp
              with_reducible rfl
             rotate_left
             ·simp only [Act.put, List.setIfInBounds_toArray, List.set_cons_zero, List.set_cons_succ, i64_w, i32_w]
              rfl
             refine pure_ (i := 33) (N := some 8) (v := ?_) (a' := ?_) #[true, true, true, true, true, true, true, true, true, true, true, true, true, true, true, true, true, true, true, true, true, true, true, true, true, true, true, true, true, true, true, true, true, true] rfl rfl (any_of HT_.out (by kernel_rfl)) (fun _ _ _ h => h) (Or.inl ⟨by rfl, ?_⟩) ?_ ?_
             rotate_left
             ·intro w'
              go_simp
              with_reducible rfl
             rotate_left
             ·simp only [Act.put, List.setIfInBounds_toArray, List.set_cons_zero, List.set_cons_succ, i64_w, i32_w]
              rfl
             refine done_ (done_of HT_.out (by kernel_rfl)) ?_
             try go_wp2
             go_ret
             exact ⟨by first | rfl | (simp [errW_none, errW_some] <;> rfl) | (simp [*, errW_none, errW_some] <;> rfl), by repeat (first | (with_reducible first | exact HB.out | apply below_alloc | apply pw_below_drewN | apply below_drew1 | refine below_set ?_ GE158.out | refine below_set ?_ GE159.out | refine below_set ?_ GE170.out | refine below_set ?_ GE176.out) | exact HB.out)⟩
            ·rw [if_neg c58] at H
             exact absurd ((Option.some.inj H).trans hrt) (by decide)
           ·replace c57 := Bool.eq_false_iff.mpr c57
            subst c57
            have H1 : (some false) = some r := by rw [if_neg (show ¬ (false = true) by decide)] at H; exact H
            clear H
            have H := H1
            clear H1
            exact absurd ((Option.some.inj H).trans hrt) (by decide)
          ·rw [if_neg c55] at H
           exact absurd ((Option.some.inj H).trans hrt) (by decide)
         ·rw [if_neg c54] at H
          exact absurd ((Option.some.inj H).trans hrt) (by decide)
        ·replace c53 := Bool.eq_false_iff.mpr c53
         subst c53
         have H1 : (some false) = some r := by rw [if_neg (show ¬ (false = true) by decide)] at H; exact H
         clear H
         have H := H1
         clear H1
         exact absurd ((Option.some.inj H).trans hrt) (by decide)
       ·replace c52 := Bool.eq_false_iff.mpr c52
        subst c52
        have H1 : (some false) = some r := by rw [if_neg (show ¬ (false = true) by decide)] at H; exact H
        clear H
        have H := H1
        clear H1
        exact absurd ((Option.some.inj H).trans hrt) (by decide)
end Go.Proofs.Ytalcfnhcenpniaa.XT
