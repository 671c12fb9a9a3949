/- The law PrincsRules, in the second form: its plain side, and the walk. No condition but the form's own bound. -/
import Derived.Test.YtalcfnhcenpniaaXT12
import Derived.Test.YtalcfnhcenpniaaPq
import Derived.Test.YtalcfnhcenpniaaSm
set_option linter.unusedVariables false
set_option linter.unusedSimpArgs false
namespace Go.Proofs.Ytalcfnhcenpniaa
open Go.RowKit Go.Proofs.YtalcfnhcenpniaaW.PrintWords Go.Proofs.Ytalcfnhcenpniaa.XT Go.Proofs.Ytalcfnhcenpniaa.OpT
namespace Lru
open Sm
theorem plain (rs : List S65) (us : List S45) (a0 : Int) (l1 : List S35) (a2 a3 : Int) (l4 : List S35) (a5 : Int) (a6 a7 : Bool) (a8 a9 : Int) (l10 : List (List Int)) (l11 : List S43) (l12 l13 : List (List S35)) (l14 : List S134) (a15 : Int) (r : ByteArray) (n : List ByteArray)
    (hr : Op2.sumB b65 rs ≤ 1048576) (h1 : Op2.sumB b35 l1 ≤ 1048576) (h4 : Op2.sumB b35 l4 ≤ 1048576) (h11 : Op2.sumB b43 l11 ≤ 1048576) (hn : n.length ≤ 1048576) :
    Ev (fun k => warderlaw21_PrincsRules.f k rs us a0 l1 a2 a3 l4 a5 a6 a7 a8 a9 l10 l11 l12 l13 l14 a15 r n) true := by
  obtain ⟨r1, r2, r3⟩ := sum65 rs hr
  obtain ⟨n1, n2, n3⟩ := sN l1 h1
  obtain ⟨m1, m2, m3⟩ := sN l4 h4
  obtain ⟨p1, p2, p3⟩ := sum43 l11 h11
  unfold warderlaw21_PrincsRules.f warderlaw21_head.f
  simp only [Option.bind_some]
  have ht : Ev (fun k => warderlaw21_PrincsRules.j0 k rs us true true a0 l1 a2 a3 l4 a5 a6 a7 a8 a9 l10 l11 l12 l13 l14 a15 r n) true := by
    refine Ev.step (f := fun k => some true) (fun k => by rw [warderlaw21_PrincsRules.j0]; simp only [if_true]) (Ev.now _)
  by_cases g1 : (rs.length : Int) > 500
  · simp only [if_pos g1]; exact ht
  simp only [if_neg g1]
  by_cases g2 : (us.length : Int) > 500
  · simp only [decide_eq_true g2]; exact ht
  simp only [decide_eq_false g2]
  have hsr : smallR ⟨l4, l1, ⟨r, n⟩⟩ = true := by
    unfold smallR
    rw [n1, m1]
    simp only [Bool.true_and, decide_eq_true_eq]
    omega
  have hfit : ruleFits l1 l4 ⟨l4, l1, ⟨r, n⟩⟩ = true := by unfold ruleFits; rw [sameN_refl, sameN_refl]; rfl
  have eW : princs_Whose.f ([(⟨l4, l1, ⟨r, n⟩⟩ : S65)] ++ rs) us a0 l1 a2 a3 l4 a5 a6 a7 a8 a9 l10 l11 l12 l13 l14 a15 = some (r, n, 0) := by
    unfold princs_Whose.f
    rw [if_pos ⟨by simp [hsr]; simpa using r1, n1, m1, p1⟩]
    unfold whose
    simp [hfit]
  have eN : princs_Whose.f [] us a0 l1 a2 a3 l4 a5 a6 a7 a8 a9 [] l11 l12 l13 l14 a15 = some (⟨#[]⟩, [], 211) := by
    unfold princs_Whose.f
    rw [if_pos ⟨rfl, n1, m1, p1⟩]
    unfold whose
    simp [hasUse]
  have eK : princs_Kdc.f a0 l1 a2 a3 l4 a5 a6 a7 a8 a9 [] l11 l12 l13 l14 a15 r n = some false := by
    unfold princs_Kdc.f hasKdc hasUse
    simp
  have hlen : ([(⟨l4, l1, ⟨r, n⟩⟩ : S65)]).length + rs.length < 1599289640401 := by simp; omega
  refine Ev.step (f := fun k => (warderref09_AlikePrinc.f k r n r n).bind fun t205 => (if t205 = true then some true else some false)) (fun k => by
    rw [warderlaw21_PrincsRules.j0]
    simp only [Bool.false_eq_true, if_false, Option.bind_some, if_pos hlen, eW, eN, eK, if_true, Bool.not_false]) ?_
  refine Ev.bind (Pq.alike_ev r n r n (by omega)) ?_
  have : alikeP r n r n = true := by simp [alikeP]
  simp only [this, if_true]
  exact Ev.now _
theorem h35 : Kd.Heap k35 := Kd.heap_iso _ (Kd.heap_pair (Kd.heap_slice 3 (Kd.heap_int .i64)) Kd.heap_string)
theorem h43 : Kd.Heap k43 := Kd.heap_iso _ (Kd.heap_pair Kd.heap_string (Kd.heap_slice 9 Kd.heap_string))
theorem h65 : Kd.Heap k65 := Kd.heap_iso _ (Kd.heap_pair (Kd.heap_slice 35 h35) (Kd.heap_pair (Kd.heap_slice 35 h35) h43))
end Lru
theorem princsRules.law (W : World) (A0 : Option Addr) (c0 : Nat) (l0 : List S65) (A1 : Option Addr) (c1 : Nat) (l1 : List S45) (x2 : S57) (A2_1 : Option Addr) (c2_1 : Nat) (A2_4 : Option Addr) (c2_4 : Nat) (A2_10 : Option Addr) (c2_10 : Nat) (A2_11 : Option Addr) (c2_11 : Nat) (A2_12 : Option Addr) (c2_12 : Nat) (A2_13 : Option Addr) (c2_13 : Nat) (A2_14 : Option Addr) (c2_14 : Nat) (x3 : S43) (A3_1 : Option Addr) (c3_1 : Nat)
    (hr0 : Kd.C k65 W A0 l0.length l0) (hc0 : l0.length ≤ c0) (hb0 : Op2.sumB b65 l0 + 1 ≤ 1048576) (hr1 : Kd.C k45 W A1 l1.length l1) (hc1 : l1.length ≤ c1) (hb1 : Op2.sumB b45 l1 + 1 ≤ 1048576)
    (hr2_1 : Kd.C k35 W A2_1 x2.f1.length x2.f1) (hc2_1 : x2.f1.length ≤ c2_1) (hr2_4 : Kd.C k35 W A2_4 x2.f4.length x2.f4) (hc2_4 : x2.f4.length ≤ c2_4) (hr2_10 : Kd.C (Kd.slice 3 (Kd.int .i64)) W A2_10 x2.f6.f4.length x2.f6.f4) (hc2_10 : x2.f6.f4.length ≤ c2_10) (hr2_11 : Kd.C k43 W A2_11 x2.f6.f5.length x2.f6.f5) (hc2_11 : x2.f6.f5.length ≤ c2_11) (hr2_12 : Kd.C (Kd.slice 35 k35) W A2_12 x2.f6.f6.length x2.f6.f6) (hc2_12 : x2.f6.f6.length ≤ c2_12) (hr2_13 : Kd.C (Kd.slice 35 k35) W A2_13 x2.f6.f7.length x2.f6.f7) (hc2_13 : x2.f6.f7.length ≤ c2_13) (hr2_14 : Kd.C k134 W A2_14 x2.f6.f8.length x2.f6.f8) (hc2_14 : x2.f6.f8.length ≤ c2_14) (hb2 : b57 x2 ≤ 1048576)
    (hr3_1 : Kd.C Kd.string W A3_1 x3.f1.length x3.f1) (hc3_1 : x3.f1.length ≤ c3_1) (hb3 : b43 x3 ≤ 1048576) :
    Calls Try.prog 9 #[.slice A0 l0.length c0, .slice A1 l1.length c1, .agg #[.int .i64 x2.f0, .slice A2_1 x2.f1.length c2_1, .int .i64 x2.f2, .int .i64 x2.f3, .slice A2_4 x2.f4.length c2_4, .int .i64 x2.f5, .bool x2.f6.f0, .bool x2.f6.f1, .int .i64 x2.f6.f2, .int .u16 x2.f6.f3, .slice A2_10 x2.f6.f4.length c2_10, .slice A2_11 x2.f6.f5.length c2_11, .slice A2_12 x2.f6.f6.length c2_12, .slice A2_13 x2.f6.f7.length c2_13, .slice A2_14 x2.f6.f8.length c2_14, .int .i64 x2.f7], .agg #[.string x3.f0, .slice A3_1 x3.f1.length c3_1]] W fun e w' => e = .returned (.bool true) ∧ Below W.heap.size W w' := by
  have hb2' := hb2
  unfold b57 at hb2'
  simp only at hb2'
  have hb55 : b55 x2.f6 ≤ 1048576 := by omega
  unfold b55 at hb55
  simp only at hb55
  obtain ⟨k, hk⟩ := (Lru.plain l0 l1 x2.f0 x2.f1 x2.f2 x2.f3 x2.f4 x2.f5 x2.f6.f0 x2.f6.f1 x2.f6.f2 x2.f6.f3 x2.f6.f4 x2.f6.f5 x2.f6.f6 x2.f6.f7 x2.f6.f8 x2.f7 x3.f0 x3.f1 (by omega) (by omega) (by omega) (by omega) (Sm.s43 x3 hb3)).rounds
  exact warderlaw21_PrincsRules.calls k (fun k => k < W.heap.size) A0 c0 l0 A1 c1 l1 x2.f0 (fun k => k < W.heap.size) A2_1 c2_1 x2.f1 x2.f2 x2.f3 (fun k => k < W.heap.size) A2_4 c2_4 x2.f4 x2.f5 x2.f6.f0 x2.f6.f1 x2.f6.f2 x2.f6.f3 A2_10 c2_10 x2.f6.f4 A2_11 c2_11 x2.f6.f5 A2_12 c2_12 x2.f6.f6 A2_13 c2_13 x2.f6.f7 A2_14 c2_14 x2.f6.f8 x2.f7 x3.f0 (fun k => k < W.heap.size) A3_1 c3_1 x3.f1 true W (Kd.V_mk hc0 (Kd.F_of_C Lru.h65 hr0)) hr1 hc1 (Kd.V_mk hc2_1 (Kd.F_of_C Lru.h35 hr2_1)) (Kd.V_mk hc2_4 (Kd.F_of_C Lru.h35 hr2_4)) hr2_10 hc2_10 hr2_11 hc2_11 hr2_12 hc2_12 hr2_13 hc2_13 hr2_14 hc2_14 (Kd.V_mk hc3_1 (Kd.F_of_C Kd.heap_string hr3_1)) rfl hk
end Go.Proofs.Ytalcfnhcenpniaa
