/- The law PrincsTell, in the second form: its plain side, and the walk. No condition but the form's own bound. -/
import Derived.Test.YtalcfnhcenpniaaXT11
import Derived.Test.YtalcfnhcenpniaaPq
import Derived.Test.YtalcfnhcenpniaaSm
set_option linter.unusedVariables false
set_option linter.unusedSimpArgs false
namespace Go.Proofs.Ytalcfnhcenpniaa
open Go.RowKit Go.Proofs.YtalcfnhcenpniaaW.PrintWords Go.Proofs.Ytalcfnhcenpniaa.XT Go.Proofs.Ytalcfnhcenpniaa.OpT
namespace Lte
open Sm
theorem same_some (k : Nat) (r1 : ByteArray) (n1 : List ByteArray) (r2 : ByteArray) (n2 : List ByteArray) (hn : n1.length ≤ 1048576) : Ev (fun k => princs_Same.f k r1 n1 r2 n2) (alikeP r1 n1 r2 n2) :=
  Ev.of (princs_Same.mono r1 n1 r2 n2) (princs_Same.tells r1 n1 r2 n2 (by omega))
theorem plain (rs : List S65) (us : List S45) (a0 : Int) (l1 : List S35) (a2 a3 : Int) (l4 : List S35) (a5 : Int) (a6 a7 : Bool) (a8 a9 : Int) (l10 : List (List Int)) (l11 : List S43) (l12 l13 : List (List S35)) (l14 : List S134) (a15 : Int) (r : ByteArray) (n : List ByteArray)
    (hr : Op2.sumB b65 rs ≤ 1048576) (hu : Op2.sumB b45 us ≤ 1048576) (h1 : Op2.sumB b35 l1 ≤ 1048576) (h4 : Op2.sumB b35 l4 ≤ 1048576) (h10 : Op2.sumB (fun l => Op2.sumB (fun _ : Int => 1) l + 1) l10 ≤ 1048576) (h11 : Op2.sumB b43 l11 ≤ 1048576) (hn : n.length ≤ 1048576) :
    Ev (fun k => warderlaw21_PrincsTell.f k rs us a0 l1 a2 a3 l4 a5 a6 a7 a8 a9 l10 l11 l12 l13 l14 a15 r n) true := by
  obtain ⟨r1, r2, r3⟩ := sum65 rs hr
  obtain ⟨u1, u2⟩ := sum45 us hu
  obtain ⟨n1, n2, n3⟩ := sN l1 h1
  obtain ⟨m1, m2, m3⟩ := sN l4 h4
  obtain ⟨o1, o2⟩ := sumI l10 h10
  obtain ⟨p1, p2, p3⟩ := sum43 l11 h11
  unfold warderlaw21_PrincsTell.f warderlaw21_head.f
  simp only [Option.bind_some]
  have ht : Ev (fun k => warderlaw21_PrincsTell.j0 k rs us true true a0 l1 a2 a3 l4 a5 a6 a7 a8 a9 l10 l11 l12 l13 l14 a15 r n) true := by
    refine Ev.step (f := fun k => some true) (fun k => by rw [warderlaw21_PrincsTell.j0]; simp only [if_true]) (Ev.now _)
  by_cases g1 : (rs.length : Int) > 500
  · simp only [if_pos g1]; exact ht
  simp only [if_neg g1]
  by_cases g2 : (us.length : Int) > 500
  · simp only [if_pos g2]; exact ht
  simp only [if_neg g2]
  by_cases g3 : (l11.length : Int) > 500
  · simp only [if_pos g3]; exact ht
  simp only [if_neg g3]
  by_cases g4 : (l10.length : Int) > 500
  · simp only [decide_eq_true g4]; exact ht
  simp only [decide_eq_false g4]
  have eL : ∀ r n, princs_Lookup.f us r n = some (lookup us r n) := fun _ _ => rfl
  have eW : princs_Whose.f rs us a0 l1 a2 a3 l4 a5 a6 a7 a8 a9 l10 l11 l12 l13 l14 a15 = some (whose rs us l1 l4 l10 l11) := if_pos ⟨r1, n1, m1, p1⟩
  have hwl : (whose rs us l1 l4 l10 l11).2.1.length ≤ 9223372036854775807 := by
    unfold whose
    split
    · rename_i x hf
      have hx := List.all_eq_true.1 r1 x (List.mem_of_find?_eq_some hf)
      unfold smallR at hx
      simp only [Bool.and_eq_true, decide_eq_true_eq] at hx
      simp only
      omega
    · split
      · split
        · rename_i x hf
          have := p3 x (List.mem_of_find?_eq_some hf)
          simp only
          omega
        · simp
      · simp
  refine Ev.step (f := fun k => if false = true then (some true) else ((princs_Lookup.f us r n).bind fun bt161 => ((warderref21_Lookup.f k us r n).bind fun bt163 => ((princs_Whose.f rs us a0 l1 a2 a3 l4 a5 a6 a7 a8 a9 l10 l11 l12 l13 l14 a15).bind fun bt165 => ((warderref21_Whose.f k rs us a0 l1 a2 a3 l4 a5 a6 a7 a8 a9 l10 l11 l12 l13 l14 a15).bind fun bt171 => (warderlaw21_PrincsTell.l0 k us true bt161.1 bt161.2 bt163.1 bt163.2 bt165.2.2 bt171.2.2 true 0 a0 l1 a2 a3 l4 a5 a6 a7 a8 a9 l10 l11 l12 l13 l14 a15 r n bt165.1 bt165.2.1 bt171.1 bt171.2.1)))))) (fun k => by rw [warderlaw21_PrincsTell.j0]) ?_
  simp only [Bool.false_eq_true, if_false, eL, Option.bind_some]
  refine Ev.bind (Pq.lookup_ev us r n (by omega) (fun x hx => by have := u2 x hx; omega)) ?_
  simp only [eW, Option.bind_some]
  refine Ev.bind (Pq.whose_ev rs us a0 l1 a2 a3 l4 a5 a6 a7 a8 a9 l10 l11 l12 l13 l14 a15 (by omega) (fun x hx => by
    obtain ⟨⟨q1, q2⟩, q3, q4⟩ := r3 x hx
    exact ⟨⟨by omega, fun y hy => by have := q2 y hy; omega⟩, by omega, fun y hy => by have := q4 y hy; omega⟩) (by omega) (fun x hx => by have := u2 x hx; omega) r1 n1 m1 (by omega) (fun x hx => by have := o2 x hx; omega) (by omega)) ?_
  generalize whose rs us l1 l4 l10 l11 = wh at *
  refine Pq.ev_down (fun k i => warderlaw21_PrincsTell.l0 k us true (lookup us r n).1 (lookup us r n).2 (lookup us r n).1 (lookup us r n).2 wh.2.2 wh.2.2 true (i : Int) a0 l1 a2 a3 l4 a5 a6 a7 a8 a9 l10 l11 l12 l13 l14 a15 r n wh.1 wh.2.1 wh.1 wh.2.1) (fun _ => true) us.length ?_ ?_
  · refine Ev.step (f := fun k => if (us.length : Int) < (us.length : Int) then (if true = true then (if 0 ≤ (us.length : Int) then ((princs_Same.f k ((rd_T45 us (us.length : Int)).f0.f0) ((rd_T45 us (us.length : Int)).f0.f1) r n).bind fun t178 => ((warderref09_AlikePrinc.f k ((rd_T45 us (us.length : Int)).f0.f0) ((rd_T45 us (us.length : Int)).f0.f1) r n).bind fun t180 => (warderlaw21_PrincsTell.l0 k us true (lookup us r n).1 (lookup us r n).2 (lookup us r n).1 (lookup us r n).2 wh.2.2 wh.2.2 (t178 == t180) (wrap64 ((us.length : Int) + 1)) a0 l1 a2 a3 l4 a5 a6 a7 a8 a9 l10 l11 l12 l13 l14 a15 r n wh.1 wh.2.1 wh.1 wh.2.1))) else (none)) else (warderlaw21_PrincsTell.l0 k us true (lookup us r n).1 (lookup us r n).2 (lookup us r n).1 (lookup us r n).2 wh.2.2 wh.2.2 false (wrap64 ((us.length : Int) + 1)) a0 l1 a2 a3 l4 a5 a6 a7 a8 a9 l10 l11 l12 l13 l14 a15 r n wh.1 wh.2.1 wh.1 wh.2.1)) else (if true = true then (if true = true then (if (lookup us r n).1 = (lookup us r n).1 then (if ((lookup us r n).2 == (lookup us r n).2) = true then ((warderref09_AlikePrinc.f k wh.1 wh.2.1 wh.1 wh.2.1).bind fun t181 => (if t181 = true then (if wh.2.2 = wh.2.2 then ((princs_Kdc.f a0 l1 a2 a3 l4 a5 a6 a7 a8 a9 l10 l11 l12 l13 l14 a15 r n).bind fun t182 => ((warderref21_Kdc.f k a0 l1 a2 a3 l4 a5 a6 a7 a8 a9 l10 l11 l12 l13 l14 a15 r n).bind fun t183 => (some (t182 == t183)))) else (some false)) else (some false))) else (some false)) else (some false)) else (some false)) else (some false))) (fun k => by rw [warderlaw21_PrincsTell.l0]) ?_
    simp only [Int.lt_irrefl, if_false, if_true, beq_self_eq_true]
    refine Ev.bind (Pq.alike_ev wh.1 wh.2.1 wh.1 wh.2.1 hwl) ?_
    have : alikeP wh.1 wh.2.1 wh.1 wh.2.1 = true := by simp [alikeP]
    simp only [this, if_true]
    have eK : princs_Kdc.f a0 l1 a2 a3 l4 a5 a6 a7 a8 a9 l10 l11 l12 l13 l14 a15 r n = some (hasKdc l11 l10 r n) := rfl
    simp only [eK, Option.bind_some]
    refine Ev.bind (Pq.kdc_ev a0 l1 a2 a3 l4 a5 a6 a7 a8 a9 l10 l11 l12 l13 l14 a15 r n (by omega) (fun x hx => by have := o2 x hx; omega) (by omega) (fun x hx => by have := p3 x hx; omega)) ?_
    simp only [beq_self_eq_true]
    exact Ev.now _
  · intro i hi ih
    have hii : (i : Int) < (us.length : Int) := by omega
    have hi0 : (0 : Int) ≤ (i : Int) := by omega
    have e1 : rd_T45 us (i : Int) = us[i] := by unfold rd_T45; rw [Int.toNat_natCast, getD_eq _ _ _ hi]
    have x1 := u2 us[i] (List.getElem_mem _)
    refine Ev.step (f := fun k => if (i : Int) < (us.length : Int) then (if true = true then (if 0 ≤ (i : Int) then ((princs_Same.f k ((rd_T45 us (i : Int)).f0.f0) ((rd_T45 us (i : Int)).f0.f1) r n).bind fun t178 => ((warderref09_AlikePrinc.f k ((rd_T45 us (i : Int)).f0.f0) ((rd_T45 us (i : Int)).f0.f1) r n).bind fun t180 => (warderlaw21_PrincsTell.l0 k us true (lookup us r n).1 (lookup us r n).2 (lookup us r n).1 (lookup us r n).2 wh.2.2 wh.2.2 (t178 == t180) (wrap64 ((i : Int) + 1)) a0 l1 a2 a3 l4 a5 a6 a7 a8 a9 l10 l11 l12 l13 l14 a15 r n wh.1 wh.2.1 wh.1 wh.2.1))) else (none)) else (warderlaw21_PrincsTell.l0 k us true (lookup us r n).1 (lookup us r n).2 (lookup us r n).1 (lookup us r n).2 wh.2.2 wh.2.2 false (wrap64 ((i : Int) + 1)) a0 l1 a2 a3 l4 a5 a6 a7 a8 a9 l10 l11 l12 l13 l14 a15 r n wh.1 wh.2.1 wh.1 wh.2.1)) else (if true = true then (if true = true then (if (lookup us r n).1 = (lookup us r n).1 then (if ((lookup us r n).2 == (lookup us r n).2) = true then ((warderref09_AlikePrinc.f k wh.1 wh.2.1 wh.1 wh.2.1).bind fun t181 => (if t181 = true then (if wh.2.2 = wh.2.2 then ((princs_Kdc.f a0 l1 a2 a3 l4 a5 a6 a7 a8 a9 l10 l11 l12 l13 l14 a15 r n).bind fun t182 => ((warderref21_Kdc.f k a0 l1 a2 a3 l4 a5 a6 a7 a8 a9 l10 l11 l12 l13 l14 a15 r n).bind fun t183 => (some (t182 == t183)))) else (some false)) else (some false))) else (some false)) else (some false)) else (some false)) else (some false))) (fun k => by rw [warderlaw21_PrincsTell.l0]) ?_
    simp only [hii, hi0, if_true, e1, Pq.w1 hi (by omega : us.length ≤ 9223372036854775807)]
    refine Ev.bind (same_some 0 us[i].f0.f0 us[i].f0.f1 r n x1) ?_
    refine Ev.bind (Pq.alike_ev us[i].f0.f0 us[i].f0.f1 r n (by omega)) ?_
    simp only [beq_self_eq_true]
    exact ih
end Lte
theorem princsTell.law (W : World) (A0 : Option Addr) (c0 : Nat) (l0 : List S65) (A1 : Option Addr) (c1 : Nat) (l1 : List S45) (x2 : S57) (A2_1 : Option Addr) (c2_1 : Nat) (A2_4 : Option Addr) (c2_4 : Nat) (A2_10 : Option Addr) (c2_10 : Nat) (A2_11 : Option Addr) (c2_11 : Nat) (A2_12 : Option Addr) (c2_12 : Nat) (A2_13 : Option Addr) (c2_13 : Nat) (A2_14 : Option Addr) (c2_14 : Nat) (x3 : S43) (A3_1 : Option Addr) (c3_1 : Nat)
    (hr0 : Kd.C k65 W A0 l0.length l0) (hc0 : l0.length ≤ c0) (hb0 : Op2.sumB b65 l0 + 1 ≤ 1048576) (hr1 : Kd.C k45 W A1 l1.length l1) (hc1 : l1.length ≤ c1) (hb1 : Op2.sumB b45 l1 + 1 ≤ 1048576)
    (hr2_1 : Kd.C k35 W A2_1 x2.f1.length x2.f1) (hc2_1 : x2.f1.length ≤ c2_1) (hr2_4 : Kd.C k35 W A2_4 x2.f4.length x2.f4) (hc2_4 : x2.f4.length ≤ c2_4) (hr2_10 : Kd.C (Kd.slice 3 (Kd.int .i64)) W A2_10 x2.f6.f4.length x2.f6.f4) (hc2_10 : x2.f6.f4.length ≤ c2_10) (hr2_11 : Kd.C k43 W A2_11 x2.f6.f5.length x2.f6.f5) (hc2_11 : x2.f6.f5.length ≤ c2_11) (hr2_12 : Kd.C (Kd.slice 35 k35) W A2_12 x2.f6.f6.length x2.f6.f6) (hc2_12 : x2.f6.f6.length ≤ c2_12) (hr2_13 : Kd.C (Kd.slice 35 k35) W A2_13 x2.f6.f7.length x2.f6.f7) (hc2_13 : x2.f6.f7.length ≤ c2_13) (hr2_14 : Kd.C k134 W A2_14 x2.f6.f8.length x2.f6.f8) (hc2_14 : x2.f6.f8.length ≤ c2_14) (hb2 : b57 x2 ≤ 1048576)
    (hr3_1 : Kd.C Kd.string W A3_1 x3.f1.length x3.f1) (hc3_1 : x3.f1.length ≤ c3_1) (hb3 : b43 x3 ≤ 1048576) :
    Calls Try.prog 8 #[.slice A0 l0.length c0, .slice A1 l1.length c1, .agg #[.int .i64 x2.f0, .slice A2_1 x2.f1.length c2_1, .int .i64 x2.f2, .int .i64 x2.f3, .slice A2_4 x2.f4.length c2_4, .int .i64 x2.f5, .bool x2.f6.f0, .bool x2.f6.f1, .int .i64 x2.f6.f2, .int .u16 x2.f6.f3, .slice A2_10 x2.f6.f4.length c2_10, .slice A2_11 x2.f6.f5.length c2_11, .slice A2_12 x2.f6.f6.length c2_12, .slice A2_13 x2.f6.f7.length c2_13, .slice A2_14 x2.f6.f8.length c2_14, .int .i64 x2.f7], .agg #[.string x3.f0, .slice A3_1 x3.f1.length c3_1]] W fun e w' => e = .returned (.bool true) ∧ Below W.heap.size W w' := by
  have hb2' := hb2
  unfold b57 at hb2'
  simp only at hb2'
  have hb55 : b55 x2.f6 ≤ 1048576 := by omega
  unfold b55 at hb55
  simp only at hb55
  obtain ⟨k, hk⟩ := (Lte.plain l0 l1 x2.f0 x2.f1 x2.f2 x2.f3 x2.f4 x2.f5 x2.f6.f0 x2.f6.f1 x2.f6.f2 x2.f6.f3 x2.f6.f4 x2.f6.f5 x2.f6.f6 x2.f6.f7 x2.f6.f8 x2.f7 x3.f0 x3.f1 (by omega) (by omega) (by omega) (by omega) (by omega) (by omega) (Sm.s43 x3 hb3)).rounds
  exact warderlaw21_PrincsTell.calls k A0 c0 l0 A1 c1 l1 x2.f0 A2_1 c2_1 x2.f1 x2.f2 x2.f3 A2_4 c2_4 x2.f4 x2.f5 x2.f6.f0 x2.f6.f1 x2.f6.f2 x2.f6.f3 A2_10 c2_10 x2.f6.f4 A2_11 c2_11 x2.f6.f5 A2_12 c2_12 x2.f6.f6 A2_13 c2_13 x2.f6.f7 A2_14 c2_14 x2.f6.f8 x2.f7 x3.f0 A3_1 c3_1 x3.f1 true W hr0 hc0 hr1 hc1 hr2_1 hc2_1 hr2_4 hc2_4 hr2_10 hc2_10 hr2_11 hc2_11 hr2_12 hc2_12 hr2_13 hc2_13 hr2_14 hc2_14 hr3_1 hc3_1 rfl hk
end Go.Proofs.Ytalcfnhcenpniaa
