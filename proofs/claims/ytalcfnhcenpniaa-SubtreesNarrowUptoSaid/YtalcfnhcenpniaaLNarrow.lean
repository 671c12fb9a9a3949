/- The law SubtreesNarrow, in the second form: its plain side, and the walk. No condition but the form's own bound. -/
import Derived.Test.YtalcfnhcenpniaaPu
set_option linter.unusedVariables false
set_option linter.unusedSimpArgs false
namespace Go.Proofs.Ytalcfnhcenpniaa
open Go.RowKit Go.Proofs.YtalcfnhcenpniaaW.PrintWords Go.Proofs.Ytalcfnhcenpniaa.XU Go.Proofs.Ytalcfnhcenpniaa.OpU
namespace Lna
open Pu
theorem any_succ {α : Type} (p : α → Bool) (l : List α) (i : Nat) (h : i < l.length) : (l.take (i + 1)).any p = ((l.take i).any p || p l[i]) := by
  rw [List.take_succ_eq_append_getElem h, List.any_append]
  simp
theorem rd4 (q : List (List S35)) (i : Nat) (h : i < q.length) : rd_L4 q (i : Int) = q[i] := by unfold rd_L4; rw [Int.toNat_natCast, getD_eq _ _ _ h]
theorem plain (p : List (List (List S35))) (x : List (List S35)) (n : List S35) (q e : List (List S35)) (hp : Op2.sumB bL p ≤ 1048576) (hx : Op2.sumB bN x ≤ 1048576) (hn : Op2.sumB b35 n ≤ 1048576) (hq : Op2.sumB bN q ≤ 1048576) (he : Op2.sumB bN e ≤ 1048576) :
    Ev (fun k => warderlaw13_SubtreesNarrow.f k p x n q e) true := by
  obtain ⟨p1, p2⟩ := sP p hp
  obtain ⟨x1, x2, _⟩ := sL x hx
  obtain ⟨n1, n2, _⟩ := sN n hn
  obtain ⟨q1, q2, _⟩ := sL q hq
  obtain ⟨e1, e2, _⟩ := sL e he
  unfold warderlaw13_SubtreesNarrow.f warderlaw13_head.f
  simp only [Option.bind_some]
  have ht : Ev (fun k => warderlaw13_SubtreesNarrow.j0 k n q e true true p x) true := by
    refine Ev.step (f := fun k => some true) (fun k => by rw [warderlaw13_SubtreesNarrow.j0]; simp only [if_true]) (Ev.now _)
  obtain ⟨b, hb⟩ := great_ev p x p2
  refine Ev.bind hb ?_
  cases b with
  | true => simp only [if_true]; exact ht
  | false =>
  simp only [Bool.false_eq_true, if_false]
  by_cases g1 : (q.length : Int) > 500
  · simp only [if_pos g1]; exact ht
  simp only [if_neg g1]
  by_cases g2 : (e.length : Int) > 500
  · simp only [decide_eq_true g2]; exact ht
  simp only [decide_eq_false g2]
  have hq0 : ((q.length : Int) == 0) = decide (q.length = 0) := by
    by_cases h : q.length = 0
    · simp [h]
    · have : ¬ (q.length : Int) = 0 := by omega
      simp [h, this]
  refine Ev.step (f := fun k => warderlaw13_SubtreesNarrow.l0 k n q e true (allowedN p x n) (decide (q.length = 0)) 0 p x) (fun k => by
    rw [warderlaw13_SubtreesNarrow.j0]
    simp only [Bool.false_eq_true, if_false, allowed_some p1 x1 n1, Option.bind_some, hq0]) ?_
  have key : ∀ one : Bool, one = (decide (q.length = 0) || q.any (underN n)) → Ev (fun k => warderlaw13_SubtreesNarrow.l1 k n q e true (allowedN p x n) one 0 p x) true := by
    intro one hone
    have h := ev_down (fun k i => warderlaw13_SubtreesNarrow.l1 k n q e true (allowedN p x n && !(e.take i).any (underN n)) one (i : Int) p x) (fun _ => true) e.length ?_ ?_
    · simpa using h
    · refine Ev.step (f := fun k => (subtrees_Narrow.f k p x q e).bind fun bt171 => ((subtrees_Allowed.f bt171.1 bt171.2 n).bind fun t177 => (if (allowedN p x n && !e.any (underN n)) = true then (some (t177 == one)) else (some (t177 == false))))) (fun k => by
        simp only [warderlaw13_SubtreesNarrow.l1]
        rw [if_neg (by omega), if_pos trivial, List.take_length]) ?_
      refine Ev.bind (narrow_ev p x q e hp hx hq he) ?_
      simp only [allowed_some (smallP_narrowed p1 q1) (smallL_append x1 e1) n1, Option.bind_some]
      rw [allowed_narrow, ← hone]
      cases (allowedN p x n && !e.any (underN n)) <;> cases one <;> exact Ev.now _
    · intro i hi ih
      rw [any_succ _ _ _ hi] at ih
      have hu := under_ev n e[i] hn (sLm e he e[i] (List.getElem_mem _))
      have r4 := rd4 e i hi
      cases hc : (allowedN p x n && !(e.take i).any (underN n)) with
      | true =>
        refine Ev.step (f := fun k => (warderref09_Under.f k n e[i]).bind fun t170 => (warderlaw13_SubtreesNarrow.l1 k n q e true (!t170) one ((i + 1 : Nat) : Int) p x)) (fun k => by
          simp only [warderlaw13_SubtreesNarrow.l1]
          rw [if_pos (by omega), if_pos trivial, if_pos (by omega), r4, w1 hi (by omega)]) ?_
        refine Ev.bind hu ?_
        have : (allowedN p x n && !((e.take i).any (underN n) || underN n e[i])) = !underN n e[i] := by
          simp only [Bool.and_eq_true, Bool.not_eq_true'] at hc
          rw [hc.1, hc.2]
          simp
        rw [this] at ih
        exact ih
      | false =>
        refine Ev.step (f := fun k => warderlaw13_SubtreesNarrow.l1 k n q e true false one ((i + 1 : Nat) : Int) p x) (fun k => by
          simp only [warderlaw13_SubtreesNarrow.l1]
          rw [if_pos (by omega), if_neg (by simp), w1 hi (by omega)]) ?_
        have : (allowedN p x n && !((e.take i).any (underN n) || underN n e[i])) = false := by
          revert hc
          cases allowedN p x n <;> cases (e.take i).any (underN n) <;> simp
        rw [this] at ih
        exact ih
  have h := ev_down (fun k i => warderlaw13_SubtreesNarrow.l0 k n q e true (allowedN p x n) (decide (q.length = 0) || (q.take i).any (underN n)) (i : Int) p x) (fun _ => true) q.length ?_ ?_
  · simpa using h
  · refine Ev.step (f := fun k => warderlaw13_SubtreesNarrow.l1 k n q e true (allowedN p x n) (decide (q.length = 0) || q.any (underN n)) 0 p x) (fun k => by
      simp only [warderlaw13_SubtreesNarrow.l0]
      rw [if_neg (by omega), List.take_length]) ?_
    exact key _ rfl
  · intro i hi ih
    rw [any_succ _ _ _ hi] at ih
    have hu := under_ev n q[i] hn (sLm q hq q[i] (List.getElem_mem _))
    have r4 := rd4 q i hi
    cases hc : (decide (q.length = 0) || (q.take i).any (underN n)) with
    | true =>
      refine Ev.step (f := fun k => warderlaw13_SubtreesNarrow.l0 k n q e true (allowedN p x n) true ((i + 1 : Nat) : Int) p x) (fun k => by
        simp only [warderlaw13_SubtreesNarrow.l0]
        rw [if_pos (by omega), if_pos trivial, w1 hi (by omega)]) ?_
      rw [← Bool.or_assoc, hc, Bool.true_or] at ih
      exact ih
    | false =>
      refine Ev.step (f := fun k => (warderref09_Under.f k n q[i]).bind fun t168 => (warderlaw13_SubtreesNarrow.l0 k n q e true (allowedN p x n) t168 ((i + 1 : Nat) : Int) p x)) (fun k => by
        simp only [warderlaw13_SubtreesNarrow.l0]
        rw [if_pos (by omega), if_neg (by simp), if_pos (by omega), r4, w1 hi (by omega)]) ?_
      refine Ev.bind hu ?_
      rw [← Bool.or_assoc, hc, Bool.false_or] at ih
      exact ih
end Lna
theorem subtreesNarrow.law (W : World) (x0 : S25) (A0_0 : Option Addr) (c0_0 : Nat) (A0_1 : Option Addr) (c0_1 : Nat) (A1 : Option Addr) (c1 : Nat) (l1 : List S35) (A2 : Option Addr) (c2 : Nat) (l2 : List (List S35)) (A3 : Option Addr) (c3 : Nat) (l3 : List (List S35))
    (hr0_0 : Kd.C (Kd.slice 27 (Kd.slice 35 k35)) W A0_0 x0.f0.length x0.f0) (hc0_0 : x0.f0.length ≤ c0_0) (hr0_1 : Kd.C (Kd.slice 35 k35) W A0_1 x0.f1.length x0.f1) (hc0_1 : x0.f1.length ≤ c0_1) (hb0 : b25 x0 ≤ 1048576)
    (hr1 : Kd.C k35 W A1 l1.length l1) (hc1 : l1.length ≤ c1) (hb1 : Op2.sumB b35 l1 + 1 ≤ 1048576) (hr2 : Kd.C (Kd.slice 35 k35) W A2 l2.length l2) (hc2 : l2.length ≤ c2) (hb2 : Op2.sumB (fun l => Op2.sumB b35 l + 1) l2 + 1 ≤ 1048576) (hr3 : Kd.C (Kd.slice 35 k35) W A3 l3.length l3) (hc3 : l3.length ≤ c3) (hb3 : Op2.sumB (fun l => Op2.sumB b35 l + 1) l3 + 1 ≤ 1048576) :
    Calls Try.prog 4 #[.agg #[.slice A0_0 x0.f0.length c0_0, .slice A0_1 x0.f1.length c0_1], .slice A1 l1.length c1, .slice A2 l2.length c2, .slice A3 l3.length c3] W fun e w' => e = .returned (.bool true) ∧ Below W.heap.size W w' := by
  unfold b25 at hb0
  simp only at hb0
  obtain ⟨k, hk⟩ := (Lna.plain x0.f0 x0.f1 l1 l2 l3 (show Op2.sumB (fun l => Op2.sumB (fun l => Op2.sumB b35 l + 1) l + 1) x0.f0 ≤ 1048576 by omega) (show Op2.sumB (fun l => Op2.sumB b35 l + 1) x0.f1 ≤ 1048576 by omega) (by omega) (show Op2.sumB (fun l => Op2.sumB b35 l + 1) l2 ≤ 1048576 by omega) (show Op2.sumB (fun l => Op2.sumB b35 l + 1) l3 ≤ 1048576 by omega)).rounds
  exact warderlaw13_SubtreesNarrow.calls k A0_0 c0_0 x0.f0 A0_1 c0_1 x0.f1 A1 c1 l1 A2 c2 l2 A3 c3 l3 true W hr0_0 hc0_0 hr0_1 hc0_1 hr1 hc1 hr2 hc2 hr3 hc3 rfl hk
end Go.Proofs.Ytalcfnhcenpniaa
