/- The law NamesSame, walked. No condition. -/
import Derived.Test.YtpbbcjkbeodeiaaDoorPs
set_option linter.unusedVariables false
set_option linter.unusedSimpArgs false
namespace Go.Proofs.YtpbbcjkbeodeiaaDoor
open Go.RowKit Go.Proofs.YtpbbcjkbeodeiaaDoorW.PrintWords Go.Proofs.YtpbbcjkbeodeiaaDoor.XS Go.Proofs.YtpbbcjkbeodeiaaDoor.OpS Go.Proofs.YtpbbcjkbeodeiaaDoor.Ps
namespace Lsa
theorem plain (a b : List S42) (ha : Op2.sumB b42 a ≤ 1048576) (hb : Op2.sumB b42 b ≤ 1048576) : Ev (fun k => warderlaw09_NamesSame.f k a b) true := by
  obtain ⟨a1, a2, a3⟩ := sN a ha
  obtain ⟨b1, b2, b3⟩ := sN b hb
  have key : Ev (fun k => warderlaw09_NamesSame.j0 k a b true false) true := by
    refine Ev.step (f := fun k => (names_Same.f a b).bind fun t128 => ((warderref09_Same.f k a b).bind fun t129 => (if (t128 == t129) = true then ((names_Under.f a b).bind fun t130 => ((warderref09_Under.f k a b).bind fun t131 => (some (t130 == t131)))) else (some false)))) (fun k => by
      simp only [warderlaw09_NamesSame.j0]
      rw [if_neg (by simp), if_pos trivial]) ?_
    have e1 : names_Same.f a b = some (sameN a b) := if_pos ⟨a1, b1⟩
    simp only [e1, names_Under.tells a b a1 b1, Option.bind_some]
    refine Ev.bind (same09_ev a b (by omega) a1 b1 (fun x hx => by have := a3 x hx; omega)) ?_
    simp only [beq_self_eq_true, if_true]
    refine Ev.bind (under_ev a b ha hb) ?_
    simp only [beq_self_eq_true]
    exact Ev.now _
  have none_ : Ev (fun k => warderlaw09_NamesSame.j0 k a b true true) true :=
    Ev.step (f := fun k => some true) (fun k => by simp only [warderlaw09_NamesSame.j0]; rw [if_pos trivial]) (Ev.now _)
  unfold warderlaw09_NamesSame.f warderlaw09_head.f
  simp only [Option.bind_some]
  by_cases h : (a.length : Int) > 500
  · simp only [if_pos h]
    exact none_
  · simp only [if_neg h]
    by_cases h2 : (b.length : Int) > 500
    · simp only [decide_eq_true h2]
      exact none_
    · simp only [decide_eq_false h2]
      exact key
end Lsa
theorem namesSame.law (W : World) (A0 : Option Addr) (c0 : Nat) (l0 : List S42) (A1 : Option Addr) (c1 : Nat) (l1 : List S42) (hr0 : Kd.C k42 W A0 l0.length l0) (hc0 : l0.length ≤ c0) (hb0 : Op2.sumB b42 l0 + 1 ≤ 1048576) (hr1 : Kd.C k42 W A1 l1.length l1) (hc1 : l1.length ≤ c1) (hb1 : Op2.sumB b42 l1 + 1 ≤ 1048576) :
    Calls Tryd.prog 4 #[.slice A0 l0.length c0, .slice A1 l1.length c1] W fun e w' => e = .returned (.bool true) ∧ Below W.heap.size W w' := by
  obtain ⟨k, hk⟩ := (Lsa.plain l0 l1 (by omega) (by omega)).rounds
  exact warderlaw09_NamesSame.calls k A0 c0 l0 A1 c1 l1 true W hr0 hc0 hr1 hc1 hk
end Go.Proofs.YtpbbcjkbeodeiaaDoor
