/- The law NamesUnder, walked. No condition. -/
import Derived.Test.YtpbbcjkbeodeiaaDoorPs
import Derived.Test.YtpbbcjkbeodeiaaDoorXS5
set_option linter.unusedVariables false
set_option linter.unusedSimpArgs false
namespace Go.Proofs.YtpbbcjkbeodeiaaDoor
open Go.RowKit Go.Proofs.YtpbbcjkbeodeiaaDoorW.PrintWords Go.Proofs.YtpbbcjkbeodeiaaDoor.XS Go.Proofs.YtpbbcjkbeodeiaaDoor.OpS Go.Proofs.YtpbbcjkbeodeiaaDoor.Ps
namespace Lun
def key (x : S42) : List Int × List UInt8 := (x.f0, Tx.prep x.f1.data.toList)
theorem attr_iff (x y : S42) : attrEq x y = true ↔ key x = key y := by
  unfold attrEq key
  simp [Prod.ext_iff]
theorem same_iff : ∀ a b : List S42, sameN a b = true ↔ a.map key = b.map key
  | [], [] => by simp [sameN]
  | [], _ :: _ => by simp [sameN]
  | _ :: _, [] => by simp [sameN]
  | x :: a, y :: b => by simp [sameN, attr_iff, same_iff a b]
theorem under_iff (a b : List S42) : underN a b = true ↔ b.map key <+: a.map key := by
  unfold underN
  rw [Bool.and_eq_true, decide_eq_true_iff, same_iff, List.prefix_iff_eq_take, List.map_take, List.length_map]
  refine ⟨fun h => h.2.symm, fun h => ⟨?_, h.symm⟩⟩
  have := congrArg List.length h
  simp at this
  omega
theorem same_symm (a b : List S42) : sameN a b = sameN b a := by
  rw [Bool.eq_iff_iff, same_iff, same_iff]
  exact eq_comm
theorem both (a b : List S42) : (underN a b && underN b a) = sameN a b := by
  rw [Bool.eq_iff_iff, Bool.and_eq_true, under_iff, under_iff, same_iff]
  refine ⟨fun h => h.2.eq_of_length (Nat.le_antisymm h.2.length_le h.1.length_le), fun h => by rw [h]; exact ⟨List.prefix_refl _, List.prefix_refl _⟩⟩
section
variable (a b c : List S42) (ha : smallN a = true) (hb : smallN b = true) (hc : smallN c = true) (la : a.length ≤ 1048576) (lb : b.length ≤ 1048576)
include ha hb la lb
theorem j2_ev : Ev (fun k => warderlaw09_NamesUnder.j2 k a b true true true) true := by
  have hs : smallN (a ++ b) = true := by
    unfold smallN at *
    rw [List.all_append, ha, hb]
    rfl
  have e1 : names_Under.f (a ++ b) a = some true := by
    rw [names_Under.tells _ _ hs ha]
    congr 1
    rw [under_iff, List.map_append]
    exact List.prefix_append _ _
  have e2 := names_Under.tells a b ha hb
  have e3 := names_Under.tells b a hb ha
  have e4 : names_Same.f a b = some (sameN a b) := if_pos ⟨ha, hb⟩
  have e5 := both a b
  refine Ev.step (f := fun k => some true) (fun k => ?_) (Ev.now _)
  simp only [warderlaw09_NamesUnder.j2, Option.bind_some, List.nil_append]
  rw [if_pos (by simp; omega), if_pos (by omega)]
  simp only [if_true, e1, e2, e3, e4, Option.bind_some]
  rw [← e5]
  cases underN a b <;> simp
include hc
theorem j1_ev : Ev (fun k => warderlaw09_NamesUnder.j1 k a b c true true) true := by
  have e2 := names_Under.tells a b ha hb
  have e3 := names_Under.tells b c hb hc
  have e4 := names_Under.tells a c ha hc
  have h2 := j2_ev a b ha hb la lb
  refine Ev.step (f := fun k => warderlaw09_NamesUnder.j2 k a b true true true) (fun k => ?_) h2
  simp only [warderlaw09_NamesUnder.j1, e2, e3, e4, Option.bind_some]
  cases h1 : underN a b with
  | false => simp
  | true =>
    cases h3 : underN b c with
    | false => simp
    | true =>
      have h4 : underN a c = true := (under_iff a c).2 (((under_iff b c).1 h3).trans ((under_iff a b).1 h1))
      simp [h4]
theorem j0_ev : Ev (fun k => warderlaw09_NamesUnder.j0 k a b c true false) true := by
  have e1 : names_Same.f a a = some (sameN a a) := if_pos ⟨ha, ha⟩
  have e2 : names_Same.f a b = some (sameN a b) := if_pos ⟨ha, hb⟩
  have e3 : names_Same.f b a = some (sameN b a) := if_pos ⟨hb, ha⟩
  have e4 : names_Same.f b c = some (sameN b c) := if_pos ⟨hb, hc⟩
  have e5 : names_Same.f a c = some (sameN a c) := if_pos ⟨ha, hc⟩
  have r : sameN a a = true := (same_iff a a).2 rfl
  refine Ev.step (f := fun k => warderlaw09_NamesUnder.j1 k a b c true true) (fun k => ?_) (j1_ev a b c ha hb hc la lb)
  simp only [warderlaw09_NamesUnder.j0, e1, e2, e3, e4, e5, r, Option.bind_some, if_true]
  rw [← same_symm a b]
  cases h1 : sameN a b with
  | false => simp
  | true =>
    cases h3 : sameN b c with
    | false => simp
    | true =>
      have h4 : sameN a c = true := (same_iff a c).2 (((same_iff a b).1 h1).trans ((same_iff b c).1 h3))
      simp [h4]
end
theorem plain (a b c : List S42) (ha : Op2.sumB b42 a ≤ 1048576) (hb : Op2.sumB b42 b ≤ 1048576) (hc : Op2.sumB b42 c ≤ 1048576) : Ev (fun k => warderlaw09_NamesUnder.f k a b c) true := by
  obtain ⟨a1, a2, a3⟩ := sN a ha
  obtain ⟨b1, b2, b3⟩ := sN b hb
  obtain ⟨c1, c2, c3⟩ := sN c hc
  have none_ : Ev (fun k => warderlaw09_NamesUnder.j0 k a b c true true) true :=
    Ev.step (f := fun k => some true) (fun k => by simp only [warderlaw09_NamesUnder.j0]; rw [if_pos trivial]) (Ev.now _)
  have key := j0_ev a b c a1 b1 c1 a2 b2
  unfold warderlaw09_NamesUnder.f warderlaw09_head.f
  simp only [Option.bind_some]
  by_cases h : (a.length : Int) > 200
  · simp only [if_pos h]
    exact none_
  · simp only [if_neg h]
    by_cases h2 : (b.length : Int) > 200
    · simp only [if_pos h2]
      exact none_
    · simp only [if_neg h2]
      by_cases h3 : (c.length : Int) > 200
      · simp only [decide_eq_true h3]
        exact none_
      · simp only [decide_eq_false h3]
        exact key
theorem hA : Kd.Heap k42 := Kd.heap_iso _ (Kd.heap_pair (Kd.heap_slice 3 (Kd.heap_int .i64)) Kd.heap_string)
end Lun
theorem namesUnder.law (W : World) (A0 : Option Addr) (c0 : Nat) (l0 : List S42) (A1 : Option Addr) (c1 : Nat) (l1 : List S42) (A2 : Option Addr) (c2 : Nat) (l2 : List S42) (hr0 : Kd.C k42 W A0 l0.length l0) (hc0 : l0.length ≤ c0) (hb0 : Op2.sumB b42 l0 + 1 ≤ 1048576) (hr1 : Kd.C k42 W A1 l1.length l1) (hc1 : l1.length ≤ c1) (hb1 : Op2.sumB b42 l1 + 1 ≤ 1048576) (hr2 : Kd.C k42 W A2 l2.length l2) (hc2 : l2.length ≤ c2) (hb2 : Op2.sumB b42 l2 + 1 ≤ 1048576) :
    Calls Tryd.prog 5 #[.slice A0 l0.length c0, .slice A1 l1.length c1, .slice A2 l2.length c2] W fun e w' => e = .returned (.bool true) ∧ Below W.heap.size W w' := by
  obtain ⟨k, hk⟩ := (Lun.plain l0 l1 l2 (by omega) (by omega) (by omega)).rounds
  exact warderlaw09_NamesUnder.calls k (fun k => k < W.heap.size) A0 c0 l0 (fun k => k < W.heap.size) A1 c1 l1 A2 c2 l2 true W (Kd.V_mk hc0 (Kd.F_of_C Lun.hA hr0)) (Kd.V_mk hc1 (Kd.F_of_C Lun.hA hr1)) hr2 hc2 rfl hk
end Go.Proofs.YtpbbcjkbeodeiaaDoor
