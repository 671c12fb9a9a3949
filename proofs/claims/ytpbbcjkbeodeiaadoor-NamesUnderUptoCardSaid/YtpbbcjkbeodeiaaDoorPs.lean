/- Chapter 9: what the functions compute, in plain words; what the second form's bound gives. No condition. -/
import Derived.Test.YtpbbcjkbeodeiaaDoorXS2
import Derived.Test.YtpbbcjkbeodeiaaDoorXS3
import Derived.Test.YtpbbcjkbeodeiaaDoorXS4
import Derived.Test.YtpbbcjkbeodeiaaDoorOpnS
set_option linter.unusedVariables false
set_option linter.unusedSimpArgs false
namespace Go.Proofs.YtpbbcjkbeodeiaaDoor
open Go.RowKit Go.Proofs.YtpbbcjkbeodeiaaDoorW.PrintWords Go.Proofs.YtpbbcjkbeodeiaaDoor.XS Go.Proofs.YtpbbcjkbeodeiaaDoor.OpS
namespace Ps
def underN (a b : List S42) : Bool := decide (b.length ≤ a.length) && sameN (a.take b.length) b
theorem smallN_take (l : List S42) (n : Nat) (h : smallN l = true) : smallN (l.take n) = true :=
  List.all_eq_true.2 fun x hx => List.all_eq_true.1 h x (List.mem_of_mem_take hx)
theorem names_Under.tells (a b : List S42) (ha : smallN a = true) (hb : smallN b = true) : names_Under.f a b = some (underN a b) := by
  unfold names_Under.f underN names_Same.f
  by_cases h : b.length ≤ a.length
  · rw [if_pos (by omega), if_pos (by omega), if_pos (by omega), if_pos ⟨smallN_take _ _ ha, hb⟩, decide_eq_true h]
    simp
  · rw [if_neg (by omega), decide_eq_false h]
    rfl
theorem ev_down {ρ : Type} (g : Nat → Nat → Option ρ) (T : Nat → ρ) (n : Nat) (h0 : Ev (fun k => g k n) (T n)) (hs : ∀ i, i < n → Ev (fun k => g k (i + 1)) (T (i + 1)) → Ev (fun k => g k i) (T i)) : Ev (fun k => g k 0) (T 0) := by
  have : ∀ d, d ≤ n → Ev (fun k => g k (n - d)) (T (n - d)) := by
    intro d
    induction d with
    | zero => intro _; exact h0
    | succ d ih =>
      intro hd
      have h1 := ih (by omega)
      have h2 := hs (n - (d + 1)) (by omega)
      rw [show n - (d + 1) + 1 = n - d by omega] at h2
      exact h2 h1
  have h := this n (Nat.le_refl _)
  rwa [Nat.sub_self] at h
theorem w1 {i n : Nat} (h : i < n) (hn : n ≤ 9223372036854775807) : wrap64 ((i : Int) + 1) = ((i + 1 : Nat) : Int) := by
  rw [wrap64_succ (by omega) (by omega : (i : Int) < (n : Int)) hn]
  omega
theorem same02_ev (a b : List Int) (hn : a.length ≤ 9223372036854775807) : Ev (fun k => warderref02_Same.f k a b) (decide (a = b)) := by
  by_cases hl : a.length = b.length
  · refine Ev.congr (f := fun k => warderref02_Same.l0 k a b ((0 : Nat) : Int)) (fun k => by unfold warderref02_Same.f; rw [if_pos (by omega)]; rfl) ?_
    have := ev_down (fun k i => warderref02_Same.l0 k a b (i : Int)) (fun i => decide (a.drop i = b.drop i)) a.length ?_ ?_
    · simpa using this
    · refine Ev.step (f := fun k => some true) (fun k => by simp only [warderref02_Same.l0]; rw [if_neg (by omega)]) ?_
      rw [List.drop_length, hl, List.drop_length]
      exact Ev.now _
    · intro i hi ih
      have hi2 : i < b.length := by omega
      have e1 : rd a (i : Int) = a[i] := by unfold rd; rw [Int.toNat_natCast, getD_eq _ _ _ hi]
      have e2 : rd b (i : Int) = b[i] := by unfold rd; rw [Int.toNat_natCast, getD_eq _ _ _ hi2]
      rw [List.drop_eq_getElem_cons hi, List.drop_eq_getElem_cons hi2]
      by_cases he : a[i] = b[i]
      · refine Ev.step (f := fun k => warderref02_Same.l0 k a b ((i + 1 : Nat) : Int)) (fun k => by simp only [warderref02_Same.l0]; rw [if_pos (by omega), if_pos (by omega), if_pos (by omega), e1, e2, if_pos he, w1 hi hn]) ?_
        simp only [he, List.cons.injEq, true_and]
        simpa using ih
      · refine Ev.step (f := fun k => some false) (fun k => by simp only [warderref02_Same.l0]; rw [if_pos (by omega), if_pos (by omega), if_pos (by omega), e1, e2, if_neg he]) ?_
        simp only [List.cons.injEq, he, false_and, decide_false]
        exact Ev.now _
  · refine Ev.congr (f := fun k => some false) (fun k => by unfold warderref02_Same.f; rw [if_neg (by omega)]) ?_
    have : a ≠ b := fun e => hl (by rw [e])
    simp only [this, decide_false]
    exact Ev.now _
theorem rdA (l : List S42) (i : Nat) (h : i < l.length) : rd_T42 l (i : Int) = l[i] := by unfold rd_T42; rw [Int.toNat_natCast, getD_eq _ _ _ h]
theorem same09_ev (a b : List S42) (hn : a.length ≤ 9223372036854775807) (ha : smallN a = true) (hb : smallN b = true) (hoid : ∀ x ∈ a, x.f0.length ≤ 9223372036854775807) : Ev (fun k => warderref09_Same.f k a b) (sameN a b) := by
  by_cases hl : a.length = b.length
  · refine Ev.congr (f := fun k => warderref09_Same.l0 k a b ((0 : Nat) : Int)) (fun k => by unfold warderref09_Same.f; rw [if_pos (by omega)]; rfl) ?_
    have := ev_down (fun k i => warderref09_Same.l0 k a b (i : Int)) (fun i => sameN (a.drop i) (b.drop i)) a.length ?_ ?_
    · simpa using this
    · refine Ev.step (f := fun k => some true) (fun k => by simp only [warderref09_Same.l0]; rw [if_neg (by omega)]) ?_
      rw [List.drop_length, hl, List.drop_length]
      exact Ev.now _
    · intro i hi ih
      have hi2 : i < b.length := by omega
      have e1 := rdA a i hi
      have e2 := rdA b i hi2
      have s1 : smallA a[i] = true := List.all_eq_true.1 ha _ (List.getElem_mem _)
      have s2 : smallA b[i] = true := List.all_eq_true.1 hb _ (List.getElem_mem _)
      have o1 := hoid a[i] (List.getElem_mem _)
      rw [sameN_drop a b i hi hi2]
      generalize hg : sameN (a.drop (i + 1)) (b.drop (i + 1)) = g at *
      generalize a[i] = x at *
      generalize b[i] = y at *
      unfold smallA at s1 s2
      have p1 : warderref03_Prep.f x.f1 = some ⟨(Tx.prep x.f1.data.toList).toArray⟩ := if_pos (of_decide_eq_true s1)
      have p2 : warderref03_Prep.f y.f1 = some ⟨(Tx.prep y.f1.data.toList).toArray⟩ := if_pos (of_decide_eq_true s2)
      refine Ev.step (f := fun k => (warderref02_Same.f k x.f0 y.f0).bind fun t130 => (if t130 = true then ((warderref03_Prep.f x.f1).bind fun t132 => ((warderref03_Prep.f y.f1).bind fun t134 => (if t132.toList = t134.toList then (warderref09_Same.l0 k a b (((i + 1 : Nat)) : Int)) else (some false)))) else (some false))) (fun k => by simp only [warderref09_Same.l0]; rw [if_pos (by omega), if_pos (by omega), if_pos (by omega), e1, e2, w1 hi hn]) ?_
      refine Ev.bind (same02_ev x.f0 y.f0 o1) ?_
      unfold attrEq
      by_cases h0 : x.f0 = y.f0
      · simp only [h0, decide_true, if_true, p1, p2, Option.bind_some, Bool.true_and]
        by_cases h1 : Tx.prep x.f1.data.toList = Tx.prep y.f1.data.toList
        · simp only [h1, if_true, decide_true, Bool.true_and]
          exact ih
        · have h2 : ¬ (⟨(Tx.prep x.f1.data.toList).toArray⟩ : ByteArray).toList = (⟨(Tx.prep y.f1.data.toList).toArray⟩ : ByteArray).toList := by
            simpa only [ByteArray.toList_eq] using h1
          simp only [h1, h2, if_false, decide_false, Bool.false_and]
          exact Ev.now _
      · simp only [h0, decide_false, Bool.false_eq_true, if_false, Bool.false_and]
        exact Ev.now _
  · refine Ev.congr (f := fun k => some false) (fun k => by unfold warderref09_Same.f; rw [if_neg (by omega)]) ?_
    have : sameN a b = false := by
      rw [Bool.eq_false_iff]
      exact fun e => hl (sameN_length _ _ e)
    rw [this]
    exact Ev.now _

theorem sA (x : S42) (h : b42 x ≤ 1048576) : smallA x = true ∧ x.f0.length ≤ 1048576 := by
  unfold b42 at h
  have := Op2.sumB_length (fun _ : Int => 1) (fun _ => Nat.le_refl _) x.f0
  simp only at h
  exact ⟨decide_eq_true (by omega), by omega⟩
abbrev bN (l : List S42) : Nat := Op2.sumB b42 l + 1
theorem sN (l : List S42) (h : Op2.sumB b42 l ≤ 1048576) : smallN l = true ∧ l.length ≤ 1048576 ∧ ∀ x ∈ l, x.f0.length ≤ 1048576 := by
  refine ⟨List.all_eq_true.2 fun x hx => (sA x ?_).1, ?_, fun x hx => (sA x ?_).2⟩
  · have := Op2.sumB_mem b42 l x hx; omega
  · have := Op2.sumB_length b42 (fun x => by unfold b42; omega) l; omega
  · have := Op2.sumB_mem b42 l x hx; omega
theorem under_ev (a b : List S42) (ha : Op2.sumB b42 a ≤ 1048576) (hb : Op2.sumB b42 b ≤ 1048576) : Ev (fun k => warderref09_Under.f k a b) (underN a b) := by
  obtain ⟨a1, a2, a3⟩ := sN a ha
  obtain ⟨b1, b2, b3⟩ := sN b hb
  unfold warderref09_Under.f underN
  by_cases h : b.length ≤ a.length
  · have h1 : (a.length : Int) ≥ (b.length : Int) := by omega
    have h2 : (0 : Int) ≤ (b.length : Int) := by omega
    have h3 : (b.length : Int) ≤ (a.length : Int) := by omega
    simp only [if_pos h1, if_pos h2, if_pos h3, decide_eq_true h, Bool.true_and, Int.toNat_natCast]
    refine Ev.bind (same09_ev (a.take b.length) b (by simp; omega) (smallN_take _ _ a1) b1 (fun x hx => by have := a3 x (List.mem_of_mem_take hx); omega)) ?_
    exact Ev.now _
  · have h1 : ¬ (a.length : Int) ≥ (b.length : Int) := by omega
    simp only [if_neg h1, decide_eq_false h, Bool.false_and]
    exact Ev.now _
end Ps
end Go.Proofs.YtpbbcjkbeodeiaaDoor
