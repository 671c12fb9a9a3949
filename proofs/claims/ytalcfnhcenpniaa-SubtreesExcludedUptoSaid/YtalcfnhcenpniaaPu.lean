/- Chapter 13: what the functions compute, in plain words; what the second form's bound gives. No condition. -/
import Derived.Test.YtalcfnhcenpniaaXU4
import Derived.Test.YtalcfnhcenpniaaXU5
import Derived.Test.YtalcfnhcenpniaaXU6
import Derived.Test.YtalcfnhcenpniaaXU7
import Derived.Test.YtalcfnhcenpniaaOpnU
set_option linter.unusedVariables false
set_option linter.unusedSimpArgs false
namespace Go.Proofs.Ytalcfnhcenpniaa
open Go.RowKit Go.Proofs.YtalcfnhcenpniaaW.PrintWords Go.Proofs.Ytalcfnhcenpniaa.XU Go.Proofs.Ytalcfnhcenpniaa.OpU
namespace Pu
theorem ev_down {ρ : Type} (g : Nat → Nat → Option ρ) (T : Nat → ρ) (n : Nat) (h0 : Ev (fun k => g k n) (T n)) (hs : ∀ i, i < n → Ev (fun k => g k (i + 1)) (T (i + 1)) → Ev (fun k => g k i) (T i)) : Ev (fun k => g k 0) (T 0) := by
  have : ∀ d, d ≤ n → Ev (fun k => g k (n - d)) (T (n - d)) := by
    intro d
    induction d with
    | zero => intro _; exact h0
    | succ d ih =>
      intro hd
      have h1 := ih (by omega)
      have h2 := hs (n - (d + 1)) (by omega)
      rw [show n - (d + 1) + 1 = n - d by omega] at h2
      exact h2 h1
  have h := this n (Nat.le_refl _)
  rwa [Nat.sub_self] at h
theorem w1 {i n : Nat} (h : i < n) (hn : n ≤ 9223372036854775807) : wrap64 ((i : Int) + 1) = ((i + 1 : Nat) : Int) := by
  rw [wrap64_succ (by omega) (by omega : (i : Int) < (n : Int)) hn]
  omega
theorem same02_ev (a b : List Int) (hn : a.length ≤ 9223372036854775807) : Ev (fun k => warderref02_Same.f k a b) (decide (a = b)) := by
  by_cases hl : a.length = b.length
  · refine Ev.congr (f := fun k => warderref02_Same.l0 k a b ((0 : Nat) : Int)) (fun k => by unfold warderref02_Same.f; rw [if_pos (by omega)]; rfl) ?_
    have := ev_down (fun k i => warderref02_Same.l0 k a b (i : Int)) (fun i => decide (a.drop i = b.drop i)) a.length ?_ ?_
    · simpa using this
    · refine Ev.step (f := fun k => some true) (fun k => by simp only [warderref02_Same.l0]; rw [if_neg (by omega)]) ?_
      rw [List.drop_length, hl, List.drop_length]
      exact Ev.now _
    · intro i hi ih
      have hi2 : i < b.length := by omega
      have e1 : rd a (i : Int) = a[i] := by unfold rd; rw [Int.toNat_natCast, getD_eq _ _ _ hi]
      have e2 : rd b (i : Int) = b[i] := by unfold rd; rw [Int.toNat_natCast, getD_eq _ _ _ hi2]
      rw [List.drop_eq_getElem_cons hi, List.drop_eq_getElem_cons hi2]
      by_cases he : a[i] = b[i]
      · refine Ev.step (f := fun k => warderref02_Same.l0 k a b ((i + 1 : Nat) : Int)) (fun k => by simp only [warderref02_Same.l0]; rw [if_pos (by omega), if_pos (by omega), if_pos (by omega), e1, e2, if_pos he, w1 hi hn]) ?_
        simp only [he, List.cons.injEq, true_and]
        simpa using ih
      · refine Ev.step (f := fun k => some false) (fun k => by simp only [warderref02_Same.l0]; rw [if_pos (by omega), if_pos (by omega), if_pos (by omega), e1, e2, if_neg he]) ?_
        simp only [List.cons.injEq, he, false_and, decide_false]
        exact Ev.now _
  · refine Ev.congr (f := fun k => some false) (fun k => by unfold warderref02_Same.f; rw [if_neg (by omega)]) ?_
    have : a ≠ b := fun e => hl (by rw [e])
    simp only [this, decide_false]
    exact Ev.now _
theorem rd35 (l : List S35) (i : Nat) (h : i < l.length) : rd_T35 l (i : Int) = l[i] := by unfold rd_T35; rw [Int.toNat_natCast, getD_eq _ _ _ h]
theorem same09_ev (a b : List S35) (hn : a.length ≤ 9223372036854775807) (ha : smallN a = true) (hb : smallN b = true) (hoid : ∀ x ∈ a, x.f0.length ≤ 9223372036854775807) : Ev (fun k => warderref09_Same.f k a b) (sameN a b) := by
  by_cases hl : a.length = b.length
  · refine Ev.congr (f := fun k => warderref09_Same.l0 k a b ((0 : Nat) : Int)) (fun k => by unfold warderref09_Same.f; rw [if_pos (by omega)]; rfl) ?_
    have := ev_down (fun k i => warderref09_Same.l0 k a b (i : Int)) (fun i => sameN (a.drop i) (b.drop i)) a.length ?_ ?_
    · simpa using this
    · refine Ev.step (f := fun k => some true) (fun k => by simp only [warderref09_Same.l0]; rw [if_neg (by omega)]) ?_
      rw [List.drop_length, hl, List.drop_length]
      exact Ev.now _
    · intro i hi ih
      have hi2 : i < b.length := by omega
      have e1 := rd35 a i hi
      have e2 := rd35 b i hi2
      have s1 : smallA a[i] = true := List.all_eq_true.1 ha _ (List.getElem_mem _)
      have s2 : smallA b[i] = true := List.all_eq_true.1 hb _ (List.getElem_mem _)
      have o1 := hoid a[i] (List.getElem_mem _)
      rw [sameN_drop a b i hi hi2]
      generalize hg : sameN (a.drop (i + 1)) (b.drop (i + 1)) = g at *
      generalize a[i] = x at *
      generalize b[i] = y at *
      unfold smallA at s1 s2
      have p1 : warderref03_Prep.f x.f1 = some ⟨(Tx.prep x.f1.data.toList).toArray⟩ := if_pos (of_decide_eq_true s1)
      have p2 : warderref03_Prep.f y.f1 = some ⟨(Tx.prep y.f1.data.toList).toArray⟩ := if_pos (of_decide_eq_true s2)
      refine Ev.step (f := fun k => (warderref02_Same.f k x.f0 y.f0).bind fun t130 => (if t130 = true then ((warderref03_Prep.f x.f1).bind fun t132 => ((warderref03_Prep.f y.f1).bind fun t134 => (if t132.toList = t134.toList then (warderref09_Same.l0 k a b (((i + 1 : Nat)) : Int)) else (some false)))) else (some false))) (fun k => by simp only [warderref09_Same.l0]; rw [if_pos (by omega), if_pos (by omega), if_pos (by omega), e1, e2, w1 hi hn]) ?_
      refine Ev.bind (same02_ev x.f0 y.f0 o1) ?_
      unfold attrEq
      by_cases h0 : x.f0 = y.f0
      · simp only [h0, decide_true, if_true, p1, p2, Option.bind_some, Bool.true_and]
        by_cases h1 : Tx.prep x.f1.data.toList = Tx.prep y.f1.data.toList
        · simp only [h1, if_true, decide_true, Bool.true_and]
          exact ih
        · have h2 : ¬ (⟨(Tx.prep x.f1.data.toList).toArray⟩ : ByteArray).toList = (⟨(Tx.prep y.f1.data.toList).toArray⟩ : ByteArray).toList := by
            simpa only [ByteArray.toList_eq] using h1
          simp only [h1, h2, if_false, decide_false, Bool.false_and]
          exact Ev.now _
      · simp only [h0, decide_false, Bool.false_eq_true, if_false, Bool.false_and]
        exact Ev.now _
  · refine Ev.congr (f := fun k => some false) (fun k => by unfold warderref09_Same.f; rw [if_neg (by omega)]) ?_
    have : sameN a b = false := by
      rw [Bool.eq_false_iff]
      exact fun e => hl (sameN_length _ _ e)
    rw [this]
    exact Ev.now _

theorem s35 (x : S35) (h : b35 x ≤ 1048576) : smallA x = true ∧ x.f0.length ≤ 1048576 := by
  unfold b35 at h
  have := Op2.sumB_length (fun _ : Int => 1) (fun _ => Nat.le_refl _) x.f0
  simp only at h
  exact ⟨decide_eq_true (by omega), by omega⟩
abbrev bN (l : List S35) : Nat := Op2.sumB b35 l + 1
abbrev bL (l : List (List S35)) : Nat := Op2.sumB bN l + 1
theorem sN (l : List S35) (h : Op2.sumB b35 l ≤ 1048576) : smallN l = true ∧ l.length ≤ 1048576 ∧ ∀ x ∈ l, x.f0.length ≤ 1048576 := by
  refine ⟨List.all_eq_true.2 fun x hx => (s35 x ?_).1, ?_, fun x hx => (s35 x ?_).2⟩
  · have := Op2.sumB_mem b35 l x hx; omega
  · have := Op2.sumB_length b35 (fun x => by unfold b35; omega) l; omega
  · have := Op2.sumB_mem b35 l x hx; omega
theorem sLm (l : List (List S35)) (h : Op2.sumB bN l ≤ 1048576) (x : List S35) (hx : x ∈ l) : Op2.sumB b35 x ≤ 1048576 := by
  have := Op2.sumB_mem bN l x hx
  have h2 : bN x = Op2.sumB b35 x + 1 := rfl
  omega
theorem sL (l : List (List S35)) (h : Op2.sumB bN l ≤ 1048576) : smallL l = true ∧ l.length ≤ 1048576 ∧ smallC l = true := by
  have hl : l.length ≤ 1048576 := by have := Op2.sumB_length bN (fun x => by unfold bN; omega) l; omega
  refine ⟨List.all_eq_true.2 fun x hx => (sN x (sLm l h x hx)).1, hl, ?_⟩
  unfold smallC
  simp only [Bool.and_eq_true, decide_eq_true_eq, List.all_eq_true]
  refine ⟨by omega, fun x hx => ?_⟩
  obtain ⟨_, h2, h3⟩ := sN x (sLm l h x hx)
  exact ⟨by omega, fun y hy => by have := h3 y hy; omega⟩
theorem sPm (p : List (List (List S35))) (h : Op2.sumB bL p ≤ 1048576) (x : List (List S35)) (hx : x ∈ p) : Op2.sumB bN x ≤ 1048576 := by
  have := Op2.sumB_mem bL p x hx
  have h2 : bL x = Op2.sumB bN x + 1 := rfl
  omega
theorem sP (p : List (List (List S35))) (h : Op2.sumB bL p ≤ 1048576) : smallP p = true ∧ p.length ≤ 1048576 :=
  ⟨List.all_eq_true.2 fun x hx => (sL x (sPm p h x hx)).1, by have := Op2.sumB_length bL (fun x => by unfold bL; omega) p; omega⟩
theorem under_ev (a b : List S35) (ha : Op2.sumB b35 a ≤ 1048576) (hb : Op2.sumB b35 b ≤ 1048576) : Ev (fun k => warderref09_Under.f k a b) (underN a b) := by
  obtain ⟨a1, a2, a3⟩ := sN a ha
  obtain ⟨b1, b2, b3⟩ := sN b hb
  unfold warderref09_Under.f underN
  by_cases h : b.length ≤ a.length
  · have h1 : (a.length : Int) ≥ (b.length : Int) := by omega
    have h2 : (0 : Int) ≤ (b.length : Int) := by omega
    have h3 : (b.length : Int) ≤ (a.length : Int) := by omega
    simp only [if_pos h1, if_pos h2, if_pos h3, decide_eq_true h, Bool.true_and, Int.toNat_natCast]
    refine Ev.bind (same09_ev (a.take b.length) b (by simp; omega) (smallN_take _ _ a1) b1 (fun x hx => by have := a3 x (List.mem_of_mem_take hx); omega)) ?_
    exact Ev.now _
  · have h1 : ¬ (a.length : Int) ≥ (b.length : Int) := by omega
    simp only [if_neg h1, decide_eq_false h, Bool.false_and]
    exact Ev.now _
theorem great_ev (p : List (List (List S35))) (x : List (List S35)) (hp : p.length ≤ 1048576) : ∃ b, Ev (fun k => warderlaw13_great.f k p x) b := by
  have : ∀ d i, d = p.length - i → i ≤ p.length → ∀ n : Int, ∃ b, Ev (fun k => warderlaw13_great.l0 k n (i : Int) p x) b := by
    intro d
    induction d with
    | zero =>
      intro i hd hi n
      refine ⟨_, Ev.step (f := fun k => some (decide (n > 1000))) (fun k => by simp only [warderlaw13_great.l0]; rw [if_neg (by omega)]) (Ev.now _)⟩
    | succ d ih =>
      intro i hd hi n
      by_cases hn : n ≤ 1000
      · obtain ⟨b, hb⟩ := ih (i + 1) (by omega) (by omega) (wrap64 ((wrap64 (n + 1)) + (mn ((rd_L6 p (i : Int)).length : Int) 1000)))
        refine ⟨b, Ev.step (f := fun k => warderlaw13_great.l0 k (wrap64 ((wrap64 (n + 1)) + (mn ((rd_L6 p (i : Int)).length : Int) 1000))) ((i + 1 : Nat) : Int) p x) (fun k => by simp only [warderlaw13_great.l0]; rw [if_pos (by omega), if_pos hn, if_pos (by omega), w1 (show i < p.length by omega) (by omega)]) hb⟩
      · refine ⟨_, Ev.step (f := fun k => some (decide (n > 1000))) (fun k => by simp only [warderlaw13_great.l0]; rw [if_pos (by omega), if_neg hn]) (Ev.now _)⟩
  exact this p.length 0 (by omega) (by omega) (x.length : Int)
def narrowed (p : List (List (List S35))) (q : List (List S35)) : List (List (List S35)) := if 0 < q.length then p ++ [q] else p
theorem cloned_some (l : List (List S35)) (h : Op2.sumB bN l ≤ 1048576) : subtrees_cloned.f l = some l := by
  unfold subtrees_cloned.f
  rw [if_pos (sL l h).2.2]
theorem narrow_ev (p : List (List (List S35))) (x q e : List (List S35)) (hp : Op2.sumB bL p ≤ 1048576) (hx : Op2.sumB bN x ≤ 1048576) (hq : Op2.sumB bN q ≤ 1048576) (he : Op2.sumB bN e ≤ 1048576) : Ev (fun k => subtrees_Narrow.f k p x q e) (narrowed p q, x ++ e) := by
  have hpl := (sP p hp).2
  have hxl := (sL x hx).2.1
  have hel := (sL e he).2.1
  have := ev_down (fun k i => subtrees_Narrow.l0 k q e p (p.length : Int) (i : Int) p x (p.take i)) (fun _ => (narrowed p q, x ++ e)) p.length ?_ ?_
  · simpa [subtrees_Narrow.f] using this
  · refine Ev.step (f := fun k => some (narrowed p q, x ++ e)) (fun k => ?_) (Ev.now _)
    simp only [subtrees_Narrow.l0]
    rw [if_neg (by omega), List.take_length]
    unfold narrowed
    by_cases h : 0 < q.length
    · rw [if_pos (by omega), if_pos h, cloned_some q hq, cloned_some x hx, cloned_some e he]
      simp only [Option.bind_some]
      rw [if_pos (by omega), if_pos (by omega)]
    · rw [if_neg (by omega), if_neg h, cloned_some x hx, cloned_some e he]
      simp only [Option.bind_some]
      rw [if_pos (by omega)]
  · intro i hi ih
    have e1 : rd_L6 p (i : Int) = p[i] := by unfold rd_L6; rw [Int.toNat_natCast, getD_eq _ _ _ hi]
    have hc := cloned_some p[i] (sPm p hp p[i] (List.getElem_mem _))
    refine Ev.step (f := fun k => subtrees_Narrow.l0 k q e p (p.length : Int) ((i + 1 : Nat) : Int) p x (p.take (i + 1))) (fun k => ?_) ih
    rw [List.take_succ_eq_append_getElem hi]
    simp only [subtrees_Narrow.l0]
    rw [if_pos (by omega), if_pos (by omega), if_pos (by omega), e1, hc]
    simp only [Option.bind_some]
    rw [if_pos (by simp; omega), w1 hi (by omega)]
theorem smallP_narrowed {p : List (List (List S35))} {q : List (List S35)} (hp : smallP p = true) (hq : smallL q = true) : smallP (narrowed p q) = true := by
  unfold narrowed
  split
  · unfold smallP at *
    rw [List.all_append, hp]
    simp [hq]
  · exact hp
theorem smallL_append {x e : List (List S35)} (hx : smallL x = true) (he : smallL e = true) : smallL (x ++ e) = true := by
  unfold smallL at *
  rw [List.all_append, hx, he]
  rfl
theorem smallN_append {x e : List S35} (hx : smallN x = true) (he : smallN e = true) : smallN (x ++ e) = true := by
  unfold smallN at *
  rw [List.all_append, hx, he]
  rfl
theorem allowed_some {p : List (List (List S35))} {x : List (List S35)} {n : List S35} (hp : smallP p = true) (hx : smallL x = true) (hn : smallN n = true) : subtrees_Allowed.f p x n = some (allowedN p x n) := if_pos ⟨hp, hx, hn⟩
theorem attr_refl (x : S35) : attrEq x x = true := by simp [attrEq]
theorem sameN_refl : ∀ l : List S35, sameN l l = true
  | [] => rfl
  | x :: l => by simp [sameN, attr_refl, sameN_refl l]
theorem allowed_narrow (p : List (List (List S35))) (x q e : List (List S35)) (n : List S35) : allowedN (narrowed p q) (x ++ e) n = ((allowedN p x n && !e.any (underN n)) && (decide (q.length = 0) || q.any (underN n))) := by
  unfold allowedN narrowed amongN
  rw [List.any_append]
  by_cases h : 0 < q.length
  · have h0 : ¬ q.length = 0 := by omega
    rw [if_pos h, List.all_append]
    simp only [List.all_cons, List.all_nil, Bool.and_true, h0, decide_false, Bool.false_or]
    cases (p.all fun l => l.any (underN n)) <;> cases q.any (underN n) <;> cases x.any (underN n) <;> cases e.any (underN n) <;> rfl
  · have h0 : q.length = 0 := by omega
    rw [if_neg h]
    simp only [h0, decide_true, Bool.true_or, Bool.and_true]
    cases (p.all fun l => l.any (underN n)) <;> cases x.any (underN n) <;> cases e.any (underN n) <;> rfl
theorem under_more (n m b : List S35) (h : underN n b = true) : underN (n ++ m) b = true := by
  unfold underN at *
  simp only [Bool.and_eq_true, decide_eq_true_eq] at h ⊢
  refine ⟨by simp; omega, ?_⟩
  rw [List.take_append_of_le_length h.1]
  exact h.2
theorem under_self (n m : List S35) : underN (n ++ m) n = true := by
  unfold underN
  simp [sameN_refl]
theorem h35 : Kd.Heap k35 := Kd.heap_iso _ (Kd.heap_pair (Kd.heap_slice 3 (Kd.heap_int .i64)) Kd.heap_string)
end Pu
end Go.Proofs.Ytalcfnhcenpniaa
