/- What chapter 21's references compute: the same plain functions as the program. No condition. -/
import Derived.Test.YtalcfnhcenpniaaXT3
import Derived.Test.YtalcfnhcenpniaaXT4
import Derived.Test.YtalcfnhcenpniaaXT9
import Derived.Test.YtalcfnhcenpniaaXT10
set_option linter.unusedVariables false
set_option linter.unusedSimpArgs false
namespace Go.Proofs.Ytalcfnhcenpniaa
open Go.RowKit Go.Proofs.YtalcfnhcenpniaaW.PrintWords Go.Proofs.Ytalcfnhcenpniaa.XT
namespace Pq
theorem ev_down {ρ : Type} (g : Nat → Nat → Option ρ) (T : Nat → ρ) (n : Nat) (h0 : Ev (fun k => g k n) (T n)) (hs : ∀ i, i < n → Ev (fun k => g k (i + 1)) (T (i + 1)) → Ev (fun k => g k i) (T i)) : Ev (fun k => g k 0) (T 0) := by
  have : ∀ d, d ≤ n → Ev (fun k => g k (n - d)) (T (n - d)) := by
    intro d
    induction d with
    | zero => intro _; exact h0
    | succ d ih =>
      intro hd
      have h1 := ih (by omega)
      have h2 := hs (n - (d + 1)) (by omega)
      rw [show n - (d + 1) + 1 = n - d by omega] at h2
      exact h2 h1
  have h := this n (Nat.le_refl _)
  rwa [Nat.sub_self] at h
theorem w1 {i n : Nat} (h : i < n) (hn : n ≤ 9223372036854775807) : wrap64 ((i : Int) + 1) = ((i + 1 : Nat) : Int) := by
  rw [wrap64_succ (by omega) (by omega : (i : Int) < (n : Int)) hn]
  omega
theorem alike_ev (r1 : ByteArray) (n1 : List ByteArray) (r2 : ByteArray) (n2 : List ByteArray) (hn : n1.length ≤ 9223372036854775807) : Ev (fun k => warderref09_AlikePrinc.f k r1 n1 r2 n2) (alikeP r1 n1 r2 n2) := by
  unfold alikeP
  by_cases h : r1 = r2
  · subst h
    by_cases hl : n1.length = n2.length
    · refine Ev.congr (f := fun k => warderref09_AlikePrinc.j0 k false r1 n1 r1 n2) (fun k => by unfold warderref09_AlikePrinc.f; rw [if_pos rfl, hl]; simp) ?_
      refine Ev.step (f := fun k => warderref09_AlikePrinc.l0 k 0 r1 n1 r1 n2) (fun k => by rw [warderref09_AlikePrinc.j0]; simp) ?_
      have := ev_down (fun k i => warderref09_AlikePrinc.l0 k (i : Int) r1 n1 r1 n2) (fun i => decide (n1.drop i = n2.drop i)) n1.length ?_ ?_
      · simpa using this
      · refine Ev.step (f := fun k => some true) (fun k => by simp only [warderref09_AlikePrinc.l0]; rw [if_neg (by omega)]) ?_
        rw [List.drop_length, hl, List.drop_length]
        exact Ev.now _
      · intro i hi ih
        have hi2 : i < n2.length := by omega
        have e1 : rdOf ByteArray.empty n1 (i : Int) = n1[i] := by unfold rdOf; rw [Int.toNat_natCast, getD_eq _ _ _ hi]
        have e2 : rdOf ByteArray.empty n2 (i : Int) = n2[i] := by unfold rdOf; rw [Int.toNat_natCast, getD_eq _ _ _ hi2]
        rw [List.drop_eq_getElem_cons hi, List.drop_eq_getElem_cons hi2]
        by_cases he : n1[i] = n2[i]
        · refine Ev.step (f := fun k => warderref09_AlikePrinc.l0 k ((i + 1 : Nat) : Int) r1 n1 r1 n2) (fun k => by simp only [warderref09_AlikePrinc.l0]; rw [if_pos (by omega), if_pos (by omega), if_pos (by omega), e1, e2, if_pos (by rw [he]), w1 hi hn]) ?_
          simp only [he, List.cons.injEq, true_and]
          simpa using ih
        · refine Ev.step (f := fun k => some false) (fun k => by simp only [warderref09_AlikePrinc.l0]; rw [if_pos (by omega), if_pos (by omega), if_pos (by omega), e1, e2, if_neg (fun e => he (bytes_inj e))]) ?_
          simp only [List.cons.injEq, he, false_and, decide_false]
          exact Ev.now _
    · refine Ev.congr (f := fun k => warderref09_AlikePrinc.j0 k true r1 n1 r1 n2) (fun k => by unfold warderref09_AlikePrinc.f; rw [if_pos rfl]; congr 1; rw [bne_iff_ne]; omega) ?_
      refine Ev.step (f := fun k => some false) (fun k => by rw [warderref09_AlikePrinc.j0]; simp) ?_
      have : n1 ≠ n2 := fun e => hl (by rw [e])
      simp only [this, decide_false, Bool.and_false]
      exact Ev.now _
  · refine Ev.congr (f := fun k => warderref09_AlikePrinc.j0 k true r1 n1 r2 n2) (fun k => by unfold warderref09_AlikePrinc.f; rw [if_neg (fun e => h (bytes_inj e))]) ?_
    refine Ev.step (f := fun k => some false) (fun k => by rw [warderref09_AlikePrinc.j0]; simp) ?_
    simp only [h, decide_false, Bool.false_and]
    exact Ev.now _
theorem same02_ev (a b : List Int) (hn : a.length ≤ 9223372036854775807) : Ev (fun k => warderref02_Same.f k a b) (decide (a = b)) := by
  by_cases hl : a.length = b.length
  · refine Ev.congr (f := fun k => warderref02_Same.l0 k a b ((0 : Nat) : Int)) (fun k => by unfold warderref02_Same.f; rw [if_pos (by omega)]; rfl) ?_
    have := ev_down (fun k i => warderref02_Same.l0 k a b (i : Int)) (fun i => decide (a.drop i = b.drop i)) a.length ?_ ?_
    · simpa using this
    · refine Ev.step (f := fun k => some true) (fun k => by simp only [warderref02_Same.l0]; rw [if_neg (by omega)]) ?_
      rw [List.drop_length, hl, List.drop_length]
      exact Ev.now _
    · intro i hi ih
      have hi2 : i < b.length := by omega
      have e1 : rd a (i : Int) = a[i] := by unfold rd; rw [Int.toNat_natCast, getD_eq _ _ _ hi]
      have e2 : rd b (i : Int) = b[i] := by unfold rd; rw [Int.toNat_natCast, getD_eq _ _ _ hi2]
      rw [List.drop_eq_getElem_cons hi, List.drop_eq_getElem_cons hi2]
      by_cases he : a[i] = b[i]
      · refine Ev.step (f := fun k => warderref02_Same.l0 k a b ((i + 1 : Nat) : Int)) (fun k => by simp only [warderref02_Same.l0]; rw [if_pos (by omega), if_pos (by omega), if_pos (by omega), e1, e2, if_pos he, w1 hi hn]) ?_
        simp only [he, List.cons.injEq, true_and]
        simpa using ih
      · refine Ev.step (f := fun k => some false) (fun k => by simp only [warderref02_Same.l0]; rw [if_pos (by omega), if_pos (by omega), if_pos (by omega), e1, e2, if_neg he]) ?_
        simp only [List.cons.injEq, he, false_and, decide_false]
        exact Ev.now _
  · refine Ev.congr (f := fun k => some false) (fun k => by unfold warderref02_Same.f; rw [if_neg (by omega)]) ?_
    have : a ≠ b := fun e => hl (by rw [e])
    simp only [this, decide_false]
    exact Ev.now _
theorem rd35 (l : List S35) (i : Nat) (h : i < l.length) : rd_T35 l (i : Int) = l[i] := by unfold rd_T35; rw [Int.toNat_natCast, getD_eq _ _ _ h]
theorem same09_ev (a b : List S35) (hn : a.length ≤ 9223372036854775807) (ha : smallN a = true) (hb : smallN b = true) (hoid : ∀ x ∈ a, x.f0.length ≤ 9223372036854775807) : Ev (fun k => warderref09_Same.f k a b) (sameN a b) := by
  by_cases hl : a.length = b.length
  · refine Ev.congr (f := fun k => warderref09_Same.l0 k a b ((0 : Nat) : Int)) (fun k => by unfold warderref09_Same.f; rw [if_pos (by omega)]; rfl) ?_
    have := ev_down (fun k i => warderref09_Same.l0 k a b (i : Int)) (fun i => sameN (a.drop i) (b.drop i)) a.length ?_ ?_
    · simpa using this
    · refine Ev.step (f := fun k => some true) (fun k => by simp only [warderref09_Same.l0]; rw [if_neg (by omega)]) ?_
      rw [List.drop_length, hl, List.drop_length]
      exact Ev.now _
    · intro i hi ih
      have hi2 : i < b.length := by omega
      have e1 := rd35 a i hi
      have e2 := rd35 b i hi2
      have s1 : smallA a[i] = true := List.all_eq_true.1 ha _ (List.getElem_mem _)
      have s2 : smallA b[i] = true := List.all_eq_true.1 hb _ (List.getElem_mem _)
      have o1 := hoid a[i] (List.getElem_mem _)
      rw [sameN_drop a b i hi hi2]
      generalize hg : sameN (a.drop (i + 1)) (b.drop (i + 1)) = g at *
      generalize a[i] = x at *
      generalize b[i] = y at *
      unfold smallA at s1 s2
      have p1 : warderref03_Prep.f x.f1 = some ⟨(Tx.prep x.f1.data.toList).toArray⟩ := if_pos (of_decide_eq_true s1)
      have p2 : warderref03_Prep.f y.f1 = some ⟨(Tx.prep y.f1.data.toList).toArray⟩ := if_pos (of_decide_eq_true s2)
      refine Ev.step (f := fun k => (warderref02_Same.f k x.f0 y.f0).bind fun t130 => (if t130 = true then ((warderref03_Prep.f x.f1).bind fun t132 => ((warderref03_Prep.f y.f1).bind fun t134 => (if t132.toList = t134.toList then (warderref09_Same.l0 k a b (((i + 1 : Nat)) : Int)) else (some false)))) else (some false))) (fun k => by simp only [warderref09_Same.l0]; rw [if_pos (by omega), if_pos (by omega), if_pos (by omega), e1, e2, w1 hi hn]) ?_
      refine Ev.bind (same02_ev x.f0 y.f0 o1) ?_
      unfold attrEq
      by_cases h0 : x.f0 = y.f0
      · simp only [h0, decide_true, if_true, p1, p2, Option.bind_some, Bool.true_and]
        by_cases h1 : Tx.prep x.f1.data.toList = Tx.prep y.f1.data.toList
        · simp only [h1, if_true, decide_true, Bool.true_and]
          exact ih
        · have h2 : ¬ (⟨(Tx.prep x.f1.data.toList).toArray⟩ : ByteArray).toList = (⟨(Tx.prep y.f1.data.toList).toArray⟩ : ByteArray).toList := by
            simpa only [ByteArray.toList_eq] using h1
          simp only [h1, h2, if_false, decide_false, Bool.false_and]
          exact Ev.now _
      · simp only [h0, decide_false, Bool.false_eq_true, if_false, Bool.false_and]
        exact Ev.now _
  · refine Ev.congr (f := fun k => some false) (fun k => by unfold warderref09_Same.f; rw [if_neg (by omega)]) ?_
    have : sameN a b = false := by
      rw [Bool.eq_false_iff]
      exact fun e => hl (sameN_length _ _ e)
    rw [this]
    exact Ev.now _
theorem use_ev (a0_0 : Int) (l0_1 : List S35) (a0_2 : Int) (a0_3 : Int) (l0_4 : List S35) (a0_5 : Int) (a0_6 : Bool) (a0_7 : Bool) (a0_8 : Int) (a0_9 : Int) (l0_10 : List (List Int)) (l0_11 : List S43) (l0_12 : List (List S35)) (l0_13 : List (List S35)) (l0_14 : List S134) (a0_15 : Int) (a1 : Int)
    (hn : l0_10.length ≤ 9223372036854775807) (ho : ∀ x ∈ l0_10, x.length ≤ 9223372036854775807) : Ev (fun k => warderref21_use.f k a0_0 l0_1 a0_2 a0_3 l0_4 a0_5 a0_6 a0_7 a0_8 a0_9 l0_10 l0_11 l0_12 l0_13 l0_14 a0_15 a1) (hasUse l0_10 a1) := by
  have := ev_down (fun k i => warderref21_use.l0 k a1 (i : Int) a0_0 l0_1 a0_2 a0_3 l0_4 a0_5 a0_6 a0_7 a0_8 a0_9 l0_10 l0_11 l0_12 l0_13 l0_14 a0_15) (fun i => hasUse (l0_10.drop i) a1) l0_10.length ?_ ?_
  · simpa [warderref21_use.f] using this
  · refine Ev.step (f := fun k => some false) (fun k => by simp only [warderref21_use.l0]; rw [if_neg (by omega)]) ?_
    rw [List.drop_length]
    exact Ev.now _
  · intro i hi ih
    have e1 : rd_L8 l0_10 (i : Int) = l0_10[i] := by unfold rd_L8; rw [Int.toNat_natCast, getD_eq _ _ _ hi]
    have o1 := ho l0_10[i] (List.getElem_mem _)
    rw [List.drop_eq_getElem_cons hi]
    generalize l0_10[i] = x at *
    refine Ev.step (f := fun k => (warderref02_Same.f k x [1, 3, 6, 1, 5, 2, 3, a1]).bind fun t140 => (if t140 = true then (some true) else (warderref21_use.l0 k a1 ((i + 1 : Nat) : Int) a0_0 l0_1 a0_2 a0_3 l0_4 a0_5 a0_6 a0_7 a0_8 a0_9 l0_10 l0_11 l0_12 l0_13 l0_14 a0_15))) (fun k => by simp only [warderref21_use.l0]; rw [if_pos (by omega), if_pos (by omega), e1, w1 hi hn]) ?_
    refine Ev.bind (same02_ev x _ o1) ?_
    unfold hasUse useOid at *
    simp only [List.any_cons]
    by_cases h : x = [1, 3, 6, 1, 5, 2, 3, a1]
    · simp only [h, decide_true, if_true, Bool.true_or]
      exact Ev.now _
    · simp only [h, decide_false, Bool.false_eq_true, if_false, Bool.false_or]
      exact ih
theorem lookup_ev (l : List S45) (r : ByteArray) (n : List ByteArray) (hn : l.length ≤ 9223372036854775807) (hx : ∀ x ∈ l, x.f0.f1.length ≤ 9223372036854775807) : Ev (fun k => warderref21_Lookup.f k l r n) (lookup l r n) := by
  have := ev_down (fun k i => warderref21_Lookup.l0 k l (i : Int) r n) (fun i => lookup (l.drop i) r n) l.length ?_ ?_
  · simpa [warderref21_Lookup.f] using this
  · refine Ev.step (f := fun k => some (-1, false)) (fun k => by simp only [warderref21_Lookup.l0]; rw [if_neg (by omega)]) ?_
    rw [List.drop_length]
    exact Ev.now _
  · intro i hi ih
    have e1 : rd_T45 l (i : Int) = l[i] := by unfold rd_T45; rw [Int.toNat_natCast, getD_eq _ _ _ hi]
    have o1 := hx l[i] (List.getElem_mem _)
    rw [List.drop_eq_getElem_cons hi]
    generalize l[i] = x at *
    refine Ev.step (f := fun k => (warderref09_AlikePrinc.f k x.f0.f0 x.f0.f1 r n).bind fun t124 => (if t124 = true then (some (x.f1, true)) else (warderref21_Lookup.l0 k l ((i + 1 : Nat) : Int) r n))) (fun k => by simp only [warderref21_Lookup.l0]; rw [if_pos (by omega), if_pos (by omega), e1, w1 hi hn]) ?_
    refine Ev.bind (alike_ev _ _ r n o1) ?_
    unfold lookup at *
    rw [List.find?_cons]
    cases alikeP x.f0.f0 x.f0.f1 r n with
    | true => exact Ev.now _
    | false => simpa using ih
theorem kdc_ev (a0_0 : Int) (l0_1 : List S35) (a0_2 : Int) (a0_3 : Int) (l0_4 : List S35) (a0_5 : Int) (a0_6 : Bool) (a0_7 : Bool) (a0_8 : Int) (a0_9 : Int) (l0_10 : List (List Int)) (l0_11 : List S43) (l0_12 : List (List S35)) (l0_13 : List (List S35)) (l0_14 : List S134) (a0_15 : Int) (r : ByteArray) (n : List ByteArray)
    (hn : l0_10.length ≤ 9223372036854775807) (ho : ∀ x ∈ l0_10, x.length ≤ 9223372036854775807) (hn1 : l0_11.length ≤ 9223372036854775807) (hx : ∀ x ∈ l0_11, x.f1.length ≤ 9223372036854775807) :
    Ev (fun k => warderref21_Kdc.f k a0_0 l0_1 a0_2 a0_3 l0_4 a0_5 a0_6 a0_7 a0_8 a0_9 l0_10 l0_11 l0_12 l0_13 l0_14 a0_15 r n) (hasKdc l0_11 l0_10 r n) := by
  unfold warderref21_Kdc.f
  refine Ev.bind (use_ev a0_0 l0_1 a0_2 a0_3 l0_4 a0_5 a0_6 a0_7 a0_8 a0_9 l0_10 l0_11 l0_12 l0_13 l0_14 a0_15 5 hn ho) ?_
  unfold hasKdc
  generalize hasUse l0_10 5 = u
  have := ev_down (fun k i => warderref21_Kdc.l0 k u (i : Int) a0_0 l0_1 a0_2 a0_3 l0_4 a0_5 a0_6 a0_7 a0_8 a0_9 l0_10 l0_11 l0_12 l0_13 l0_14 a0_15 r n) (fun i => (l0_11.drop i).any (fun p => alikeP p.f0 p.f1 r n) && u) l0_11.length ?_ ?_
  · simpa using this
  · refine Ev.step (f := fun k => warderref21_Kdc.j1 k u (l0_11.length : Int) false a0_0 l0_1 a0_2 a0_3 l0_4 a0_5 a0_6 a0_7 a0_8 a0_9 l0_10 l0_11 l0_12 l0_13 l0_14 a0_15 r n) (fun k => by simp only [warderref21_Kdc.l0]; rw [if_neg (by omega)]) ?_
    refine Ev.step (f := fun k => some false) (fun k => by simp [warderref21_Kdc.j1]) ?_
    rw [List.drop_length]
    exact Ev.now _
  · intro i hi ih
    have e1 : rd_T43 l0_11 (i : Int) = l0_11[i] := by unfold rd_T43; rw [Int.toNat_natCast, getD_eq _ _ _ hi]
    have o1 := hx l0_11[i] (List.getElem_mem _)
    rw [List.drop_eq_getElem_cons hi]
    generalize l0_11[i] = x at *
    refine Ev.step (f := fun k => warderref21_Kdc.j1 k u (i : Int) u a0_0 l0_1 a0_2 a0_3 l0_4 a0_5 a0_6 a0_7 a0_8 a0_9 l0_10 l0_11 l0_12 l0_13 l0_14 a0_15 r n) (fun k => by simp only [warderref21_Kdc.l0]; rw [if_pos (by omega)]) ?_
    cases u with
    | false =>
      refine Ev.step (f := fun k => some false) (fun k => by simp [warderref21_Kdc.j1]) ?_
      rw [Bool.and_false]
      exact Ev.now _
    | true =>
      refine Ev.step (f := fun k => (warderref09_AlikePrinc.f k x.f0 x.f1 r n).bind fun t157 => (if t157 = true then (some true) else (warderref21_Kdc.l0 k true ((i + 1 : Nat) : Int) a0_0 l0_1 a0_2 a0_3 l0_4 a0_5 a0_6 a0_7 a0_8 a0_9 l0_10 l0_11 l0_12 l0_13 l0_14 a0_15 r n))) (fun k => by simp only [warderref21_Kdc.j1]; rw [if_pos trivial, if_pos (by omega), if_pos (by omega), e1, w1 hi hn1]) ?_
      refine Ev.bind (alike_ev _ _ r n o1) ?_
      simp only [List.any_cons]
      cases alikeP x.f0 x.f1 r n with
      | true => exact Ev.now _
      | false => simpa using ih
theorem whose_ev (l0 : List S65) (l1 : List S45) (a0_0 : Int) (l0_1 : List S35) (a0_2 : Int) (a0_3 : Int) (l0_4 : List S35) (a0_5 : Int) (a0_6 : Bool) (a0_7 : Bool) (a0_8 : Int) (a0_9 : Int) (l0_10 : List (List Int)) (l0_11 : List S43) (l0_12 : List (List S35)) (l0_13 : List (List S35)) (l0_14 : List S134) (a0_15 : Int)
    (hl0 : l0.length ≤ 9223372036854775807) (hl0x : ∀ x ∈ l0, (x.f0.length ≤ 9223372036854775807 ∧ ∀ y ∈ x.f0, y.f0.length ≤ 9223372036854775807) ∧ (x.f1.length ≤ 9223372036854775807 ∧ ∀ y ∈ x.f1, y.f0.length ≤ 9223372036854775807))
    (hl1 : l1.length ≤ 9223372036854775807) (hl1x : ∀ x ∈ l1, x.f0.f1.length ≤ 9223372036854775807) (hs0 : l0.all smallR = true) (hs1 : smallN l0_1 = true) (hs4 : smallN l0_4 = true)
    (hn : l0_10.length ≤ 9223372036854775807) (ho : ∀ x ∈ l0_10, x.length ≤ 9223372036854775807) (hn1 : l0_11.length ≤ 9223372036854775807) :
    Ev (fun k => warderref21_Whose.f k l0 l1 a0_0 l0_1 a0_2 a0_3 l0_4 a0_5 a0_6 a0_7 a0_8 a0_9 l0_10 l0_11 l0_12 l0_13 l0_14 a0_15) (whose l0 l1 l0_1 l0_4 l0_10 l0_11) := by
  have := ev_down (fun k i => warderref21_Whose.l0 k l0 l1 (i : Int) a0_0 l0_1 a0_2 a0_3 l0_4 a0_5 a0_6 a0_7 a0_8 a0_9 l0_10 l0_11 l0_12 l0_13 l0_14 a0_15) (fun i => whose (l0.drop i) l1 l0_1 l0_4 l0_10 l0_11) l0.length ?_ ?_
  · simpa [warderref21_Whose.f] using this
  · refine Ev.step (f := fun k => (warderref21_use.f k a0_0 l0_1 a0_2 a0_3 l0_4 a0_5 a0_6 a0_7 a0_8 a0_9 l0_10 l0_11 l0_12 l0_13 l0_14 a0_15 4).bind fun t148 => (warderref21_Whose.l1 k l1 t148 0 a0_0 l0_1 a0_2 a0_3 l0_4 a0_5 a0_6 a0_7 a0_8 a0_9 l0_10 l0_11 l0_12 l0_13 l0_14 a0_15)) (fun k => by simp only [warderref21_Whose.l0]; rw [if_neg (by omega)]) ?_
    refine Ev.bind (use_ev a0_0 l0_1 a0_2 a0_3 l0_4 a0_5 a0_6 a0_7 a0_8 a0_9 l0_10 l0_11 l0_12 l0_13 l0_14 a0_15 4 hn ho) ?_
    rw [List.drop_length]
    unfold whose
    simp only [List.find?_nil]
    generalize hasUse l0_10 4 = u
    have h2 := ev_down (fun k i => warderref21_Whose.l1 k l1 u (i : Int) a0_0 l0_1 a0_2 a0_3 l0_4 a0_5 a0_6 a0_7 a0_8 a0_9 l0_10 l0_11 l0_12 l0_13 l0_14 a0_15) (fun i => (if u = true then (match (l0_11.drop i).find? (fun p => (lookup l1 p.f0 p.f1).2) with
      | some p => (p.f0, p.f1, 0)
      | none => (⟨#[]⟩, [], 211)) else (⟨#[]⟩, [], 211) : ByteArray × List ByteArray × Int)) l0_11.length ?_ ?_
    · exact h2
    · refine Ev.step (f := fun k => warderref21_Whose.j2 k l1 u (l0_11.length : Int) false a0_0 l0_1 a0_2 a0_3 l0_4 a0_5 a0_6 a0_7 a0_8 a0_9 l0_10 l0_11 l0_12 l0_13 l0_14 a0_15) (fun k => by simp only [warderref21_Whose.l1]; rw [if_neg (by omega)]) ?_
      refine Ev.step (f := fun k => some (⟨#[]⟩, [], 211)) (fun k => by simp [warderref21_Whose.j2]) ?_
      rw [List.drop_length]
      cases u <;> exact Ev.now _
    · intro i hi ih
      have e1 : rd_T43 l0_11 (i : Int) = l0_11[i] := by unfold rd_T43; rw [Int.toNat_natCast, getD_eq _ _ _ hi]
      rw [List.drop_eq_getElem_cons hi]
      generalize l0_11[i] = x at *
      refine Ev.step (f := fun k => warderref21_Whose.j2 k l1 u (i : Int) u a0_0 l0_1 a0_2 a0_3 l0_4 a0_5 a0_6 a0_7 a0_8 a0_9 l0_10 l0_11 l0_12 l0_13 l0_14 a0_15) (fun k => by simp only [warderref21_Whose.l1]; rw [if_pos (by omega)]) ?_
      cases u with
      | false =>
        refine Ev.step (f := fun k => some (⟨#[]⟩, [], 211)) (fun k => by simp [warderref21_Whose.j2]) ?_
        exact Ev.now _
      | true =>
        refine Ev.step (f := fun k => (warderref21_Lookup.f k l1 x.f0 x.f1).bind fun bt150 => (if bt150.2 = true then (some (x.f0, x.f1, 0)) else (warderref21_Whose.l1 k l1 true ((i + 1 : Nat) : Int) a0_0 l0_1 a0_2 a0_3 l0_4 a0_5 a0_6 a0_7 a0_8 a0_9 l0_10 l0_11 l0_12 l0_13 l0_14 a0_15))) (fun k => by simp only [warderref21_Whose.j2]; rw [if_pos trivial, if_pos (by omega), if_pos (by omega), e1, w1 hi hn1]) ?_
        refine Ev.bind (lookup_ev l1 x.f0 x.f1 hl1 hl1x) ?_
        simp only [if_true] at ih ⊢
        rw [List.find?_cons]
        cases (lookup l1 x.f0 x.f1).2 with
        | true => exact Ev.now _
        | false => simpa using ih
  · intro i hi ih
    have e1 : rd_T65 l0 (i : Int) = l0[i] := by unfold rd_T65; rw [Int.toNat_natCast, getD_eq _ _ _ hi]
    have o1 := hl0x l0[i] (List.getElem_mem _)
    have s1 : smallR l0[i] = true := List.all_eq_true.1 hs0 _ (List.getElem_mem _)
    rw [List.drop_eq_getElem_cons hi]
    generalize l0[i] = x at *
    unfold smallR at s1
    simp only [Bool.and_eq_true] at s1
    obtain ⟨⟨o2, o3⟩, o4, o5⟩ := o1
    refine Ev.step (f := fun k => (warderref09_Same.f k x.f0 l0_4).bind fun t144 => (if t144 = true then ((warderref09_Same.f k x.f1 l0_1).bind fun t146 => (if t146 = true then (some (x.f2.f0, x.f2.f1, 0)) else (warderref21_Whose.l0 k l0 l1 ((i + 1 : Nat) : Int) a0_0 l0_1 a0_2 a0_3 l0_4 a0_5 a0_6 a0_7 a0_8 a0_9 l0_10 l0_11 l0_12 l0_13 l0_14 a0_15))) else (warderref21_Whose.l0 k l0 l1 ((i + 1 : Nat) : Int) a0_0 l0_1 a0_2 a0_3 l0_4 a0_5 a0_6 a0_7 a0_8 a0_9 l0_10 l0_11 l0_12 l0_13 l0_14 a0_15))) (fun k => by simp only [warderref21_Whose.l0]; rw [if_pos (by omega), if_pos (by omega), e1, w1 hi hl0]) ?_
    refine Ev.bind (same09_ev x.f0 l0_4 o2 s1.1.1 hs4 o3) ?_
    have ih' : Ev (fun k => warderref21_Whose.l0 k l0 l1 ((i + 1 : Nat) : Int) a0_0 l0_1 a0_2 a0_3 l0_4 a0_5 a0_6 a0_7 a0_8 a0_9 l0_10 l0_11 l0_12 l0_13 l0_14 a0_15) (whose (l0.drop (i + 1)) l1 l0_1 l0_4 l0_10 l0_11) := ih
    clear ih
    have hw : whose (x :: l0.drop (i + 1)) l1 l0_1 l0_4 l0_10 l0_11 = if (sameN x.f0 l0_4 && sameN x.f1 l0_1) = true then (x.f2.f0, x.f2.f1, 0) else whose (l0.drop (i + 1)) l1 l0_1 l0_4 l0_10 l0_11 := by
      unfold whose
      rw [List.find?_cons]
      unfold ruleFits
      cases sameN x.f0 l0_4 && sameN x.f1 l0_1 <;> rfl
    rw [hw]
    cases h0 : sameN x.f0 l0_4 with
    | false => simpa using ih'
    | true =>
      simp only [if_true, Bool.true_and]
      refine Ev.bind (same09_ev x.f1 l0_1 o4 s1.1.2 hs1 o5) ?_
      cases h1 : sameN x.f1 l0_1 with
      | false => simpa using ih'
      | true => exact Ev.now _
end Pq
end Go.Proofs.Ytalcfnhcenpniaa
