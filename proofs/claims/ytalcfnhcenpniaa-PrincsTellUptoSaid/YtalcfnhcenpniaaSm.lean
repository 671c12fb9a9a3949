/- Chapter 21: what the second form's bound gives. No condition. -/
import Derived.Test.YtalcfnhcenpniaaXT4
import Derived.Test.YtalcfnhcenpniaaOpnT
set_option linter.unusedVariables false
set_option linter.unusedSimpArgs false
namespace Go.Proofs.Ytalcfnhcenpniaa
open Go.RowKit Go.Proofs.YtalcfnhcenpniaaW.PrintWords Go.Proofs.Ytalcfnhcenpniaa.XT Go.Proofs.Ytalcfnhcenpniaa.OpT
namespace Sm
theorem s35 (x : S35) (h : b35 x ≤ 1048576) : smallA x = true ∧ x.f0.length ≤ 1048576 := by
  unfold b35 at h
  have := Op2.sumB_length (fun _ : Int => 1) (fun _ => Nat.le_refl _) x.f0
  simp only at h
  exact ⟨decide_eq_true (by omega), by omega⟩
theorem sN (l : List S35) (h : Op2.sumB b35 l ≤ 1048576) : smallN l = true ∧ l.length ≤ 1048576 ∧ ∀ x ∈ l, x.f0.length ≤ 1048576 := by
  refine ⟨List.all_eq_true.2 fun x hx => (s35 x ?_).1, ?_, fun x hx => (s35 x ?_).2⟩
  · have := Op2.sumB_mem b35 l x hx; omega
  · have := Op2.sumB_length b35 (fun x => by unfold b35; omega) l; omega
  · have := Op2.sumB_mem b35 l x hx; omega
theorem s43 (x : S43) (h : b43 x ≤ 1048576) : x.f1.length ≤ 1048576 := by
  unfold b43 at h
  have := Op2.sumB_length (fun s : ByteArray => s.size + 1) (fun _ => by omega) x.f1
  simp only at h
  omega
theorem s65 (x : S65) (h : b65 x ≤ 1048576) : smallR x = true ∧ (x.f0.length ≤ 1048576 ∧ ∀ y ∈ x.f0, y.f0.length ≤ 1048576) ∧ (x.f1.length ≤ 1048576 ∧ ∀ y ∈ x.f1, y.f0.length ≤ 1048576) := by
  unfold b65 at h
  simp only at h
  obtain ⟨h1, h2, h3⟩ := sN x.f0 (by omega)
  obtain ⟨h4, h5, h6⟩ := sN x.f1 (by omega)
  have h7 := s43 x.f2 (by omega)
  refine ⟨?_, ⟨h2, h3⟩, h5, h6⟩
  unfold smallR
  rw [h1, h4]
  simp only [Bool.true_and, decide_eq_true_eq]
  omega
theorem s45 (x : S45) (h : b45 x ≤ 1048576) : x.f0.f1.length ≤ 1048576 := by
  unfold b45 at h
  simp only at h
  exact s43 x.f0 (by omega)
theorem sum65 (l : List S65) (h : Op2.sumB b65 l ≤ 1048576) : l.all smallR = true ∧ l.length ≤ 1048576 ∧ ∀ x ∈ l, (x.f0.length ≤ 1048576 ∧ ∀ y ∈ x.f0, y.f0.length ≤ 1048576) ∧ (x.f1.length ≤ 1048576 ∧ ∀ y ∈ x.f1, y.f0.length ≤ 1048576) := by
  refine ⟨List.all_eq_true.2 fun x hx => (s65 x ?_).1, ?_, fun x hx => (s65 x ?_).2⟩
  · have := Op2.sumB_mem b65 l x hx; omega
  · have := Op2.sumB_length b65 (fun x => by unfold b65; omega) l; omega
  · have := Op2.sumB_mem b65 l x hx; omega
theorem sum45 (l : List S45) (h : Op2.sumB b45 l ≤ 1048576) : l.length ≤ 1048576 ∧ ∀ x ∈ l, x.f0.f1.length ≤ 1048576 := by
  refine ⟨?_, fun x hx => s45 x ?_⟩
  · have := Op2.sumB_length b45 (fun x => by unfold b45; omega) l; omega
  · have := Op2.sumB_mem b45 l x hx; omega
theorem sum43 (l : List S43) (h : Op2.sumB b43 l ≤ 1048576) : l.all smallQ = true ∧ l.length ≤ 1048576 ∧ ∀ x ∈ l, x.f1.length ≤ 1048576 := by
  have hm : ∀ x ∈ l, x.f1.length ≤ 1048576 := fun x hx => s43 x (by have := Op2.sumB_mem b43 l x hx; omega)
  refine ⟨List.all_eq_true.2 fun x hx => decide_eq_true (by have := hm x hx; omega), ?_, hm⟩
  have := Op2.sumB_length b43 (fun x => by unfold b43; omega) l; omega
theorem sumI (l : List (List Int)) (h : Op2.sumB (fun l => Op2.sumB (fun _ : Int => 1) l + 1) l ≤ 1048576) : l.length ≤ 1048576 ∧ ∀ x ∈ l, x.length ≤ 1048576 := by
  refine ⟨?_, fun x hx => ?_⟩
  · have := Op2.sumB_length (fun l : List Int => Op2.sumB (fun _ => 1) l + 1) (fun x => by omega) l; omega
  · have := Op2.sumB_mem (fun l : List Int => Op2.sumB (fun _ => 1) l + 1) l x hx
    have := Op2.sumB_length (fun _ : Int => 1) (fun _ => Nat.le_refl _) x
    omega
theorem attr_refl (x : S35) : attrEq x x = true := by simp [attrEq]
theorem sameN_refl : ∀ l : List S35, sameN l l = true
  | [] => rfl
  | x :: l => by simp [sameN, attr_refl, sameN_refl l]
end Sm
end Go.Proofs.Ytalcfnhcenpniaa
