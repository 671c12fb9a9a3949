/- Plain Lean, no program in sight: great letters for small ones, and blanks about a text and in it, change nothing of it prepared. No condition. -/
import Derived.Test.YtgpghjmoapffcaaDoorRunes
set_option linter.unusedVariables false
set_option linter.unusedSimpArgs false
namespace Go.Proofs.YtgpghjmoapffcaaDoor.Tx
open Go.Lib
def gr (b : UInt8) : UInt8 := if 97 ≤ b.toNat ∧ b.toNat ≤ 122 then b - 32 else b
theorem gr_toNat (b : UInt8) : (gr b).toNat = if 97 ≤ b.toNat ∧ b.toNat ≤ 122 then b.toNat - 32 else b.toNat := by
  unfold gr
  split
  · rw [UInt8.toNat_sub]
    have : (32 : UInt8).toNat = 32 := rfl
    omega
  · rfl
theorem gr_zero : gr 0 = 0 := by decide
theorem gr_cont (b : UInt8) : b.toNat = (gr b).toNat ∨ (b.toNat / 64 ≠ 2 ∧ (gr b).toNat / 64 ≠ 2) := by
  rw [gr_toNat]
  split
  · right; omega
  · left; rfl
theorem decodeN_same (n b0 b1 b2 b3 c1 c2 c3 : Nat) (h1 : b1 = c1 ∨ (b1 / 64 ≠ 2 ∧ c1 / 64 ≠ 2)) (h2 : b2 = c2 ∨ (b2 / 64 ≠ 2 ∧ c2 / 64 ≠ 2)) (h3 : b3 = c3 ∨ (b3 / 64 ≠ 2 ∧ c3 / 64 ≠ 2)) : decodeN n b0 c1 c2 c3 = decodeN n b0 b1 b2 b3 := by
  rcases h1 with rfl | ⟨h1, h1'⟩
  · rcases h2 with rfl | ⟨h2, h2'⟩
    · rcases h3 with rfl | ⟨h3, h3'⟩
      · rfl
      · simp only [decodeN, h3, h3', and_false, if_false]
    · simp only [decodeN, h2, h2', false_and, and_false, if_false]
  · simp only [decodeN, h1, h1', false_and, and_false, if_false]
theorem gr_getD (l : List UInt8) (k : Nat) : (l.map gr).getD k 0 = gr (l.getD k 0) := by
  simp only [List.getD, List.getElem?_map]
  cases l[k]? with
  | none => exact gr_zero.symm
  | some x => rfl
theorem decodeL_gr (l : List UInt8) (h : 128 ≤ (l.getD 0 0).toNat) : decodeL (l.map gr) = decodeL l := by
  rw [decodeL_N, decodeL_N, List.length_map, gr_getD, gr_getD, gr_getD, gr_getD]
  have h0 : (gr (l.getD 0 0)).toNat = (l.getD 0 0).toNat := by
    rw [gr_toNat, if_neg (by omega)]
  rw [h0]
  exact decodeN_same _ _ _ _ _ _ _ _ (gr_cont _) (gr_cont _) (gr_cont _)
theorem kind_gr (b : UInt8) (h : b.toNat < 128) : kind ((gr b).toNat : Int) = kind (b.toNat : Int) := by
  rw [gr_toNat]
  split
  · unfold kind nothing blank great
    repeat' split
    all_goals omega
  · rfl
theorem kinds_gr : ∀ (n : Nat) (l : List UInt8), l.length ≤ n → kinds (runes (l.map gr)) = kinds (runes l)
  | 0, l, hn => by
    have : l = [] := List.eq_nil_of_length_eq_zero (by omega)
    subst this
    rfl
  | n + 1, [], _ => rfl
  | n + 1, b :: l, hn => by
    simp only [List.length_cons] at hn
    by_cases hb : b.toNat < 128
    · have hg : (gr b).toNat < 128 := by
        rw [gr_toNat]
        split <;> omega
      rw [List.map_cons, runes_ascii _ _ hg, runes_ascii _ _ hb, kinds_cons, kinds_cons, kind_gr b hb, kinds_gr n l (by omega)]
    · have hd := decodeL_gr (b :: l) (by simpa using hb)
      have hw := decodeL_width (b :: l)
      rw [runes_step ((b :: l).map gr) (by simp), runes_step (b :: l) (by simp), hd, ← List.map_drop, kinds_cons, kinds_cons, kinds_gr n _ (by rw [List.length_drop, List.length_cons]; omega)]
theorem prep_gr (l : List UInt8) : prep (l.map gr) = prep l := by
  unfold prep
  rw [kinds_gr l.length l (Nat.le_refl _)]
/-- A blank's bytes. -/
def Blank (b : List UInt8) : Prop := ∃ r : Int, Ok r ∧ kind r = 32 ∧ encodeRune r = b ∧ Fresh b
theorem fresh_cons (c : UInt8) (l : List UInt8) (h : c.toNat / 64 ≠ 2) : Fresh (c :: l) := by
  intro c' t' e
  cases e
  exact h
theorem blank0 : Blank [32] := ⟨32, by unfold Ok; omega, by decide, by decide, fresh_cons _ _ (by decide)⟩
theorem blank1 : Blank [9] := ⟨9, by unfold Ok; omega, by decide, by decide, fresh_cons _ _ (by decide)⟩
theorem blank2 : Blank [194, 160] := ⟨160, by unfold Ok; omega, by decide, by decide, fresh_cons _ _ (by decide)⟩
theorem blank3 : Blank [227, 128, 128] := ⟨12288, by unfold Ok; omega, by decide, by decide, fresh_cons _ _ (by decide)⟩
theorem blank4 : Blank [226, 128, 131] := ⟨8195, by unfold Ok; omega, by decide, by decide, fresh_cons _ _ (by decide)⟩
theorem fresh_append {b : List UInt8} (h : Fresh b) (hne : b ≠ []) (t : List UInt8) : Fresh (b ++ t) := by
  cases b with
  | nil => exact absurd rfl hne
  | cons c b => exact fresh_cons c _ (h c b rfl)
theorem kinds_blank {b : List UInt8} (h : Blank b) (t : List UInt8) : kinds (runes (b ++ t)) = 32 :: kinds (runes t) := by
  obtain ⟨r, ho, hk, rfl, hf⟩ := h
  rw [runes_step _ (by simp [encodeRune_ne]), decodeL_encode r ho t, List.drop_left, kinds_cons]
  have e : ((r.toNat : Nat) : Int) = r := by
    unfold Ok at ho
    omega
  simp only [e, hk]
  rfl
theorem blank_fresh {b : List UInt8} (h : Blank b) (t : List UInt8) : Fresh (b ++ t) := by
  obtain ⟨r, ho, hk, rfl, hf⟩ := h
  exact fresh_append hf (encodeRune_ne r) t
theorem prep_about {b : List UInt8} (h : Blank b) (s : List UInt8) : prep (b ++ s ++ b ++ [32]) = prep s := by
  unfold prep
  rw [List.append_assoc, List.append_assoc, kinds_blank h, runes_append (b ++ [32]) (blank_fresh h _) s.length s (Nat.le_refl _), kinds_append, kinds_blank h]
  have e32 : kinds (runes [32]) = [32] := by decide
  rw [e32]
  congr 1
  have a1 := norm_blank_left (kinds (runes s) ++ [32, 32])
  have a2 := norm_blank_right (kinds (runes s) ++ [32])
  have a3 := norm_blank_right (kinds (runes s))
  simp only [List.cons_append, List.nil_append, List.append_assoc] at a1 a2 a3
  exact a1.trans (a2.trans a3)
theorem prep_split {b : List UInt8} (h : Blank b) (x y : List UInt8) : prep (x ++ b ++ b ++ 32 :: y) = prep (x ++ 32 :: y) := by
  unfold prep
  rw [List.append_assoc, List.append_assoc, runes_append (b ++ (b ++ 32 :: y)) (blank_fresh h _) x.length x (Nat.le_refl _), runes_append (32 :: y) (fresh_cons _ _ (by decide)) x.length x (Nat.le_refl _), kinds_append, kinds_append, kinds_blank h, kinds_blank h, show (32 :: y : List UInt8) = [32] ++ y from rfl, kinds_blank blank0]
  congr 1
  have a1 := norm_blank_twice (kinds (runes x) ++ [32]) (kinds (runes y))
  have a2 := norm_blank_twice (kinds (runes x)) (kinds (runes y))
  simp only [List.cons_append, List.nil_append, List.append_assoc] at a1 a2
  exact a1.trans a2
end Go.Proofs.YtgpghjmoapffcaaDoor.Tx
