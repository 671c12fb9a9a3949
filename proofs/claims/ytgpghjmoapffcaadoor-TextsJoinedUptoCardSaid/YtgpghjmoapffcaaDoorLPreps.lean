/- The laws TextsPreps and TextsJoined: what their walks compute is true. No condition. -/
import Derived.Test.YtgpghjmoapffcaaDoorXPJ1
set_option linter.unusedVariables false
namespace Go.Proofs.YtgpghjmoapffcaaDoor
open Go.RowKit
theorem prepf (a : ByteArray) (h : a.size ≤ 8796093022208) : XPJ.texts_Prep.f a = some ⟨(Tx.prep a.data.toList).toArray⟩ := if_pos h
theorem refprepf (a : ByteArray) (h : a.size ≤ 8796093022208) : XPJ.warderref03_Prep.f a = some ⟨(Tx.prep a.data.toList).toArray⟩ := if_pos h
theorem textsPreps.law (a : ByteArray) (h : a.size ≤ 1048576) (w : World) :
    Calls Tryd.prog 4 #[.string a] w fun e w' => e = .returned (.bool true) ∧ Below w.heap.size w w' := by
  refine XPJ.warderlaw03_TextsPreps.calls a true w ?_
  unfold XPJ.warderlaw03_TextsPreps.f
  rw [prepf a (by omega), refprepf a (by omega)]
  simp [XPJ.warderlaw03_head.f]
theorem prep_joined (x y : List UInt8) : Tx.prep (x ++ [32] ++ y) = if Tx.prep x = [] then Tx.prep y else if Tx.prep y = [] then Tx.prep x else Tx.prep x ++ [32] ++ Tx.prep y := by
  have h32 : Tx.enc [32] = [32] := by decide
  have hk : Tx.kind 32 = 32 := by decide
  have hr : Tx.runes (x ++ [32] ++ y) = Tx.runes x ++ (32 :: Tx.runes y) := by
    rw [List.append_assoc, Tx.runes_append ([32] ++ y) (Tx.fresh_ascii 32 y (by decide)) x.length x (Nat.le_refl _)]
    exact congrArg _ (Tx.runes_ascii 32 y (by decide))
  have hkk : Tx.kinds (Tx.runes (x ++ [32] ++ y)) = Tx.kinds (Tx.runes x) ++ [32] ++ Tx.kinds (Tx.runes y) := by
    rw [hr, Tx.kinds_append, Tx.kinds_cons, hk, if_pos (by decide), List.append_assoc]
  unfold Tx.prep
  rw [hkk, Tx.norm_joined]
  simp only [Tx.enc_eq_nil]
  split
  · rfl
  · split
    · rfl
    · rw [Tx.enc_append, Tx.enc_append, h32]
theorem joined_data (a b : ByteArray) : ((a ++ (⟨#[32]⟩ : ByteArray)) ++ b).data.toList = a.data.toList ++ [32] ++ b.data.toList := by simp
theorem joined_size (a b : ByteArray) : ((a ++ (⟨#[32]⟩ : ByteArray)) ++ b).size = a.size + 1 + b.size := by
  have h := congrArg List.length (joined_data a b)
  simp only [List.length_append, List.length_cons, List.length_nil, Array.length_toList, ByteArray.size_data] at h
  omega
theorem two_data (a b : ByteArray) : (a ++ b).data.toList = a.data.toList ++ b.data.toList := by simp
theorem one_size (a b : ByteArray) : (a ++ b).size = a.size + b.size := by
  have h := congrArg List.length (two_data a b)
  simp only [List.length_append, Array.length_toList, ByteArray.size_data] at h
  omega
theorem mk_size (l : List UInt8) : (⟨l.toArray⟩ : ByteArray).size = l.length := by simp [ByteArray.size]
theorem textsJoined.law (a b : ByteArray) (ha : a.size ≤ 1048576) (hb : b.size ≤ 1048576) (w : World) :
    Calls Tryd.prog 8 #[.string a, .string b] w fun e w' => e = .returned (.bool true) ∧ Below w.heap.size w w' := by
  refine XPJ.warderlaw03_TextsJoined.calls a b true w ?_
  unfold XPJ.warderlaw03_TextsJoined.f
  have hp := Tx.prep_length a.data.toList
  have hq := Tx.prep_length b.data.toList
  have la : a.data.toList.length = a.size := by simp
  have lb : b.data.toList.length = b.size := by simp
  have h3 := prepf ((a ++ (⟨#[32]⟩ : ByteArray)) ++ b) (by rw [joined_size]; omega)
  have hj := prep_joined a.data.toList b.data.toList
  rw [joined_data, hj] at h3
  rw [show XPJ.warderlaw03_head.f = some true from rfl, Option.bind_some, prepf a (by omega), Option.bind_some, prepf b (by omega), Option.bind_some]
  rw [la] at hp
  rw [lb] at hq
  clear hj la lb
  generalize Tx.prep a.data.toList = P at *
  generalize Tx.prep b.data.toList = Q at *
  have s32 : (⟨#[32]⟩ : ByteArray).size = 1 := rfl
  have e1 : (⟨P.toArray⟩ : ByteArray).toList = P := by rw [ByteArray.toList_eq]
  have e2 : (⟨Q.toArray⟩ : ByteArray).toList = Q := by rw [ByteArray.toList_eq]
  rw [if_pos (by rw [mk_size]; omega), if_pos (by simp only [one_size, mk_size, s32]; omega), e1, e2, h3]
  rw [if_pos (show (⟨P.toArray⟩ : ByteArray).size + (⟨Q.toArray⟩ : ByteArray).size ≤ 9223372036854775807 by rw [mk_size, mk_size]; omega)]
  rw [if_pos (show a.size + 1 ≤ 9223372036854775807 by omega), if_pos (show (a ++ (⟨#[32]⟩ : ByteArray)).size + b.size ≤ 9223372036854775807 by rw [one_size, s32]; omega)]
  simp only [Option.bind_some, if_true]
  by_cases h1 : P = []
  · subst h1
    simp [ByteArray.toList_eq]
  · by_cases h2 : Q = []
    · subst h2
      simp [ByteArray.toList_eq, h1]
    · rw [if_neg h1, if_neg h2, if_pos (show a.size + 1 ≤ 9223372036854775807 by omega), if_pos (show (a ++ (⟨#[32]⟩ : ByteArray)).size + b.size ≤ 9223372036854775807 by rw [one_size, s32]; omega)]
      simp [ByteArray.toList_eq, h1, h2]
end Go.Proofs.YtgpghjmoapffcaaDoor
