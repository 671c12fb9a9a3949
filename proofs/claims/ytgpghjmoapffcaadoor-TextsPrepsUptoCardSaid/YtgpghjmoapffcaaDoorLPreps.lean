/- The laws TextsPreps and TextsJoined: what their walks compute is true. No condition. -/
import Derived.Test.YtgpghjmoapffcaaDoorXPJ1
set_option linter.unusedVariables false
namespace Go.Proofs.YtgpghjmoapffcaaDoor
open Go.RowKit
theorem prepf (a : ByteArray) (h : a.size ≤ 8796093022208) : XPJ.texts_Prep.f a = some ⟨(Tx.prep a.data.toList).toArray⟩ := if_pos h
theorem refprepf (a : ByteArray) (h : a.size ≤ 8796093022208) : XPJ.warderref03_Prep.f a = some ⟨(Tx.prep a.data.toList).toArray⟩ := if_pos h
theorem textsPreps.law (a : ByteArray) (h : a.size ≤ 1048576) (w : World) :
    Calls Tryd.prog 4 #[.string a] w fun e w' => e = .returned (.bool true) ∧ Below w.heap.size w w' := by
  refine XPJ.warderlaw03_TextsPreps.calls a true w ?_
  unfold XPJ.warderlaw03_TextsPreps.f
  rw [prepf a (by omega), refprepf a (by omega)]
  simp [XPJ.warderlaw03_head.f]
end Go.Proofs.YtgpghjmoapffcaaDoor
