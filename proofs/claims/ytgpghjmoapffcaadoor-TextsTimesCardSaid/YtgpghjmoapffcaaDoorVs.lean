/- A string made of a row that a call handed back. No condition. -/
import Derived.Test.YtgpghjmoapffcaaDoorWMore
set_option linter.unusedVariables false
namespace Go.Proofs.YtgpghjmoapffcaaDoor
open Go.RowKit Go.Proofs.YtgpghjmoapffcaaDoorW.PrintWords
theorem V_string {P : Program} {w : World} {base n c : Nat} {t src dst e : TypeId} {ok : Nat → Prop} {A : Option Addr} {xs : List Int} (hs : P.underlying src = some (.slice e)) (he : P.underlying e = some (.int .u8)) (hd : P.underlying dst = some .string)
    (h : Kd.V (Kd.int .u8) t w base ok (.slice A n c) xs) : (convert src dst (.slice A n c)).run P w = .ok (.string (strOfNums xs)) w := by
  obtain ⟨hn, _, hc⟩ := Kd.V_reads' h
  rw [hn]
  exact Kd.C_string hs he hd hc
end Go.Proofs.YtgpghjmoapffcaaDoor
