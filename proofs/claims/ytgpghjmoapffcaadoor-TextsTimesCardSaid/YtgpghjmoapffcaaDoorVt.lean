/- A string made of a row that a call handed back, whatever its form. No condition. -/
import Derived.Test.YtgpghjmoapffcaaDoorVs
set_option linter.unusedVariables false
namespace Go.Proofs.YtgpghjmoapffcaaDoor
open Go.RowKit Go.Proofs.YtgpghjmoapffcaaDoorW.PrintWords
theorem V_str {P : Program} {w : World} {base : Nat} {t src dst e : TypeId} {ok : Nat → Prop} {v : Value} {xs : List Int} (hs : P.underlying src = some (.slice e)) (he : P.underlying e = some (.int .u8)) (hd : P.underlying dst = some .string)
    (h : Kd.V (Kd.int .u8) t w base ok v xs) : (convert src dst v).run P w = .ok (.string (strOfNums xs)) w := by
  obtain ⟨A, c, rfl⟩ := Kd.V_slice h
  exact V_string hs he hd h
end Go.Proofs.YtgpghjmoapffcaaDoor
