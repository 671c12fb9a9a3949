/- How the types of the arguments open. No condition. Printed by rowg.py. -/
import Derived.Test.YtpbbcjkbeodeiaaDoorOp2
import Derived.Test.YtpbbcjkbeodeiaaDoorXS0
import Derived.KernelRfl
set_option linter.unusedVariables false
namespace Go.Proofs.YtpbbcjkbeodeiaaDoor.OpS
open Go.RowKit Go.Proofs.YtpbbcjkbeodeiaaDoor.XS Go.Proofs.YtpbbcjkbeodeiaaDoorW.PrintWords
def b42 (x : S42) : Nat := ((fun l => Op2.sumB (fun _ => 1) l + 1) x.f0 + (fun s => s.size + 1) x.f1) + 1
theorem op42 : Op2.Opens Tryd.prog 42 k42 b42 := by
  have h := Op2.struct (f := fun x : S42 => (x.f0, x.f1)) (fun y => (⟨y.1, y.2⟩ : S42)) Tryd.underlying42 rfl (by kernel_rfl) (fun _ => rfl) (Op2.cons rfl (by kernel_rfl) rfl (Op2.slice (d := (Kd.int .i64)) (b := (fun _ => 1)) Tryd.underlying40 (by kernel_rfl) (Op2.int Tryd.underlying3)) (Op2.last rfl (by kernel_rfl) (by rfl) (Op2.string Tryd.underlying9)))
  exact h
end Go.Proofs.YtpbbcjkbeodeiaaDoor.OpS
