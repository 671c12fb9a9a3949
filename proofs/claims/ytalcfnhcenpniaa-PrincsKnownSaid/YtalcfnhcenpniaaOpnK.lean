/- How the types of the arguments open. No condition. Printed by rowg.py. -/
import Derived.Test.YtalcfnhcenpniaaOp2
import Derived.Test.YtalcfnhcenpniaaXK0
import Derived.KernelRfl
set_option linter.unusedVariables false
namespace Go.Proofs.Ytalcfnhcenpniaa.OpK
open Go.RowKit Go.Proofs.Ytalcfnhcenpniaa.XK Go.Proofs.YtalcfnhcenpniaaW.PrintWords
def b43 (x : S43) : Nat := ((fun s => s.size + 1) x.f0 + (fun l => Op2.sumB (fun s => s.size + 1) l + 1) x.f1) + 1
theorem op43 : Op2.Opens Try.prog 43 k43 b43 := by
  have h := Op2.struct (f := fun x : S43 => (x.f0, x.f1)) (fun y => (⟨y.1, y.2⟩ : S43)) Try.underlying43 rfl (by kernel_rfl) (fun _ => rfl) (Op2.cons rfl (by kernel_rfl) rfl (Op2.string Try.underlying9) (Op2.last rfl (by kernel_rfl) (by rfl) (Op2.slice (d := Kd.string) (b := (fun s => s.size + 1)) Try.underlying41 (by kernel_rfl) (Op2.string Try.underlying9))))
  exact h
def b45 (x : S45) : Nat := (b43 x.f0 + (fun _ => 1) x.f1) + 1
theorem op45 : Op2.Opens Try.prog 45 k45 b45 := by
  have h := Op2.struct (f := fun x : S45 => (x.f0, x.f1)) (fun y => (⟨y.1, y.2⟩ : S45)) Try.underlying45 rfl (by kernel_rfl) (fun _ => rfl) (Op2.cons rfl (by kernel_rfl) rfl op43 (Op2.last rfl (by kernel_rfl) (by rfl) (Op2.int Try.underlying3)))
  exact h
end Go.Proofs.Ytalcfnhcenpniaa.OpK
