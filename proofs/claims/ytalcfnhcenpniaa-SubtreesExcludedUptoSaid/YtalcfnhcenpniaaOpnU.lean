/- How the types of the arguments open. No condition. Printed by rowg.py. -/
import Derived.Test.YtalcfnhcenpniaaOp2
import Derived.Test.YtalcfnhcenpniaaXU0
import Derived.KernelRfl
set_option linter.unusedVariables false
namespace Go.Proofs.Ytalcfnhcenpniaa.OpU
open Go.RowKit Go.Proofs.Ytalcfnhcenpniaa.XU Go.Proofs.YtalcfnhcenpniaaW.PrintWords
def b35 (x : S35) : Nat := ((fun l => Op2.sumB (fun _ => 1) l + 1) x.f0 + (fun s => s.size + 1) x.f1) + 1
theorem op35 : Op2.Opens Try.prog 35 k35 b35 := by
  have h := Op2.struct (f := fun x : S35 => (x.f0, x.f1)) (fun y => (⟨y.1, y.2⟩ : S35)) Try.underlying35 rfl (by kernel_rfl) (fun _ => rfl) (Op2.cons rfl (by kernel_rfl) rfl (Op2.slice (d := (Kd.int .i64)) (b := (fun _ => 1)) Try.underlying33 (by kernel_rfl) (Op2.int Try.underlying3)) (Op2.last rfl (by kernel_rfl) (by rfl) (Op2.string Try.underlying9)))
  exact h
def b25 (x : S25) : Nat := ((fun l => Op2.sumB (fun l => Op2.sumB (fun l => Op2.sumB b35 l + 1) l + 1) l + 1) x.f0 + (fun l => Op2.sumB (fun l => Op2.sumB b35 l + 1) l + 1) x.f1) + 1
theorem op25 : Op2.Opens Try.prog 25 k25 b25 := by
  have h := Op2.struct (f := fun x : S25 => (x.f0, x.f1)) (fun y => (⟨y.1, y.2⟩ : S25)) Try.underlying25 rfl (by kernel_rfl) (fun _ => rfl) (Op2.cons rfl (by kernel_rfl) rfl (Op2.slice (d := (Kd.slice 27 (Kd.slice 35 k35))) (b := (fun l => Op2.sumB (fun l => Op2.sumB b35 l + 1) l + 1)) Try.underlying22 (by kernel_rfl) (Op2.slice (d := (Kd.slice 35 k35)) (b := (fun l => Op2.sumB b35 l + 1)) Try.underlying23 (by kernel_rfl) (Op2.slice (d := k35) (b := b35) Try.underlying27 (by kernel_rfl) op35))) (Op2.last rfl (by kernel_rfl) (by rfl) (Op2.slice (d := (Kd.slice 35 k35)) (b := (fun l => Op2.sumB b35 l + 1)) Try.underlying23 (by kernel_rfl) (Op2.slice (d := k35) (b := b35) Try.underlying27 (by kernel_rfl) op35))))
  exact h
end Go.Proofs.Ytalcfnhcenpniaa.OpU
