/- How the types of the arguments open. No condition. Printed by rowg.py. -/
import Derived.Test.YtalcfnhcenpniaaOp2
import Derived.Test.YtalcfnhcenpniaaXT0
import Derived.KernelRfl
set_option linter.unusedVariables false
namespace Go.Proofs.Ytalcfnhcenpniaa.OpT
open Go.RowKit Go.Proofs.Ytalcfnhcenpniaa.XT Go.Proofs.YtalcfnhcenpniaaW.PrintWords
def b35 (x : S35) : Nat := ((fun l => Op2.sumB (fun _ => 1) l + 1) x.f0 + (fun s => s.size + 1) x.f1) + 1
theorem op35 : Op2.Opens Try.prog 35 k35 b35 := by
  have h := Op2.struct (f := fun x : S35 => (x.f0, x.f1)) (fun y => (⟨y.1, y.2⟩ : S35)) Try.underlying35 rfl (by kernel_rfl) (fun _ => rfl) (Op2.cons rfl (by kernel_rfl) rfl (Op2.slice (d := (Kd.int .i64)) (b := (fun _ => 1)) Try.underlying33 (by kernel_rfl) (Op2.int Try.underlying3)) (Op2.last rfl (by kernel_rfl) (by rfl) (Op2.string Try.underlying9)))
  exact h
def b43 (x : S43) : Nat := ((fun s => s.size + 1) x.f0 + (fun l => Op2.sumB (fun s => s.size + 1) l + 1) x.f1) + 1
theorem op43 : Op2.Opens Try.prog 43 k43 b43 := by
  have h := Op2.struct (f := fun x : S43 => (x.f0, x.f1)) (fun y => (⟨y.1, y.2⟩ : S43)) Try.underlying43 rfl (by kernel_rfl) (fun _ => rfl) (Op2.cons rfl (by kernel_rfl) rfl (Op2.string Try.underlying9) (Op2.last rfl (by kernel_rfl) (by rfl) (Op2.slice (d := Kd.string) (b := (fun s => s.size + 1)) Try.underlying41 (by kernel_rfl) (Op2.string Try.underlying9))))
  exact h
def b65 (x : S65) : Nat := ((fun l => Op2.sumB b35 l + 1) x.f0 + ((fun l => Op2.sumB b35 l + 1) x.f1 + b43 x.f2)) + 1
theorem op65 : Op2.Opens Try.prog 65 k65 b65 := by
  have h := Op2.struct (f := fun x : S65 => (x.f0, x.f1, x.f2)) (fun y => (⟨y.1, y.2.1, y.2.2⟩ : S65)) Try.underlying65 rfl (by kernel_rfl) (fun _ => rfl) (Op2.cons rfl (by kernel_rfl) rfl (Op2.slice (d := k35) (b := b35) Try.underlying27 (by kernel_rfl) op35) (Op2.cons rfl (by kernel_rfl) rfl (Op2.slice (d := k35) (b := b35) Try.underlying27 (by kernel_rfl) op35) (Op2.last rfl (by kernel_rfl) (by rfl) op43)))
  exact h
def b45 (x : S45) : Nat := (b43 x.f0 + (fun _ => 1) x.f1) + 1
theorem op45 : Op2.Opens Try.prog 45 k45 b45 := by
  have h := Op2.struct (f := fun x : S45 => (x.f0, x.f1)) (fun y => (⟨y.1, y.2⟩ : S45)) Try.underlying45 rfl (by kernel_rfl) (fun _ => rfl) (Op2.cons rfl (by kernel_rfl) rfl op43 (Op2.last rfl (by kernel_rfl) (by rfl) (Op2.int Try.underlying3)))
  exact h
def b134 (x : S134) : Nat := ((fun l => Op2.sumB (fun _ => 1) l + 1) x.f0 + ((fun _ => 1) x.f1 + (fun l => Op2.sumB (fun _ => 1) l + 1) x.f2)) + 1
theorem op134 : Op2.Opens Try.prog 134 k134 b134 := by
  have h := Op2.struct (f := fun x : S134 => (x.f0, x.f1, x.f2)) (fun y => (⟨y.1, y.2.1, y.2.2⟩ : S134)) Try.underlying134 rfl (by kernel_rfl) (fun _ => rfl) (Op2.cons rfl (by kernel_rfl) rfl (Op2.slice (d := (Kd.int .i64)) (b := (fun _ => 1)) Try.underlying33 (by kernel_rfl) (Op2.int Try.underlying3)) (Op2.cons rfl (by kernel_rfl) rfl (Op2.bool Try.underlying4) (Op2.last rfl (by kernel_rfl) (by rfl) (Op2.slice (d := (Kd.int .u8)) (b := (fun _ => 1)) Try.underlying103 (by kernel_rfl) (Op2.int Try.underlying5)))))
  exact h
def b55 (x : S55) : Nat := ((fun _ => 1) x.f0 + ((fun _ => 1) x.f1 + ((fun _ => 1) x.f2 + ((fun _ => 1) x.f3 + ((fun l => Op2.sumB (fun l => Op2.sumB (fun _ => 1) l + 1) l + 1) x.f4 + ((fun l => Op2.sumB b43 l + 1) x.f5 + ((fun l => Op2.sumB (fun l => Op2.sumB b35 l + 1) l + 1) x.f6 + ((fun l => Op2.sumB (fun l => Op2.sumB b35 l + 1) l + 1) x.f7 + (fun l => Op2.sumB b134 l + 1) x.f8)))))))) + 1
theorem op55 : Op2.Opens Try.prog 55 k55 b55 := by
  have h := Op2.struct (f := fun x : S55 => (x.f0, x.f1, x.f2, x.f3, x.f4, x.f5, x.f6, x.f7, x.f8)) (fun y => (⟨y.1, y.2.1, y.2.2.1, y.2.2.2.1, y.2.2.2.2.1, y.2.2.2.2.2.1, y.2.2.2.2.2.2.1, y.2.2.2.2.2.2.2.1, y.2.2.2.2.2.2.2.2⟩ : S55)) Try.underlying55 rfl (by kernel_rfl) (fun _ => rfl) (Op2.cons rfl (by kernel_rfl) rfl (Op2.bool Try.underlying4) (Op2.cons rfl (by kernel_rfl) rfl (Op2.bool Try.underlying4) (Op2.cons rfl (by kernel_rfl) rfl (Op2.int Try.underlying3) (Op2.cons rfl (by kernel_rfl) rfl (Op2.int Try.underlying50) (Op2.cons rfl (by kernel_rfl) rfl (Op2.slice (d := (Kd.slice 3 (Kd.int .i64))) (b := (fun l => Op2.sumB (fun _ => 1) l + 1)) Try.underlying51 (by kernel_rfl) (Op2.slice (d := (Kd.int .i64)) (b := (fun _ => 1)) Try.underlying33 (by kernel_rfl) (Op2.int Try.underlying3))) (Op2.cons rfl (by kernel_rfl) rfl (Op2.slice (d := k43) (b := b43) Try.underlying52 (by kernel_rfl) op43) (Op2.cons rfl (by kernel_rfl) rfl (Op2.slice (d := (Kd.slice 35 k35)) (b := (fun l => Op2.sumB b35 l + 1)) Try.underlying23 (by kernel_rfl) (Op2.slice (d := k35) (b := b35) Try.underlying27 (by kernel_rfl) op35)) (Op2.cons rfl (by kernel_rfl) rfl (Op2.slice (d := (Kd.slice 35 k35)) (b := (fun l => Op2.sumB b35 l + 1)) Try.underlying23 (by kernel_rfl) (Op2.slice (d := k35) (b := b35) Try.underlying27 (by kernel_rfl) op35)) (Op2.last rfl (by kernel_rfl) (by rfl) (Op2.slice (d := k134) (b := b134) Try.underlying53 (by kernel_rfl) op134))))))))))
  exact h
def b57 (x : S57) : Nat := ((fun _ => 1) x.f0 + ((fun l => Op2.sumB b35 l + 1) x.f1 + ((fun _ => 1) x.f2 + ((fun _ => 1) x.f3 + ((fun l => Op2.sumB b35 l + 1) x.f4 + ((fun _ => 1) x.f5 + (b55 x.f6 + (fun _ => 1) x.f7))))))) + 1
theorem op57 : Op2.Opens Try.prog 57 k57 b57 := by
  have h := Op2.struct (f := fun x : S57 => (x.f0, x.f1, x.f2, x.f3, x.f4, x.f5, x.f6, x.f7)) (fun y => (⟨y.1, y.2.1, y.2.2.1, y.2.2.2.1, y.2.2.2.2.1, y.2.2.2.2.2.1, y.2.2.2.2.2.2.1, y.2.2.2.2.2.2.2⟩ : S57)) Try.underlying57 rfl (by kernel_rfl) (fun _ => rfl) (Op2.cons rfl (by kernel_rfl) rfl (Op2.int Try.underlying2) (Op2.cons rfl (by kernel_rfl) rfl (Op2.slice (d := k35) (b := b35) Try.underlying27 (by kernel_rfl) op35) (Op2.cons rfl (by kernel_rfl) rfl (Op2.int Try.underlying2) (Op2.cons rfl (by kernel_rfl) rfl (Op2.int Try.underlying2) (Op2.cons rfl (by kernel_rfl) rfl (Op2.slice (d := k35) (b := b35) Try.underlying27 (by kernel_rfl) op35) (Op2.cons rfl (by kernel_rfl) rfl (Op2.int Try.underlying3) (Op2.cons rfl (by kernel_rfl) rfl op55 (Op2.last rfl (by kernel_rfl) (by rfl) (Op2.int Try.underlying3)))))))))
  exact h
end Go.Proofs.Ytalcfnhcenpniaa.OpT
