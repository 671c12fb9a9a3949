/- utf8.word of a row of bytes, walked. No condition. -/
import Derived.Test.YtgpghjmoapffcaaDoorPl
import Derived.Test.YtgpghjmoapffcaaDoorProg
import Derived.WalkKit
import Derived.BigCall
import Derived.BigQuiet
import Derived.Deep.QuietTactic
import Derived.Deep.Draws
import Derived.Lib.Walk
import Derived.Lib.Endian
import Derived.Lib.EndianBits
import Derived.Lib.ValidAsc
set_option linter.unusedVariables false
set_option linter.unusedSimpArgs false
namespace Go.Proofs.YtgpghjmoapffcaaDoor
open Go.RowKit Go.Proofs.YtgpghjmoapffcaaDoorW.PrintWords
namespace Va
/-- The bytes that stand from an address on. -/
def Row (W : World) (b : Addr) (t : ByteArray) : Prop := ∀ j, j < t.size → W.cell? (b.add j) = some (.int .u8 ((t.get! j).toNat : Int))
theorem add_add (b : Addr) (k j : Nat) : (b.add k).add j = b.add (k + j) := by
  by_cases hk : k = 0
  · subst hk; simp [Addr.add]
  · by_cases hj : j = 0
    · subst hj; simp [Addr.add]
    · simp [Addr.add, hk, hj, Nat.add_assoc]
theorem get_tail (t : ByteArray) (k j : Nat) (h : j < t.size - k) : (t.extract k t.size).get! j = t.get! (k + j) := by
  rw [← Lib.getD_get!', ← Lib.getD_get!', Lib.ext_list]
  simp [List.getD_eq_getElem?_getD, List.getElem?_drop]
theorem Row.tail {W : World} {b : Addr} {t : ByteArray} (h : Row W b t) (k : Nat) : Row W (b.add k) (t.extract k t.size) := by
  intro j hj
  rw [Lib.ext_size] at hj
  rw [get_tail t k j hj, add_add]
  exact h (k + j) (by omega)
theorem Row.below {w W : World} {b : Addr} {t : ByteArray} (h : Row w b t) (hb : Below w.heap.size w W) : Row W b t := fun j hj =>
  (hb.cell (World.block_lt_of_cell? w _ (h j hj))).trans (h j hj)
def wd (t : ByteArray) : Nat := Lib.leNat [t.get! 0, t.get! 1, t.get! 2, t.get! 3, t.get! 4, t.get! 5, t.get! 6, t.get! 7]
set_option maxRecDepth 100000 in
theorem wd_eq (t : ByteArray) : ((wd t : Nat) : Int) = ((t.get! 0).toNat : Int) + ((t.get! 1).toNat : Int) * 256 + ((t.get! 2).toNat : Int) * 65536 + ((t.get! 3).toNat : Int) * 16777216 + ((t.get! 4).toNat : Int) * 4294967296 + ((t.get! 5).toNat : Int) * 1099511627776 + ((t.get! 6).toNat : Int) * 281474976710656 + ((t.get! 7).toNat : Int) * 72057594037927936 := by
  simp only [wd, Lib.leNat]
  push_cast
  omega
set_option maxHeartbeats 8000000 in
set_option maxRecDepth 100000 in
theorem word (W : World) (b : Addr) (t : ByteArray) (c : Nat) (hr : Row W b t) (h8 : 8 ≤ t.size) :
    Calls Tryd.prog 43 #[.slice (some b) t.size c] W fun e w' => e = .returned (.int .u64 (wd t)) ∧ ∃ q, w' = W.drewN q := by
  have hv := wd_eq t
  have c0 : W.cell? b = some (.int .u8 ((t.get! 0).toNat : Int)) := hr 0 (by omega)
  have c1 : W.cell? ⟨b.block, b.off + 1, none⟩ = some (.int .u8 ((t.get! 1).toNat : Int)) := hr 1 (by omega)
  have c2 : W.cell? ⟨b.block, b.off + 2, none⟩ = some (.int .u8 ((t.get! 2).toNat : Int)) := hr 2 (by omega)
  have c3 : W.cell? ⟨b.block, b.off + 3, none⟩ = some (.int .u8 ((t.get! 3).toNat : Int)) := hr 3 (by omega)
  have c4 : W.cell? ⟨b.block, b.off + 4, none⟩ = some (.int .u8 ((t.get! 4).toNat : Int)) := hr 4 (by omega)
  have c5 : W.cell? ⟨b.block, b.off + 5, none⟩ = some (.int .u8 ((t.get! 5).toNat : Int)) := hr 5 (by omega)
  have c6 : W.cell? ⟨b.block, b.off + 6, none⟩ = some (.int .u8 ((t.get! 6).toNat : Int)) := hr 6 (by omega)
  have c7 : W.cell? ⟨b.block, b.off + 7, none⟩ = some (.int .u8 ((t.get! 7).toNat : Int)) := hr 7 (by omega)
  have h0 := (t.get! 0).toNat_lt
  have h1 := (t.get! 1).toNat_lt
  have h2 := (t.get! 2).toNat_lt
  have h3 := (t.get! 3).toNat_lt
  have h4 := (t.get! 4).toNat_lt
  have h5 := (t.get! 5).toNat_lt
  have h6 := (t.get! 6).toNat_lt
  have h7 := (t.get! 7).toNat_lt
  have q0 : (0 : Int) < (t.size : Int) := by omega
  have p0 : 0 < t.size := by omega
  have q1 : (1 : Int) < (t.size : Int) := by omega
  have p1 : 1 < t.size := by omega
  have q2 : (2 : Int) < (t.size : Int) := by omega
  have p2 : 2 < t.size := by omega
  have q3 : (3 : Int) < (t.size : Int) := by omega
  have p3 : 3 < t.size := by omega
  have q4 : (4 : Int) < (t.size : Int) := by omega
  have p4 : 4 < t.size := by omega
  have q5 : (5 : Int) < (t.size : Int) := by omega
  have p5 : 5 < t.size := by omega
  have q6 : (6 : Int) < (t.size : Int) := by omega
  have p6 : 6 < t.size := by omega
  have q7 : (7 : Int) < (t.size : Int) := by omega
  have p7 : 7 < t.size := by omega
  clear hr h8
  generalize (t.get! 0).toNat = x0 at *
  generalize (t.get! 1).toNat = x1 at *
  generalize (t.get! 2).toNat = x2 at *
  generalize (t.get! 3).toNat = x3 at *
  generalize (t.get! 4).toNat = x4 at *
  generalize (t.get! 5).toNat = x5 at *
  generalize (t.get! 6).toNat = x6 at *
  generalize (t.get! 7).toNat = x7 at *
  generalize wd t = v at *
  have HV := Aside0.mk hv
  clear hv
  go_enter Tryd.func43, Tryd.ntmps43
  go_wp2
  go_quiet (fail)
  go_wp2
  go_ret
  refine ⟨?_, _, rfl⟩
  simp (disch := omega) only [u64_wrap_id, u64_or8, u64_or16, u64_or24, u64_or32, u64_or40, u64_or48, u64_or56]
  rw [HV.out]
  rfl
end Va
end Go.Proofs.YtgpghjmoapffcaaDoor
