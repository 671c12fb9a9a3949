/- The head of chapter 9's laws: wire.Node at an object, a text, a node. No condition. -/
import Derived.Test.YtpbbcjkbeodeiaaDoorHd9b
set_option linter.unusedVariables false
set_option linter.unusedSimpArgs false
namespace Go.Proofs.YtpbbcjkbeodeiaaDoor
open Go.RowKit Go.Proofs.YtpbbcjkbeodeiaaDoorW.PrintWords Go.Proofs.YtpbbcjkbeodeiaaDoor.XO
namespace H9
theorem bytesWorld_below' (w : World) (e : TypeId) (s : ByteArray) : Below w.heap.size w (Lib.bytesWorld w e s) := by
  unfold Lib.bytesWorld
  exact Lib.below_freeze (below_alloc (below_drew1 (Below.refl _ _)) _) (Nat.le_refl _) _
/-- A node's block, filled. -/
theorem putN {w0 w2 : World} {g : Nat} {t : TypeId} {x0 x1 x2 : Value} (hg : w0.heap.size ≤ g) (h : w2.heap[g]? = some (.cells #[x0, x1, x2] t (0, 0))) (hb : Below w0.heap.size w0 w2) (a b c : Value) :
    (((w2.setCell ⟨g, 0, none⟩ a).setCell ⟨g, 1, none⟩ b).setCell ⟨g, 2, none⟩ c).heap[g]? = some (.cells #[a, b, c] t (0, 0)) ∧ Below w0.heap.size w0 (((w2.setCell ⟨g, 0, none⟩ a).setCell ⟨g, 1, none⟩ b).setCell ⟨g, 2, none⟩ c) :=
  ⟨blk_put (blk_put (blk_put h 0 a rfl) 1 b rfl) 2 c rfl, ((hb.setCell (p := ⟨g, 0, none⟩) hg a).setCell (p := ⟨g, 1, none⟩) hg b).setCell (p := ⟨g, 2, none⟩) hg c⟩
theorem as_yes {P : Program} {t : TypeId} {d : TypeDesc} (hu : P.underlying t = some d) (hd : (match d with | .interface _ => false | _ => true) = true) (xT : TypeId) (v : Value) (w : World) : (Instr.typeAssert (.iface t v) xT t true).run P w = .ok (.tuple #[v, .bool true]) w := by
  cases d <;> first | (simp at hd; done) | simp [Instr.typeAssert, run_underlying hu]
theorem as_no {P : Program} {t s : TypeId} {d : TypeDesc} {z : Value} (hu : P.underlying s = some d) (hd : (match d with | .interface _ => false | _ => true) = true) (hne : t ≠ s) (hz : (P.info? s).map (·.zero) = some (some z)) (xT : TypeId) (v : Value) (w : World) : (Instr.typeAssert (.iface t v) xT s true).run P w = .ok (.tuple #[z, .bool false]) w := by
  obtain ⟨j, hj, hz'⟩ := Option.map_eq_some_iff.1 hz
  cases d <;> first | (simp at hd; done) | simp [Instr.typeAssert, run_underlying hu, hne, zeroValue, typeInfo, hj, hz']
set_option maxHeartbeats 4000000 in
set_option maxRecDepth 100000 in
theorem nodeT (w : World) :
    Calls Tryd.prog 34 #[.iface 56 (.string ⟨#[65, 110, 110]⟩)] w fun e w' => (∃ A n c, e = .returned (.tuple #[.agg #[.int .u8 12, .slice A n c, .slice none 0 0], .bool true])) ∧ Below w.heap.size w w' := by
  have hu := Tryd.underlying31
  have n0 := fun (v : Value) (w : World) => as_no (P := Tryd.prog) (t := 56) (z := .agg #[.int .u8 0, .slice none 0 0, .slice none 0 0]) Tryd.underlying31 rfl (by decide) (by kernel_rfl) 20 v w
  have n1 := fun (v : Value) (w : World) => as_no (P := Tryd.prog) (t := 56) (z := .int .i64 0) Tryd.underlying2 rfl (by decide) (by kernel_rfl) 20 v w
  have n2 := fun (v : Value) (w : World) => as_no (P := Tryd.prog) (t := 56) (z := .bool false) Tryd.underlying4 rfl (by decide) (by kernel_rfl) 20 v w
  have n3 := fun (v : Value) (w : World) => as_no (P := Tryd.prog) (t := 56) (z := .slice none 0 0) Tryd.underlying28 rfl (by decide) (by kernel_rfl) 20 v w
  have n4 := fun (v : Value) (w : World) => as_no (P := Tryd.prog) (t := 56) (z := .int .i64 0) Tryd.underlying90 rfl (by decide) (by kernel_rfl) 20 v w
  have n5 := fun (v : Value) (w : World) => as_no (P := Tryd.prog) (t := 56) (z := .int .i64 0) Tryd.underlying92 rfl (by decide) (by kernel_rfl) 20 v w
  have n6 := fun (v : Value) (w : World) => as_no (P := Tryd.prog) (t := 56) (z := .string ⟨#[]⟩) Tryd.underlying61 rfl (by decide) (by kernel_rfl) 20 v w
  have y := fun (v : Value) (w : World) => as_yes (P := Tryd.prog) Tryd.underlying56 rfl 20 v w
  have kc := fun W => Lib.run_convert_string_bytes (P := Tryd.prog) W 56 28 5 ⟨#[65, 110, 110]⟩ Tryd.underlying56 Tryd.underlying28 Tryd.underlying5
  go_enter Tryd.func34, Tryd.ntmps34
  go_wp2_with fail
  have B0 := bytesWorld_below' (w.alloc (.cells #[.int .u8 0, .slice none 0 0, .slice none 0 0] 31)) 5 ⟨#[65, 110, 110]⟩
  refine (valid_Ann _).mono ?_
  rintro e w2 ⟨rfl, hb2⟩
  have BK := blk_below (blk_below (blk_new w (.cells #[.int .u8 0, .slice none 0 0, .slice none 0 0] 31)) B0) hb2
  have HB2 := Aside0.mk (below_then (below_then (below_alloc (Below.refl w.heap.size w) (.cells #[.int .u8 0, .slice none 0 0, .slice none 0 0] 31)) (by simp) B0) (by have := B0.size; simp at this; omega) hb2)
  have c0 : w2.cell? ⟨w.heap.size, 0, none⟩ = some (.int .u8 0) := (blk_cell BK 0).trans rfl
  have c1 : w2.cell? ⟨w.heap.size, 1, none⟩ = some (.slice none 0 0) := (blk_cell BK 1).trans rfl
  have c2 : w2.cell? ⟨w.heap.size, 2, none⟩ = some (.slice none 0 0) := (blk_cell BK 2).trans rfl
  have f0 := blk_frozen BK 0
  have f1 := blk_frozen BK 1
  have f2 := blk_frozen BK 2
  have HBK := Aside0.mk BK
  clear B0 BK hb2
  go_wp2
  have hf := putN (Nat.le_refl _) HBK.out HB2.out (.int .u8 12) (.slice (some ⟨w.heap.size + 1, 0, none⟩) 3 (grownCap (w.alloc (.cells #[.int .u8 0, .slice none 0 0, .slice none 0 0] 31)) 3 0 5)) (.slice none 0 0)
  refine bodyPost_ret (results_ct rfl _ _ w.heap.size 31 _ (0, 0) _ rfl hf.1 Tryd.underlying31 rfl (by kernel_rfl)) rfl ?_
  exact ⟨⟨_, _, _, rfl⟩, hf.2⟩
set_option maxHeartbeats 4000000 in
set_option maxRecDepth 100000 in
theorem nodeO (A0 : Option Addr) (c0 : Nat) (w : World) (hc : 4 ≤ c0) (hr0 : Kd.C (Kd.int .i64) w A0 4 [2, 5, 4, 3]) :
    Calls Tryd.prog 34 #[.iface 55 (.slice A0 4 c0)] w fun e w' => (∃ A n c, e = .returned (.tuple #[.agg #[.int .u8 6, .slice A n c, .slice none 0 0], .bool true])) ∧ Below w.heap.size w w' := by
  have hu := Tryd.underlying31
  have n0 := fun (v : Value) (w : World) => as_no (P := Tryd.prog) (t := 55) (z := .agg #[.int .u8 0, .slice none 0 0, .slice none 0 0]) Tryd.underlying31 rfl (by decide) (by kernel_rfl) 20 v w
  have n1 := fun (v : Value) (w : World) => as_no (P := Tryd.prog) (t := 55) (z := .int .i64 0) Tryd.underlying2 rfl (by decide) (by kernel_rfl) 20 v w
  have n2 := fun (v : Value) (w : World) => as_no (P := Tryd.prog) (t := 55) (z := .bool false) Tryd.underlying4 rfl (by decide) (by kernel_rfl) 20 v w
  have n3 := fun (v : Value) (w : World) => as_no (P := Tryd.prog) (t := 55) (z := .slice none 0 0) Tryd.underlying28 rfl (by decide) (by kernel_rfl) 20 v w
  have n4 := fun (v : Value) (w : World) => as_no (P := Tryd.prog) (t := 55) (z := .int .i64 0) Tryd.underlying90 rfl (by decide) (by kernel_rfl) 20 v w
  have n5 := fun (v : Value) (w : World) => as_no (P := Tryd.prog) (t := 55) (z := .int .i64 0) Tryd.underlying92 rfl (by decide) (by kernel_rfl) 20 v w
  have n6 := fun (v : Value) (w : World) => as_no (P := Tryd.prog) (t := 55) (z := .string ⟨#[]⟩) Tryd.underlying61 rfl (by decide) (by kernel_rfl) 20 v w
  have n7 := fun (v : Value) (w : World) => as_no (P := Tryd.prog) (t := 55) (z := .string ⟨#[]⟩) Tryd.underlying56 rfl (by decide) (by kernel_rfl) 20 v w
  have y := fun (v : Value) (w : World) => as_yes (P := Tryd.prog) Tryd.underlying55 rfl 20 v w
  have HC := Aside0.mk (putOID A0 c0 (w.alloc (.cells #[.int .u8 0, .slice none 0 0, .slice none 0 0] 31)) hc (Kd.C_alloc hr0 _))
  clear hr0
  go_enter Tryd.func34, Tryd.ntmps34
  go_wp2_with fail
  refine HC.out.mono ?_
  rintro e w2 ⟨⟨A6, n6, c6, rfl⟩, hb2⟩
  have BK := blk_below (blk_new w (.cells #[.int .u8 0, .slice none 0 0, .slice none 0 0] 31)) hb2
  have HB2 := Aside0.mk (below_then (below_alloc (Below.refl w.heap.size w) (.cells #[.int .u8 0, .slice none 0 0, .slice none 0 0] 31)) (by simp) hb2)
  have d0 : w2.cell? ⟨w.heap.size, 0, none⟩ = some (.int .u8 0) := (blk_cell BK 0).trans rfl
  have d1 : w2.cell? ⟨w.heap.size, 1, none⟩ = some (.slice none 0 0) := (blk_cell BK 1).trans rfl
  have d2 : w2.cell? ⟨w.heap.size, 2, none⟩ = some (.slice none 0 0) := (blk_cell BK 2).trans rfl
  have f0 := blk_frozen BK 0
  have f1 := blk_frozen BK 1
  have f2 := blk_frozen BK 2
  have HBK := Aside0.mk BK
  clear BK hb2 HC
  go_wp2
  have hf := putN (Nat.le_refl _) HBK.out HB2.out (.int .u8 6) (.slice A6 n6 c6) (.slice none 0 0)
  refine bodyPost_ret (results_ct rfl _ _ w.heap.size 31 _ (0, 0) _ rfl hf.1 Tryd.underlying31 rfl (by kernel_rfl)) rfl ?_
  exact ⟨⟨_, _, _, rfl⟩, hf.2⟩
end H9
end Go.Proofs.YtpbbcjkbeodeiaaDoor
