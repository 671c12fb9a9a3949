/- The head of chapter 9's laws: the pieces of names.PutPrinc. No condition. -/
import Derived.Test.YtpbbcjkbeodeiaaDoorHd9f
set_option linter.unusedVariables false
set_option linter.unusedSimpArgs false
namespace Go.Proofs.YtpbbcjkbeodeiaaDoor
open Go.RowKit Go.Proofs.YtpbbcjkbeodeiaaDoorW.PrintWords Go.Proofs.YtpbbcjkbeodeiaaDoor.XO
namespace H9
set_option maxHeartbeats 4000000 in
set_option maxRecDepth 100000 in
theorem nodeN (t : Int) (A B : Option Addr) (n c m d : Nat) (w : World) :
    Calls Tryd.prog 34 #[.iface 31 (.agg #[.int .u8 t, .slice A n c, .slice B m d])] w fun e w' => e = .returned (.tuple #[.agg #[.int .u8 t, .slice A n c, .slice B m d], .bool true]) ∧ Below w.heap.size w w' := by
  have hu := Tryd.underlying31
  have y := fun (v : Value) (w : World) => as_yes (P := Tryd.prog) Tryd.underlying31 rfl 20 v w
  have e1 : (w.alloc (.cells #[.int .u8 0, .slice none 0 0, .slice none 0 0] 31)).heap.size = w.heap.size + 1 := by simp
  go_enter Tryd.func34, Tryd.ntmps34
  go_wp2
  refine bodyPost_ret (results_ct rfl _ _ w.heap.size 31 _ (0, 0) _ rfl (blk_alloc (blk_new _ _) _) Tryd.underlying31 rfl (by kernel_rfl)) rfl ?_
  exact ⟨rfl, below_alloc (below_alloc (Below.refl _ _) _) _⟩
set_option maxHeartbeats 4000000 in
set_option maxRecDepth 100000 in
theorem word0 (w : World) : Calls Tryd.prog 35 #[.string ⟨#[]⟩] w fun e w' => e = .returned (.bool false) ∧ w' = w := by
  go_enter Tryd.func35, Tryd.ntmps35
  go_wp2
  go_ret
  exact ⟨rfl, rfl⟩
set_option maxHeartbeats 4000000 in
set_option maxRecDepth 100000 in
theorem list0 (w : World) :
    Calls Tryd.prog 36 #[.int .u8 48, .slice none 0 0, .func (.func 33) #[] #[]] w fun e w' => e = .returned (.tuple #[.agg #[.int .u8 48, .slice none 0 0, .slice none 0 0], .bool true]) ∧ Below w.heap.size w w' := by
  have hu := Tryd.underlying31
  go_enter Tryd.func36, Tryd.ntmps36
  go_wp2_with fail
  go_loopg [17] 0 (fun gg v17 wr => v17 = .int .i64 0 ∧ wr = (w.alloc (.cells #[.int .u8 0, .slice none 0 0, .slice none 0 0] 31)).alloc (.cells #[.int .u8 48, .slice none 0 0, .slice none 0 0] 31))
  case atStart => exact ⟨rfl, rfl⟩
  case round =>
    obtain ⟨rfl, rfl⟩ := hrel
    go_wp2
    refine bodyPost_ret (results_ct rfl _ _ w.heap.size 31 _ (0, 0) _ rfl (blk_alloc (blk_new _ _) _) Tryd.underlying31 rfl (by kernel_rfl)) rfl ?_
    exact ⟨rfl, below_alloc (below_alloc (Below.refl _ _) _) _⟩
set_option maxHeartbeats 4000000 in
set_option maxRecDepth 100000 in
theorem nodeG (w : World) :
    Calls Tryd.prog 34 #[.iface 61 (.string ⟨#[]⟩)] w fun e w' => (∃ A n c, e = .returned (.tuple #[.agg #[.int .u8 27, .slice A n c, .slice none 0 0], .bool true])) ∧ Below w.heap.size w w' := by
  have hu := Tryd.underlying31
  have n0 := fun (v : Value) (w : World) => as_no (P := Tryd.prog) (t := 61) (z := .agg #[.int .u8 0, .slice none 0 0, .slice none 0 0]) Tryd.underlying31 rfl (by decide) (by kernel_rfl) 20 v w
  have n1 := fun (v : Value) (w : World) => as_no (P := Tryd.prog) (t := 61) (z := .int .i64 0) Tryd.underlying2 rfl (by decide) (by kernel_rfl) 20 v w
  have n2 := fun (v : Value) (w : World) => as_no (P := Tryd.prog) (t := 61) (z := .bool false) Tryd.underlying4 rfl (by decide) (by kernel_rfl) 20 v w
  have n3 := fun (v : Value) (w : World) => as_no (P := Tryd.prog) (t := 61) (z := .slice none 0 0) Tryd.underlying28 rfl (by decide) (by kernel_rfl) 20 v w
  have n4 := fun (v : Value) (w : World) => as_no (P := Tryd.prog) (t := 61) (z := .int .i64 0) Tryd.underlying90 rfl (by decide) (by kernel_rfl) 20 v w
  have n5 := fun (v : Value) (w : World) => as_no (P := Tryd.prog) (t := 61) (z := .int .i64 0) Tryd.underlying92 rfl (by decide) (by kernel_rfl) 20 v w
  have y := fun (v : Value) (w : World) => as_yes (P := Tryd.prog) Tryd.underlying61 rfl 20 v w
  have kc := fun W => Lib.run_convert_string_bytes (P := Tryd.prog) W 61 28 5 ⟨#[]⟩ Tryd.underlying61 Tryd.underlying28 Tryd.underlying5
  go_enter Tryd.func34, Tryd.ntmps34
  go_wp2_with fail
  have B0 := bytesWorld_below' (w.alloc (.cells #[.int .u8 0, .slice none 0 0, .slice none 0 0] 31)) 5 ⟨#[]⟩
  have B1 := bytesWorld_below' (Lib.bytesWorld (w.alloc (.cells #[.int .u8 0, .slice none 0 0, .slice none 0 0] 31)) 5 ⟨#[]⟩) 5 ⟨#[]⟩
  refine (Rt.walk27 _ _ [] _ ⟨rfl, by decide, fun h => absurd h (by decide)⟩).mono ?_
  rintro e w2 ⟨he, hb2⟩
  rw [Rt.allp_end _ _ _ (by decide)] at he
  subst he
  have BK := blk_below (blk_below (blk_below (blk_new w (.cells #[.int .u8 0, .slice none 0 0, .slice none 0 0] 31)) B0) B1) hb2
  have HB2 := Aside0.mk (below_then (below_then (below_then (below_alloc (Below.refl w.heap.size w) (.cells #[.int .u8 0, .slice none 0 0, .slice none 0 0] 31)) (by simp) B0) (by have := B0.size; simp at this; omega) B1) (by have h1 := B0.size; have h2 := B1.size; simp at h1; omega) hb2)
  have d0 : w2.cell? ⟨w.heap.size, 0, none⟩ = some (.int .u8 0) := (blk_cell BK 0).trans rfl
  have d1 : w2.cell? ⟨w.heap.size, 1, none⟩ = some (.slice none 0 0) := (blk_cell BK 1).trans rfl
  have d2 : w2.cell? ⟨w.heap.size, 2, none⟩ = some (.slice none 0 0) := (blk_cell BK 2).trans rfl
  have f0 := blk_frozen BK 0
  have f1 := blk_frozen BK 1
  have f2 := blk_frozen BK 2
  have HBK := Aside0.mk BK
  clear B0 B1 BK hb2
  go_wp2
  have hf := putN (Nat.le_refl _) HBK.out HB2.out (.int .u8 27) (.slice (some ⟨w.heap.size + 1, 0, none⟩) 0 (grownCap (w.alloc (.cells #[.int .u8 0, .slice none 0 0, .slice none 0 0] 31)) 0 0 5)) (.slice none 0 0)
  refine bodyPost_ret (results_ct rfl _ _ w.heap.size 31 _ (0, 0) _ rfl hf.1 Tryd.underlying31 rfl (by kernel_rfl)) rfl ?_
  exact ⟨⟨_, _, _, rfl⟩, hf.2⟩
end H9
end Go.Proofs.YtpbbcjkbeodeiaaDoor
