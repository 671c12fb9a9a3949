/- The head of chapter 9's laws: names.Put, and the pieces of names.PutPrinc. No condition. -/
import Derived.Test.YtpbbcjkbeodeiaaDoorHd9e
import Derived.Test.YtpbbcjkbeodeiaaDoorRight
set_option linter.unusedVariables false
set_option linter.unusedSimpArgs false
namespace Go.Proofs.YtpbbcjkbeodeiaaDoor
open Go.RowKit Go.Proofs.YtpbbcjkbeodeiaaDoorW.PrintWords Go.Proofs.YtpbbcjkbeodeiaaDoor.XO
namespace H9
set_option maxHeartbeats 4000000 in
set_option maxRecDepth 100000 in
theorem putA (A0 : Option Addr) (c0 : Nat) (g : Nat) (w : World) (hc : 4 ≤ c0) (hr0 : Kd.C (Kd.int .i64) w A0 4 [2, 5, 4, 3]) (h0 : w.cell? ⟨g, 0, none⟩ = some (.slice A0 4 c0)) (h1 : w.cell? ⟨g, 1, none⟩ = some (.string ⟨#[65, 110, 110]⟩)) :
    Calls Tryd.prog 11 #[.slice (some ⟨g, 0, none⟩) 1 1] w fun e w' => (∃ A c, e = .returned (.tuple #[.agg #[.int .u8 48, .slice none 0 0, .slice A 1 c], .int .i64 0])) ∧ Below w.heap.size w w' := by
  have hu := Tryd.underlying31
  have hg : g < w.heap.size := World.block_lt_of_cell? w _ h0
  have HC := Aside0.mk (list1 A0 c0 g (w.alloc (.cells #[.int .u8 0, .slice none 0 0, .slice none 0 0] 31)) hc (Kd.C_alloc hr0 _) (by rw [← h0]; exact (below_alloc (Below.refl w.heap.size w) _).cell (p := ⟨g, 0, none⟩) hg) (by rw [← h1]; exact (below_alloc (Below.refl w.heap.size w) _).cell (p := ⟨g, 1, none⟩) hg))
  clear hr0 h0 h1
  go_enter Tryd.func11, Tryd.ntmps11
  go_wp2_with fail
  refine HC.out.mono ?_
  rintro e w2 ⟨⟨A, c, rfl⟩, hb2⟩
  have BK := blk_below (blk_new w (.cells #[.int .u8 0, .slice none 0 0, .slice none 0 0] 31)) hb2
  have HB2 := Aside0.mk (below_then (below_alloc (Below.refl w.heap.size w) (.cells #[.int .u8 0, .slice none 0 0, .slice none 0 0] 31)) (by simp) hb2)
  have HBK := Aside0.mk BK
  clear hb2 BK HC
  go_wp2_with fail
  refine (put0 48 none A 0 0 1 c _ true).mono ?_
  rintro e w3 ⟨rfl, hb3⟩
  have bk3 := blk_below (blk_alloc HBK.out (.cells #[.int .u8 48, .slice none 0 0, .slice A 1 c] 31)) hb3
  have HB3 := Aside0.mk (below_then (below_alloc HB2.out (.cells #[.int .u8 48, .slice none 0 0, .slice A 1 c] 31)) (below_alloc HB2.out (.cells #[.int .u8 48, .slice none 0 0, .slice A 1 c] 31)).size hb3)
  have d0 : w3.cell? ⟨w.heap.size, 0, none⟩ = some (.int .u8 0) := (blk_cell bk3 0).trans rfl
  have d1 : w3.cell? ⟨w.heap.size, 1, none⟩ = some (.slice none 0 0) := (blk_cell bk3 1).trans rfl
  have d2 : w3.cell? ⟨w.heap.size, 2, none⟩ = some (.slice none 0 0) := (blk_cell bk3 2).trans rfl
  have f0 := blk_frozen bk3 0
  have f1 := blk_frozen bk3 1
  have f2 := blk_frozen bk3 2
  have BK3 := Aside0.mk bk3
  clear bk3 hb3 HBK HB2
  go_wp2
  have hf := putN (Nat.le_refl _) BK3.out HB3.out (.int .u8 48) (.slice none 0 0) (.slice A 1 c)
  refine bodyPost_ret (results_ct rfl _ _ w.heap.size 31 _ (0, 0) _ rfl hf.1 Tryd.underlying31 rfl (by kernel_rfl)) rfl ?_
  exact ⟨⟨_, _, rfl⟩, hf.2⟩
end H9
end Go.Proofs.YtpbbcjkbeodeiaaDoor
