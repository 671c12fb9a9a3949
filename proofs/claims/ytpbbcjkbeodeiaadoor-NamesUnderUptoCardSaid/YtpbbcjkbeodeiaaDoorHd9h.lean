/- The head of chapter 9's laws: names.PutPrinc of nothing; the head. No condition. -/
import Derived.Test.YtpbbcjkbeodeiaaDoorHd9g
set_option linter.unusedVariables false
set_option linter.unusedSimpArgs false
namespace Go.Proofs.YtpbbcjkbeodeiaaDoor
open Go.RowKit Go.Proofs.YtpbbcjkbeodeiaaDoorW.PrintWords Go.Proofs.YtpbbcjkbeodeiaaDoor.XO
namespace H9
set_option maxHeartbeats 4000000 in
set_option maxRecDepth 100000 in
theorem ofE (w : World) :
    Calls Tryd.prog 33 #[.string ⟨#[]⟩] w fun e w' => (∃ A n c, e = .returned (.tuple #[.agg #[.int .u8 27, .slice A n c, .slice none 0 0], .bool false])) ∧ Below w.heap.size w w' := by
  have hu := Tryd.underlying31
  go_enter Tryd.func33, Tryd.ntmps33
  go_wp2_with fail
  refine (nodeG _).mono ?_
  rintro e w2 ⟨⟨A, n, c, rfl⟩, hb2⟩
  have BK := blk_below (blk_new w (.cells #[.int .u8 0, .slice none 0 0, .slice none 0 0] 31)) hb2
  have HB2 := Aside0.mk (below_then (below_alloc (Below.refl w.heap.size w) (.cells #[.int .u8 0, .slice none 0 0, .slice none 0 0] 31)) (by simp) hb2)
  have d0 : w2.cell? ⟨w.heap.size, 0, none⟩ = some (.int .u8 0) := (blk_cell BK 0).trans rfl
  have d1 : w2.cell? ⟨w.heap.size, 1, none⟩ = some (.slice none 0 0) := (blk_cell BK 1).trans rfl
  have d2 : w2.cell? ⟨w.heap.size, 2, none⟩ = some (.slice none 0 0) := (blk_cell BK 2).trans rfl
  have f0 := blk_frozen BK 0
  have f1 := blk_frozen BK 1
  have f2 := blk_frozen BK 2
  have hlt : w.heap.size < w2.heap.size := blk_lt BK
  have hne : w.heap.size ≠ w2.heap.size := by omega
  have hne' : w2.heap.size ≠ w.heap.size := by omega
  have HBK := Aside0.mk BK
  clear BK hb2
  go_wp2_with fail
  go_region_with (first | (go_at_call 35; refine (word0 _).mono ?_; rintro e w' ⟨rfl, rfl⟩))
  all_goals go_wp2
  all_goals (have hf := putN (Nat.le_refl _) HBK.out HB2.out (.int .u8 27) (.slice A n c) (.slice none 0 0); refine bodyPost_ret (results_ct rfl _ _ w.heap.size 31 _ (0, 0) _ rfl (blk_drew (blk_alloc hf.1 _)) Tryd.underlying31 rfl (by kernel_rfl)) rfl ?_; exact ⟨⟨_, _, _, rfl⟩, below_drew (below_alloc hf.2 _)⟩)
set_option maxHeartbeats 4000000 in
set_option maxRecDepth 100000 in
theorem princ0 (w : World) :
    Calls Tryd.prog 13 #[.agg #[.string ⟨#[]⟩, .slice none 0 0]] w fun e w' => e = .returned (.tuple #[.agg #[.int .u8 0, .slice none 0 0, .slice none 0 0], .int .i64 91]) ∧ Below w.heap.size w w' := by
  have hu := Tryd.underlying31
  have hu2 := Tryd.underlying26
  go_enter Tryd.func13, Tryd.ntmps13
  go_wp2_with fail
  refine (ofE _).mono ?_
  rintro e w2 ⟨⟨A, n, c, rfl⟩, hb2⟩
  have BKp := blk_below (blk_alloc (blk_new w (.cells #[.string ⟨#[]⟩, .slice none 0 0] 26)) (.cells #[.int .u8 0, .slice none 0 0, .slice none 0 0] 31)) hb2
  have e1 : (w.alloc (.cells #[.string ⟨#[]⟩, .slice none 0 0] 26)).heap.size = w.heap.size + 1 := by simp
  have bk := blk_below (blk_new (w.alloc (.cells #[.string ⟨#[]⟩, .slice none 0 0] 26)) (.cells #[.int .u8 0, .slice none 0 0, .slice none 0 0] 31)) hb2
  rw [e1] at bk
  have HB2 := Aside0.mk (below_then (below_alloc (below_alloc (Below.refl w.heap.size w) (.cells #[.string ⟨#[]⟩, .slice none 0 0] 26)) (.cells #[.int .u8 0, .slice none 0 0, .slice none 0 0] 31)) (by simp; omega) hb2)
  have hlt : w.heap.size + 1 < w2.heap.size := blk_lt bk
  have p0 : w2.cell? ⟨w.heap.size, 0, none⟩ = some (.string ⟨#[]⟩) := (blk_cell BKp 0).trans rfl
  have p1 : w2.cell? ⟨w.heap.size, 1, none⟩ = some (.slice none 0 0) := (blk_cell BKp 1).trans rfl
  have hn0 : w.heap.size ≠ w2.heap.size := by omega
  have hn0' : w2.heap.size ≠ w.heap.size := by omega
  have hl0 : w.heap.size < w2.heap.size := by omega
  have hn1 : w.heap.size + 1 ≠ w2.heap.size := by omega
  have hn1' : w2.heap.size ≠ w.heap.size + 1 := by omega
  have BKP := Aside0.mk (blk_alloc BKp (.cells #[.int .u8 27, .slice A n c, .slice none 0 0] 31))
  have BK := Aside0.mk (blk_alloc bk (.cells #[.int .u8 27, .slice A n c, .slice none 0 0] 31))
  have BKr := Aside0.mk (blk_new w2 (.cells #[.int .u8 27, .slice A n c, .slice none 0 0] 31))
  have HB3 := Aside0.mk (below_alloc HB2.out (.cells #[.int .u8 27, .slice A n c, .slice none 0 0] 31))
  clear BKp bk hb2 HB2
  go_wp2_with fail
  refine (list0 _).mono ?_
  rintro e w4 ⟨rfl, hb4⟩
  have bkp := blk_below BKP.out hb4
  have bk := blk_below BK.out hb4
  have bkr := blk_below BKr.out hb4
  have HB4 := Aside0.mk (below_then HB3.out HB3.out.size hb4)
  have hl2 : w2.heap.size < w4.heap.size := blk_lt bkr
  have hm0 : w.heap.size ≠ w4.heap.size := by omega
  have hm0' : w4.heap.size ≠ w.heap.size := by omega
  have hm1 : w.heap.size + 1 ≠ w4.heap.size := by omega
  have hm1' : w4.heap.size ≠ w.heap.size + 1 := by omega
  have hm2 : w2.heap.size ≠ w4.heap.size := by omega
  have hm2' : w4.heap.size ≠ w2.heap.size := by omega
  have r0 : w4.cell? ⟨w2.heap.size, 0, none⟩ = some (.int .u8 27) := (blk_cell bkr 0).trans rfl
  have r1 : w4.cell? ⟨w2.heap.size, 1, none⟩ = some (.slice A n c) := (blk_cell bkr 1).trans rfl
  have r2 : w4.cell? ⟨w2.heap.size, 2, none⟩ = some (.slice none 0 0) := (blk_cell bkr 2).trans rfl
  clear hb4 p0 p1 BKP BK BKr HB3 hn0 hn0' hl0 hn1 hn1'
  have e4 : (w4.alloc (.cells #[.int .u8 48, .slice none 0 0, .slice none 0 0] 31)).heap.size = w4.heap.size + 1 := by simp
  go_wp2_with fail
  refine (seq2 (.iface 31 (.agg #[.int .u8 27, .slice A n c, .slice none 0 0])) (.iface 31 (.agg #[.int .u8 48, .slice none 0 0, .slice none 0 0])) (w4.heap.size + 1) _ ?p1 ?p2 ?p3 ?p4).mono ?_
  case p1 => exact (blk_cell (by rw [← e4]; exact blk_new _ _) 0).trans rfl
  case p2 => exact (blk_cell (by rw [← e4]; exact blk_new _ _) 1).trans rfl
  case p3 =>
    intro W hb
    refine (nodeN 27 A none n c 0 0 W).mono ?_
    rintro e w' ⟨rfl, hb'⟩
    exact ⟨⟨_, _, _, _, _, _, _, rfl⟩, hb'⟩
  case p4 =>
    intro W hb
    refine (nodeN 48 none none 0 0 0 0 W).mono ?_
    rintro e w' ⟨rfl, hb'⟩
    exact ⟨⟨_, _, _, _, _, _, _, rfl⟩, hb'⟩
  rintro e w6 ⟨⟨B, d, rfl⟩, hb6⟩
  have HB6 := Aside0.mk (below_then (below_alloc (below_alloc HB4.out (.cells #[.int .u8 48, .slice none 0 0, .slice none 0 0] 31)) (.cells #[.iface 31 (.agg #[.int .u8 27, .slice A n c, .slice none 0 0]), .iface 31 (.agg #[.int .u8 48, .slice none 0 0, .slice none 0 0])] 20)) (below_alloc (below_alloc HB4.out (.cells #[.int .u8 48, .slice none 0 0, .slice none 0 0] 31)) (.cells #[.iface 31 (.agg #[.int .u8 27, .slice A n c, .slice none 0 0]), .iface 31 (.agg #[.int .u8 48, .slice none 0 0, .slice none 0 0])] 20)).size hb6)
  have BK6 := Aside0.mk (blk_below (blk_alloc (blk_alloc bk (.cells #[.int .u8 48, .slice none 0 0, .slice none 0 0] 31)) (.cells #[.iface 31 (.agg #[.int .u8 27, .slice A n c, .slice none 0 0]), .iface 31 (.agg #[.int .u8 48, .slice none 0 0, .slice none 0 0])] 20)) hb6)
  clear hb6 bk bkp bkr HB4 r0 r1 r2 hm0 hm0' hm1 hm1' hm2 hm2' hl2 e4
  go_wp2_with fail
  refine (put0 48 none B 0 0 2 d _ false).mono ?_
  rintro e w7 ⟨rfl, hb7⟩
  have bk7 := blk_below (blk_alloc BK6.out (.cells #[.int .u8 48, .slice none 0 0, .slice B 2 d] 31)) hb7
  have HB7 := Aside0.mk (below_then (below_alloc HB6.out (.cells #[.int .u8 48, .slice none 0 0, .slice B 2 d] 31)) (below_alloc HB6.out (.cells #[.int .u8 48, .slice none 0 0, .slice B 2 d] 31)).size hb7)
  have d0 : w7.cell? ⟨w.heap.size + 1, 0, none⟩ = some (.int .u8 0) := (blk_cell bk7 0).trans rfl
  have d1 : w7.cell? ⟨w.heap.size + 1, 1, none⟩ = some (.slice none 0 0) := (blk_cell bk7 1).trans rfl
  have d2 : w7.cell? ⟨w.heap.size + 1, 2, none⟩ = some (.slice none 0 0) := (blk_cell bk7 2).trans rfl
  have f0 := blk_frozen bk7 0
  have f1 := blk_frozen bk7 1
  have f2 := blk_frozen bk7 2
  have BK7 := Aside0.mk bk7
  clear bk7 hb7 BK6 HB6
  go_wp2
  have hf := putN (show w.heap.size ≤ w.heap.size + 1 by omega) BK7.out HB7.out (.int .u8 0) (.slice none 0 0) (.slice none 0 0)
  refine bodyPost_ret (results_ct rfl _ _ (w.heap.size + 1) 31 _ (0, 0) _ rfl hf.1 Tryd.underlying31 rfl (by kernel_rfl)) rfl ?_
  exact ⟨rfl, hf.2⟩
end H9
end Go.Proofs.YtpbbcjkbeodeiaaDoor
