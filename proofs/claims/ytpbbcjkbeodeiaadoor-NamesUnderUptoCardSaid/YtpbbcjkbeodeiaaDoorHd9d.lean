/- The head of chapter 9's laws: wire.Seq of two values. No condition. -/
import Derived.Test.YtpbbcjkbeodeiaaDoorHd9c
set_option linter.unusedVariables false
set_option linter.unusedSimpArgs false
namespace Go.Proofs.YtpbbcjkbeodeiaaDoor
open Go.RowKit Go.Proofs.YtpbbcjkbeodeiaaDoorW.PrintWords Go.Proofs.YtpbbcjkbeodeiaaDoor.XO
namespace H9
/-- Elements that are told by their cells. -/
def raw (n : Nat) : Kd (List Value) where
  sz := n
  E := []
  K := fun _ x cs => cs = x ∧ cs.length = n ∧ ∀ u ∈ cs, u.oneCell' = true
  M := fun _ _ _ x cs => cs = x ∧ cs.length = n ∧ ∀ u ∈ cs, u.oneCell' = true
  K_len := fun h => h.2.1
  K_one := fun h => h.2.2
  K_below := fun _ h => h
  K_of_M := fun h => h
  M_mono := fun _ h => h
  M_bound := fun h => h
  M_move := fun _ h => h
  M_lower := fun _ h => h
theorem info31 : (Tryd.prog.info? 31).map (fun i => (i.zero, i.size, i.bytes)) = some (some (.agg #[.int .u8 0, .slice none 0 0, .slice none 0 0]), 3, 56) := by kernel_rfl
/-- wire.Node makes a node of the value, in whatever world that came of w. -/
def Good (w : World) (v : Value) : Prop := ∀ W, Below w.heap.size w W → Calls Tryd.prog 34 #[v] W fun e w' => (∃ t A n c B m d, e = .returned (.tuple #[.agg #[.int .u8 t, .slice A n c, .slice B m d], .bool true])) ∧ Below W.heap.size W w'
set_option maxHeartbeats 4000000 in
set_option maxRecDepth 100000 in
theorem seq2 (v1 v2 : Value) (g : Nat) (w : World) (h1 : w.cell? ⟨g, 0, none⟩ = some v1) (h2 : w.cell? ⟨g, 1, none⟩ = some v2) (G1 : Good w v1) (G2 : Good w v2) :
    Calls Tryd.prog 29 #[.int .u8 48, .slice (some ⟨g, 0, none⟩) 2 2] w fun e w' => (∃ A c, e = .returned (.tuple #[.agg #[.int .u8 48, .slice none 0 0, .slice A 2 c], .bool true])) ∧ Below w.heap.size w w' := by
  have hu := Tryd.underlying31
  have HG1 := Aside0.mk G1
  have HG2 := Aside0.mk G2
  have H1 := Aside0.mk h1
  have H2 := Aside0.mk h2
  clear G1 G2 h1 h2
  go_enter Tryd.func29, Tryd.ntmps29
  go_wp2_with fail
  go_loopg [15] 2 (fun gg v15 wr => ∃ (kk : Nat) (xs : List (List Value)) (kv : Value), kk ≤ 2 ∧ 2 - kk ≤ gg ∧ v15 = .int .i64 kk ∧ xs.length = kk ∧ Aside0 ((raw 3).R 31 wr w.heap.size (fun k => w.heap.size + 1 < k) kv xs) ∧ Aside0 (Below w.heap.size w wr) ∧ Aside0 (wr.heap[w.heap.size]? = some (.cells #[.int .u8 0, .slice none 0 0, .slice none 0 0] 31 (0, 0))) ∧ Aside0 (wr.heap[w.heap.size + 1]? = some (.cells #[.int .u8 48, .slice none 0 0, kv] 31 (0, 0))))
  case atStart =>
    have e : (w.alloc (.cells #[.int .u8 0, .slice none 0 0, .slice none 0 0] 31)).heap.size = w.heap.size + 1 := by simp
    exact ⟨0, [], .slice none 0 0, by omega, by omega, rfl, rfl, ⟨Kd.R_nil _ _ _ _ _⟩, ⟨below_alloc (below_alloc (Below.refl _ _) _) _⟩, ⟨blk_alloc (blk_new _ _) _⟩, ⟨by rw [← e]; exact blk_new _ _⟩⟩
  case round =>
    obtain ⟨kk, xs, kv, hkk, hg, rfl, hxs, HR, HB, HB4, HB6⟩ := hrel
    have hk3 : kk = 0 ∨ kk = 1 ∨ kk = 2 := by omega
    rcases hk3 with rfl | rfl | rfl
    · obtain ⟨Ak, ck, ek⟩ := Kd.R_slice HR.out
      rw [hxs] at ek
      subst ek
      have q := (HB.out.cell (World.block_lt_of_cell? w _ H1.out)).trans H1.out
      go_wp2_with fail
      refine (HG1.out wr HB.out).mono ?_
      rintro e w4 ⟨⟨t, A, n, c, B, m, d, rfl⟩, hb4⟩
      have BK4 := Aside0.mk (blk_alloc (blk_below HB4.out hb4) (.cells #[.int .u8 t, .slice A n c, .slice B m d] 31))
      have bk6 := blk_below HB6.out hb4
      have c2 : w4.cell? ⟨w.heap.size + 1, 2, none⟩ = some (.slice Ak 0 ck) := (blk_cell bk6 2).trans rfl
      have f2 := blk_frozen bk6 2
      have BK6 := Aside0.mk (blk_alloc bk6 (.cells #[.int .u8 t, .slice A n c, .slice B m d] 31))
      have HR4 := Aside0.mk (Kd.R_alloc (Kd.R_below HR.out hb4) (.cells #[.int .u8 t, .slice A n c, .slice B m d] 31))
      have HB4' := Aside0.mk (below_alloc (below_then HB.out HB.out.size hb4) (.cells #[.int .u8 t, .slice A n c, .slice B m d] 31))
      have hlt : w.heap.size + 1 < w4.heap.size := blk_lt bk6
      have hne : w.heap.size + 1 ≠ w4.heap.size := by omega
      have hne' : w4.heap.size ≠ w.heap.size + 1 := by omega
      clear bk6 hb4 HB4 HB6 HR HB
      have e5 : (w4.alloc (.cells #[.int .u8 t, .slice A n c, .slice B m d] 31)).heap.size = w4.heap.size + 1 := by simp
      go_wp2_with (at_builtin; refine Kd.R_append (raw 3) (w0 := w) w.heap.size rfl (.tmp 28) (.tmp 30) 29 31 (.agg #[.int .u8 0, .slice none 0 0, .slice none 0 0]) 56 rfl Tryd.underlying29 info31 rfl (show 0 < 3 by decide) (by decide) (.slice Ak 0 ck) xs [.int .u8 t, .slice A n c, .slice B m d] [.int .u8 t, .slice A n c, .slice B m d] (fun k => w.heap.size + 1 < k) (fun _ => False) rfl (by rw [e5]; rfl) ?aP (fun _ hk => hk.elim) ?aF ?aO ?aB ?aS ?aL ?_)
      case aP => exact ⟨rfl, rfl, by simp [Value.oneCell']⟩
      case aF => exact fun k hk => by simp at hk; omega
      case aO => exact HR4.out
      case aB => exact HB4'.out
      case aS => exact HB4'.out.size
      case aL => omega
      intro v7 w5 hR7 hB7 hg7 _
      have n4 : some w.heap.size ≠ (Value.slice Ak 0 ck).ownBlock := fun h => by have := HR4.out.1 _ h.symm; omega
      have n6 : some (w.heap.size + 1) ≠ (Value.slice Ak 0 ck).ownBlock := fun h => by have := HR4.out.1 _ h.symm; omega
      have bk4 := blk_grown BK4.out hg7 n4
      have bk6 := blk_grown BK6.out hg7 n6
      obtain ⟨A7, c7, rfl⟩ := Kd.R_slice hR7
      have c2 : w5.cell? ⟨w.heap.size + 1, 2, none⟩ = some (.slice Ak 0 ck) := (blk_cell bk6 2).trans rfl
      have f2 := blk_frozen bk6 2
      have hlen : (xs ++ [[Value.int .u8 t, .slice A n c, .slice B m d]]).length = 0 + 1 := by simp [hxs]
      rw [hlen] at hR7 ⊢
      have BK4' := Aside0.mk (blk_far bk4 (p := ⟨w.heap.size + 1, 2, none⟩) (by simp) (.slice A7 (0 + 1) c7))
      have BK6' := Aside0.mk (blk_put bk6 2 (.slice A7 (0 + 1) c7) rfl)
      have HR5 := Aside0.mk (Kd.R_far (p := ⟨w.heap.size + 1, 2, none⟩) hR7 (fun q hq he => by have he2 : q = w.heap.size + 1 := he; omega) (.slice A7 (0 + 1) c7))
      have HB5 := Aside0.mk (hB7.setCell (p := ⟨w.heap.size + 1, 2, none⟩) (by simp) (.slice A7 (0 + 1) c7))
      clear bk4 bk6 hg7 hB7 hR7 n4 n6 BK4 BK6 HR4 HB4'
      go_wp2_with fail
      go_roundg 1
      case measure => omega
      case rel => exact ⟨0 + 1, _, _, by omega, by omega, rfl, hlen, HR5, HB5, BK4', BK6'⟩
    · obtain ⟨Ak, ck, ek⟩ := Kd.R_slice HR.out
      rw [hxs] at ek
      subst ek
      have q := (HB.out.cell (World.block_lt_of_cell? w _ H2.out)).trans H2.out
      go_wp2_with fail
      refine (HG2.out wr HB.out).mono ?_
      rintro e w4 ⟨⟨t, A, n, c, B, m, d, rfl⟩, hb4⟩
      have BK4 := Aside0.mk (blk_alloc (blk_below HB4.out hb4) (.cells #[.int .u8 t, .slice A n c, .slice B m d] 31))
      have bk6 := blk_below HB6.out hb4
      have c2 : w4.cell? ⟨w.heap.size + 1, 2, none⟩ = some (.slice Ak 1 ck) := (blk_cell bk6 2).trans rfl
      have f2 := blk_frozen bk6 2
      have BK6 := Aside0.mk (blk_alloc bk6 (.cells #[.int .u8 t, .slice A n c, .slice B m d] 31))
      have HR4 := Aside0.mk (Kd.R_alloc (Kd.R_below HR.out hb4) (.cells #[.int .u8 t, .slice A n c, .slice B m d] 31))
      have HB4' := Aside0.mk (below_alloc (below_then HB.out HB.out.size hb4) (.cells #[.int .u8 t, .slice A n c, .slice B m d] 31))
      have hlt : w.heap.size + 1 < w4.heap.size := blk_lt bk6
      have hne : w.heap.size + 1 ≠ w4.heap.size := by omega
      have hne' : w4.heap.size ≠ w.heap.size + 1 := by omega
      clear bk6 hb4 HB4 HB6 HR HB
      have e5 : (w4.alloc (.cells #[.int .u8 t, .slice A n c, .slice B m d] 31)).heap.size = w4.heap.size + 1 := by simp
      go_wp2_with (at_builtin; refine Kd.R_append (raw 3) (w0 := w) w.heap.size rfl (.tmp 28) (.tmp 30) 29 31 (.agg #[.int .u8 0, .slice none 0 0, .slice none 0 0]) 56 rfl Tryd.underlying29 info31 rfl (show 0 < 3 by decide) (by decide) (.slice Ak 1 ck) xs [.int .u8 t, .slice A n c, .slice B m d] [.int .u8 t, .slice A n c, .slice B m d] (fun k => w.heap.size + 1 < k) (fun _ => False) rfl (by rw [e5]; rfl) ?aP (fun _ hk => hk.elim) ?aF ?aO ?aB ?aS ?aL ?_)
      case aP => exact ⟨rfl, rfl, by simp [Value.oneCell']⟩
      case aF => exact fun k hk => by simp at hk; omega
      case aO => exact HR4.out
      case aB => exact HB4'.out
      case aS => exact HB4'.out.size
      case aL => omega
      intro v7 w5 hR7 hB7 hg7 _
      have n4 : some w.heap.size ≠ (Value.slice Ak 1 ck).ownBlock := fun h => by have := HR4.out.1 _ h.symm; omega
      have n6 : some (w.heap.size + 1) ≠ (Value.slice Ak 1 ck).ownBlock := fun h => by have := HR4.out.1 _ h.symm; omega
      have bk4 := blk_grown BK4.out hg7 n4
      have bk6 := blk_grown BK6.out hg7 n6
      obtain ⟨A7, c7, rfl⟩ := Kd.R_slice hR7
      have c2 : w5.cell? ⟨w.heap.size + 1, 2, none⟩ = some (.slice Ak 1 ck) := (blk_cell bk6 2).trans rfl
      have f2 := blk_frozen bk6 2
      have hlen : (xs ++ [[Value.int .u8 t, .slice A n c, .slice B m d]]).length = 1 + 1 := by simp [hxs]
      rw [hlen] at hR7 ⊢
      have BK4' := Aside0.mk (blk_far bk4 (p := ⟨w.heap.size + 1, 2, none⟩) (by simp) (.slice A7 (1 + 1) c7))
      have BK6' := Aside0.mk (blk_put bk6 2 (.slice A7 (1 + 1) c7) rfl)
      have HR5 := Aside0.mk (Kd.R_far (p := ⟨w.heap.size + 1, 2, none⟩) hR7 (fun q hq he => by have he2 : q = w.heap.size + 1 := he; omega) (.slice A7 (1 + 1) c7))
      have HB5 := Aside0.mk (hB7.setCell (p := ⟨w.heap.size + 1, 2, none⟩) (by simp) (.slice A7 (1 + 1) c7))
      clear bk4 bk6 hg7 hB7 hR7 n4 n6 BK4 BK6 HR4 HB4'
      go_wp2_with fail
      go_roundg 0
      case measure => omega
      case rel => exact ⟨1 + 1, _, _, by omega, by omega, rfl, hlen, HR5, HB5, BK4', BK6'⟩
    · obtain ⟨Ak, ck, ek⟩ := Kd.R_slice HR.out
      rw [hxs] at ek
      subst ek
      have c0 : wr.cell? ⟨w.heap.size, 0, none⟩ = some (.int .u8 0) := (blk_cell HB4.out 0).trans rfl
      have c1 : wr.cell? ⟨w.heap.size, 1, none⟩ = some (.slice none 0 0) := (blk_cell HB4.out 1).trans rfl
      have c2 : wr.cell? ⟨w.heap.size, 2, none⟩ = some (.slice none 0 0) := (blk_cell HB4.out 2).trans rfl
      have f0 := blk_frozen HB4.out 0
      have f1 := blk_frozen HB4.out 1
      have f2 := blk_frozen HB4.out 2
      have d0 : wr.cell? ⟨w.heap.size + 1, 0, none⟩ = some (.int .u8 48) := (blk_cell HB6.out 0).trans rfl
      have d1 : wr.cell? ⟨w.heap.size + 1, 1, none⟩ = some (.slice none 0 0) := (blk_cell HB6.out 1).trans rfl
      have d2 : wr.cell? ⟨w.heap.size + 1, 2, none⟩ = some (.slice Ak 2 ck) := (blk_cell HB6.out 2).trans rfl
      go_wp2
      have hf := putN (Nat.le_refl _) HB4.out HB.out (.int .u8 48) (.slice none 0 0) (.slice Ak 2 ck)
      refine bodyPost_ret (results_ct rfl _ _ w.heap.size 31 _ (0, 0) _ rfl hf.1 Tryd.underlying31 rfl (by kernel_rfl)) rfl ?_
      exact ⟨⟨_, _, rfl⟩, hf.2⟩
end H9
end Go.Proofs.YtpbbcjkbeodeiaaDoor
