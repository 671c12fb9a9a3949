/- The head of chapter 9's laws: names.Put. No condition. -/
import Derived.Test.YtpbbcjkbeodeiaaDoorHd9d
set_option linter.unusedVariables false
set_option linter.unusedSimpArgs false
namespace Go.Proofs.YtpbbcjkbeodeiaaDoor
open Go.RowKit Go.Proofs.YtpbbcjkbeodeiaaDoorW.PrintWords Go.Proofs.YtpbbcjkbeodeiaaDoor.XO
namespace H9
set_option maxHeartbeats 4000000 in
set_option maxRecDepth 100000 in
theorem put1 (A0 : Option Addr) (c0 : Nat) (w : World) (hc : 4 ≤ c0) (hr0 : Kd.C (Kd.int .i64) w A0 4 [2, 5, 4, 3]) :
    Calls Tryd.prog 28 #[.agg #[.slice A0 4 c0, .string ⟨#[65, 110, 110]⟩]] w fun e w' => (∃ A c, e = .returned (.tuple #[.agg #[.int .u8 48, .slice none 0 0, .slice A 2 c], .bool true])) ∧ Below w.heap.size w w' := by
  have hu := Tryd.underlying31
  have hu2 := Tryd.underlying42
  have HR := Aside0.mk hr0
  clear hr0
  have e2 : ((w.alloc (.cells #[.slice A0 4 c0, .string ⟨#[65, 110, 110]⟩] 42)).alloc (.cells #[.int .u8 0, .slice none 0 0, .slice none 0 0] 31)).heap.size = w.heap.size + 1 + 1 := by simp
  go_enter Tryd.func28, Tryd.ntmps28
  go_wp2_with fail
  refine (seq2 (.iface 55 (.slice A0 4 c0)) (.iface 56 (.string ⟨#[65, 110, 110]⟩)) (w.heap.size + 1 + 1) _ ?p1 ?p2 ?p3 ?p4).mono ?_
  case p1 => exact (blk_cell (by rw [← e2]; exact blk_new _ _) 0).trans rfl
  case p2 => exact (blk_cell (by rw [← e2]; exact blk_new _ _) 1).trans rfl
  case p3 =>
    intro W hb
    refine (nodeO A0 c0 W hc (Kd.C_below (Kd.C_alloc (Kd.C_alloc (Kd.C_alloc HR.out _) _) _) hb)).mono ?_
    rintro e w' ⟨⟨A, n, c, rfl⟩, hb'⟩
    exact ⟨⟨_, _, _, _, _, _, _, rfl⟩, hb'⟩
  case p4 =>
    intro W hb
    refine (nodeT W).mono ?_
    rintro e w' ⟨⟨A, n, c, rfl⟩, hb'⟩
    exact ⟨⟨_, _, _, _, _, _, _, rfl⟩, hb'⟩
  rintro e w2 ⟨⟨A, c, rfl⟩, hb2⟩
  have HB2 := Aside0.mk (below_then (below_alloc (below_alloc (below_alloc (Below.refl w.heap.size w) (.cells #[.slice A0 4 c0, .string ⟨#[65, 110, 110]⟩] 42)) (.cells #[.int .u8 0, .slice none 0 0, .slice none 0 0] 31)) (.cells #[.iface 55 (.slice A0 4 c0), .iface 56 (.string ⟨#[65, 110, 110]⟩)] 20)) (by simp; omega) hb2)
  have BK1 := Aside0.mk (blk_below (blk_alloc (blk_alloc (blk_new w (.cells #[.slice A0 4 c0, .string ⟨#[65, 110, 110]⟩] 42)) (.cells #[.int .u8 0, .slice none 0 0, .slice none 0 0] 31)) (.cells #[.iface 55 (.slice A0 4 c0), .iface 56 (.string ⟨#[65, 110, 110]⟩)] 20)) hb2)
  have e1 : (w.alloc (.cells #[.slice A0 4 c0, .string ⟨#[65, 110, 110]⟩] 42)).heap.size = w.heap.size + 1 := by simp
  have bk2 := blk_below (blk_alloc (blk_new (w.alloc (.cells #[.slice A0 4 c0, .string ⟨#[65, 110, 110]⟩] 42)) (.cells #[.int .u8 0, .slice none 0 0, .slice none 0 0] 31)) (.cells #[.iface 55 (.slice A0 4 c0), .iface 56 (.string ⟨#[65, 110, 110]⟩)] 20)) hb2
  rw [e1] at bk2
  have BK2 := Aside0.mk bk2
  have hlt : w.heap.size + 1 < w2.heap.size := blk_lt bk2
  have c0_ : w2.cell? ⟨w.heap.size, 0, none⟩ = some (.slice A0 4 c0) := (blk_cell BK1.out 0).trans rfl
  have c1_ : w2.cell? ⟨w.heap.size, 1, none⟩ = some (.string ⟨#[65, 110, 110]⟩) := (blk_cell BK1.out 1).trans rfl
  have d0 : w2.cell? ⟨w.heap.size + 1, 0, none⟩ = some (.int .u8 0) := (blk_cell bk2 0).trans rfl
  have d1 : w2.cell? ⟨w.heap.size + 1, 1, none⟩ = some (.slice none 0 0) := (blk_cell bk2 1).trans rfl
  have d2 : w2.cell? ⟨w.heap.size + 1, 2, none⟩ = some (.slice none 0 0) := (blk_cell bk2 2).trans rfl
  have f0 := blk_frozen bk2 0
  have f1 := blk_frozen bk2 1
  have f2 := blk_frozen bk2 2
  have hn0 : w.heap.size ≠ w2.heap.size := by omega
  have hn0' : w2.heap.size ≠ w.heap.size := by omega
  have hlt0 : w.heap.size < w2.heap.size := by omega
  have hne : w.heap.size + 1 ≠ w2.heap.size := by omega
  have hne' : w2.heap.size ≠ w.heap.size + 1 := by omega
  clear bk2 hb2
  go_wp2_with fail
  go_region
  go_wp2
  have hf := putN (show w.heap.size ≤ w.heap.size + 1 by omega) BK2.out HB2.out (.int .u8 48) (.slice none 0 0) (.slice A 2 c)
  refine bodyPost_ret (results_ct rfl _ _ (w.heap.size + 1) 31 _ (0, 0) _ rfl (blk_drew (blk_alloc hf.1 _)) Tryd.underlying31 rfl (by kernel_rfl)) rfl ?_
  exact ⟨⟨_, _, rfl⟩, below_drew (below_alloc hf.2 _)⟩
set_option maxHeartbeats 4000000 in
set_option maxRecDepth 100000 in
theorem put0 (t : Int) (A B : Option Addr) (n c m d : Nat) (w : World) (ok : Bool) :
    Calls Tryd.prog 30 #[.agg #[.int .u8 t, .slice A n c, .slice B m d], .bool ok] w fun e w' => e = .returned (.tuple #[if ok then .agg #[.int .u8 t, .slice A n c, .slice B m d] else .agg #[.int .u8 0, .slice none 0 0, .slice none 0 0], .int .i64 (if ok then 0 else 91)]) ∧ Below w.heap.size w w' := by
  have hu := Tryd.underlying31
  cases ok
  · go_enter Tryd.func30, Tryd.ntmps30
    go_wp2
    have e1 : (w.alloc (.cells #[.int .u8 t, .slice A n c, .slice B m d] 31)).heap.size = w.heap.size + 1 := by simp
    refine bodyPost_ret (results_ct rfl _ _ (w.heap.size + 1) 31 _ (0, 0) _ rfl (by rw [← e1]; exact blk_new _ _) Tryd.underlying31 rfl (by kernel_rfl)) rfl ?_
    exact ⟨rfl, below_alloc (below_alloc (Below.refl _ _) _) _⟩
  · go_enter Tryd.func30, Tryd.ntmps30
    go_wp2
    have e1 : (w.alloc (.cells #[.int .u8 t, .slice A n c, .slice B m d] 31)).heap.size = w.heap.size + 1 := by simp
    refine bodyPost_ret (results_ct rfl _ _ (w.heap.size + 1) 31 _ (0, 0) _ rfl (by rw [← e1]; exact blk_new _ _) Tryd.underlying31 rfl (by kernel_rfl)) rfl ?_
    exact ⟨rfl, below_alloc (below_alloc (Below.refl _ _) _) _⟩
set_option maxHeartbeats 4000000 in
set_option maxRecDepth 100000 in
theorem list1 (A0 : Option Addr) (c0 : Nat) (g : Nat) (w : World) (hc : 4 ≤ c0) (hr0 : Kd.C (Kd.int .i64) w A0 4 [2, 5, 4, 3]) (h0 : w.cell? ⟨g, 0, none⟩ = some (.slice A0 4 c0)) (h1 : w.cell? ⟨g, 1, none⟩ = some (.string ⟨#[65, 110, 110]⟩)) :
    Calls Tryd.prog 27 #[.int .u8 48, .slice (some ⟨g, 0, none⟩) 1 1, .func (.func 28) #[] #[]] w fun e w' => (∃ A c, e = .returned (.tuple #[.agg #[.int .u8 48, .slice none 0 0, .slice A 1 c], .bool true])) ∧ Below w.heap.size w w' := by
  have hu := Tryd.underlying31
  have hu2 := Tryd.underlying42
  have HC0 := Aside0.mk hr0
  have H0 := Aside0.mk h0
  have H1 := Aside0.mk h1
  clear hr0 h0 h1
  go_enter Tryd.func27, Tryd.ntmps27
  go_wp2_with fail
  go_loopg [17] 1 (fun gg v17 wr => ∃ (kk : Nat) (xs : List (List Value)) (kv : Value), kk ≤ 1 ∧ 1 - kk ≤ gg ∧ v17 = .int .i64 kk ∧ xs.length = kk ∧ Aside0 ((raw 3).R 31 wr w.heap.size (fun k => w.heap.size + 1 < k) kv xs) ∧ Aside0 (Below w.heap.size w wr) ∧ Aside0 (wr.heap[w.heap.size]? = some (.cells #[.int .u8 0, .slice none 0 0, .slice none 0 0] 31 (0, 0))) ∧ Aside0 (wr.heap[w.heap.size + 1]? = some (.cells #[.int .u8 48, .slice none 0 0, kv] 31 (0, 0))))
  case atStart =>
    have e : (w.alloc (.cells #[.int .u8 0, .slice none 0 0, .slice none 0 0] 31)).heap.size = w.heap.size + 1 := by simp
    exact ⟨0, [], .slice none 0 0, by omega, by omega, rfl, rfl, ⟨Kd.R_nil _ _ _ _ _⟩, ⟨below_alloc (below_alloc (Below.refl _ _) _) _⟩, ⟨blk_alloc (blk_new _ _) _⟩, ⟨by rw [← e]; exact blk_new _ _⟩⟩
  case round =>
    obtain ⟨kk, xs, kv, hkk, hg, rfl, hxs, HR, HB, HB4, HB6⟩ := hrel
    have hk3 : kk = 0 ∨ kk = 1 := by omega
    rcases hk3 with rfl | rfl
    · obtain ⟨Ak, ck, ek⟩ := Kd.R_slice HR.out
      rw [hxs] at ek
      subst ek
      have q0 := (HB.out.cell (World.block_lt_of_cell? w _ H0.out)).trans H0.out
      have q1 := (HB.out.cell (World.block_lt_of_cell? w _ H1.out)).trans H1.out
      have hgz : g < wr.heap.size := World.block_lt_of_cell? wr _ q0
      have hgn : g ≠ wr.heap.size := by omega
      go_wp2_with fail
      have HW := Aside0.mk (below_alloc HB.out (.cells #[.slice A0 4 c0, .string ⟨#[65, 110, 110]⟩] 42))
      refine (put1 A0 c0 _ hc (Kd.C_below HC0.out HW.out)).mono ?_
      rintro e w4 ⟨⟨B, d, rfl⟩, hb4⟩
      have hb4 := hb4
      have n4 := HB.out.size
      have BK4 := Aside0.mk (blk_alloc (blk_below (blk_alloc HB4.out (.cells #[.slice A0 4 c0, .string ⟨#[65, 110, 110]⟩] 42)) hb4) (.cells #[.int .u8 48, .slice none 0 0, .slice B 2 d] 31))
      have bk6 := blk_below (blk_alloc HB6.out (.cells #[.slice A0 4 c0, .string ⟨#[65, 110, 110]⟩] 42)) hb4
      have c2 : w4.cell? ⟨w.heap.size + 1, 2, none⟩ = some (.slice Ak 0 ck) := (blk_cell bk6 2).trans rfl
      have f2 := blk_frozen bk6 2
      have BK6 := Aside0.mk (blk_alloc bk6 (.cells #[.int .u8 48, .slice none 0 0, .slice B 2 d] 31))
      have HR4 := Aside0.mk (Kd.R_alloc (Kd.R_below (Kd.R_alloc HR.out (.cells #[.slice A0 4 c0, .string ⟨#[65, 110, 110]⟩] 42)) hb4) (.cells #[.int .u8 48, .slice none 0 0, .slice B 2 d] 31))
      have HB4' := Aside0.mk (below_alloc (below_then HW.out HW.out.size hb4) (.cells #[.int .u8 48, .slice none 0 0, .slice B 2 d] 31))
      have hlt : w.heap.size + 1 < w4.heap.size := blk_lt bk6
      have hne : w.heap.size + 1 ≠ w4.heap.size := by omega
      have hne' : w4.heap.size ≠ w.heap.size + 1 := by omega
      clear bk6 hb4 HB4 HB6 HR HB HW
      have e5 : (w4.alloc (.cells #[.int .u8 48, .slice none 0 0, .slice B 2 d] 31)).heap.size = w4.heap.size + 1 := by simp
      go_wp2_with (at_builtin; refine Kd.R_append (raw 3) (w0 := w) w.heap.size rfl (.tmp 31) (.tmp 33) 29 31 (.agg #[.int .u8 0, .slice none 0 0, .slice none 0 0]) 56 rfl Tryd.underlying29 info31 rfl (show 0 < 3 by decide) (by decide) (.slice Ak 0 ck) xs [.int .u8 48, .slice none 0 0, .slice B 2 d] [.int .u8 48, .slice none 0 0, .slice B 2 d] (fun k => w.heap.size + 1 < k) (fun _ => False) rfl (by rw [e5]; rfl) ?aP (fun _ hk => hk.elim) ?aF ?aO ?aB ?aS ?aL ?_)
      case aP => exact ⟨rfl, rfl, by simp [Value.oneCell']⟩
      case aF => exact fun k hk => by simp at hk; omega
      case aO => exact HR4.out
      case aB => exact HB4'.out
      case aS => exact HB4'.out.size
      case aL => omega
      intro v7 w5 hR7 hB7 hg7 _
      have n4 : some w.heap.size ≠ (Value.slice Ak 0 ck).ownBlock := fun h => by have := HR4.out.1 _ h.symm; omega
      have n6 : some (w.heap.size + 1) ≠ (Value.slice Ak 0 ck).ownBlock := fun h => by have := HR4.out.1 _ h.symm; omega
      have bk4 := blk_grown BK4.out hg7 n4
      have bk6 := blk_grown BK6.out hg7 n6
      obtain ⟨A7, c7, rfl⟩ := Kd.R_slice hR7
      have c2 : w5.cell? ⟨w.heap.size + 1, 2, none⟩ = some (.slice Ak 0 ck) := (blk_cell bk6 2).trans rfl
      have f2 := blk_frozen bk6 2
      have hlen : (xs ++ [[Value.int .u8 48, .slice none 0 0, .slice B 2 d]]).length = 0 + 1 := by simp [hxs]
      rw [hlen] at hR7 ⊢
      have BK4' := Aside0.mk (blk_far bk4 (p := ⟨w.heap.size + 1, 2, none⟩) (by simp) (.slice A7 (0 + 1) c7))
      have BK6' := Aside0.mk (blk_put bk6 2 (.slice A7 (0 + 1) c7) rfl)
      have HR5 := Aside0.mk (Kd.R_far (p := ⟨w.heap.size + 1, 2, none⟩) hR7 (fun q hq he => by have he2 : q = w.heap.size + 1 := he; omega) (.slice A7 (0 + 1) c7))
      have HB5 := Aside0.mk (hB7.setCell (p := ⟨w.heap.size + 1, 2, none⟩) (by simp) (.slice A7 (0 + 1) c7))
      clear bk4 bk6 hg7 hB7 hR7 n4 n6 BK4 BK6 HR4 HB4'
      go_wp2_with fail
      go_roundg 0
      case measure => omega
      case rel => exact ⟨0 + 1, _, _, by omega, by omega, rfl, hlen, HR5, HB5, BK4', BK6'⟩
    · obtain ⟨Ak, ck, ek⟩ := Kd.R_slice HR.out
      rw [hxs] at ek
      subst ek
      have c0 : wr.cell? ⟨w.heap.size, 0, none⟩ = some (.int .u8 0) := (blk_cell HB4.out 0).trans rfl
      have c1 : wr.cell? ⟨w.heap.size, 1, none⟩ = some (.slice none 0 0) := (blk_cell HB4.out 1).trans rfl
      have c2 : wr.cell? ⟨w.heap.size, 2, none⟩ = some (.slice none 0 0) := (blk_cell HB4.out 2).trans rfl
      have f0 := blk_frozen HB4.out 0
      have f1 := blk_frozen HB4.out 1
      have f2 := blk_frozen HB4.out 2
      have d0 : wr.cell? ⟨w.heap.size + 1, 0, none⟩ = some (.int .u8 48) := (blk_cell HB6.out 0).trans rfl
      have d1 : wr.cell? ⟨w.heap.size + 1, 1, none⟩ = some (.slice none 0 0) := (blk_cell HB6.out 1).trans rfl
      have d2 : wr.cell? ⟨w.heap.size + 1, 2, none⟩ = some (.slice Ak 1 ck) := (blk_cell HB6.out 2).trans rfl
      go_wp2
      have hf := putN (Nat.le_refl _) HB4.out HB.out (.int .u8 48) (.slice none 0 0) (.slice Ak 1 ck)
      refine bodyPost_ret (results_ct rfl _ _ w.heap.size 31 _ (0, 0) _ rfl hf.1 Tryd.underlying31 rfl (by kernel_rfl)) rfl ?_
      exact ⟨⟨_, _, rfl⟩, hf.2⟩
end H9
end Go.Proofs.YtpbbcjkbeodeiaaDoor
