-- printed by wip/xprint.py (a scratch copy of the kit's print, with contracts by hand)
import Derived.Test.YtalcfnhcenpniaaXT0
import Derived.Test.YtalcfnhcenpniaaXT1
import Derived.Test.YtalcfnhcenpniaaXT2
namespace Go.Proofs.Ytalcfnhcenpniaa.XT
open Go.RowKit Go.Proofs.YtalcfnhcenpniaaW.PrintWords Go.Proofs.YtalcfnhcenpniaaW.PrintLast Go.Proofs.YtalcfnhcenpniaaW.PrintMore
attribute [local go_sem] max2_int min2_int max_two min_two max_three min_three max_four min_four   -- for this text's walks alone
set_option linter.unusedVariables false
set_option linter.unusedSimpArgs false

/-! ### princs_use: function 42 (by hand) -/
def useOid (last : Int) : List Int := [1, 3, 6, 1, 5, 2, 3, last]
def hasUse (eku : List (List Int)) (last : Int) : Bool := eku.any fun o => decide (o = useOid last)
set_option maxHeartbeats 4000000 in
set_option maxRecDepth 100000 in
theorem princs_use.closure (B : Nat) (last : Int) (x : List Int) (A : Option Addr) (c : Nat) (W : World)
  (hb : W.heap[B]? = some (.cells #[.int .i64 last] 3 (0, 0))) (h2 : Kd.C (Kd.int .i64) W A x.length x) (hc2 : x.length ≤ c) :
  Calls Try.prog 64 (#[.slice A x.length c] ++ #[.pointer (some ⟨B, 0, none⟩)]) W fun e w' => e = .returned (.bool (decide (x = useOid last))) ∧ Below W.heap.size W w' := by
 show Calls Try.prog 64 #[.slice A x.length c, .pointer (some ⟨B, 0, none⟩)] W _
 have k1 : W.cell? ⟨B, 0, none⟩ = some (.int .i64 last) := (blk_cell hb 0).trans rfl
 have HC := Aside0.mk (fun w' (hb' : Below W.heap.size W w') A1 (h3 : Kd.C (Kd.int .i64) w' A1 8 (useOid last)) => slices_Equal_int_int.calls _ A c x A1 8 (useOid last) _ w' (Kd.C_below h2 hb') hc2 h3 (Nat.le_refl _) (slices_Equal_int_int.tells x (useOid last) h2.2.1))
 clear h2 hc2 hb
 go_enter Try.func64, Try.ntmps64
 go_wp2_with fail
 refine (HC.out _ (below_alloc (Below.refl _ _) _) _ (lit_read W (useOid last) 3 rfl (by simp [useOid]))).mono ?_
 rintro e w1 ⟨rfl, hd⟩
 have hb := Aside0.mk (below_then (below_alloc (Below.refl W.heap.size W) _) (by simp) hd.below)
 clear hd
 go_wp2
 go_ret
 exact ⟨rfl, hb.out⟩
set_option maxHeartbeats 4000000 in
set_option maxRecDepth 100000 in
theorem IndexFunc_L8 (p : List Int → Bool) (g : Nat) (lb : Array Value) (eg : ∀ args w, (callFunc g args).run Try.prog w = .ok (.enter g args) w) (A0_ : Option Addr) (c0_ : Nat) (l0 : List (List Int)) (w : World) (hr0 : Kd.C (Kd.slice 3 (Kd.int .i64)) w A0_ l0.length l0) (hp : ∀ (x : List Int) (A0 : Option Addr) (c0 : Nat) (W : World), x ∈ l0 → Below w.heap.size w W → Kd.C (Kd.int .i64) W A0 x.length x → x.length ≤ c0 → Calls Try.prog g (#[(.slice A0 x.length c0)] ++ lb) W fun e w' => e = .returned (.bool (p x)) ∧ Below W.heap.size W w') :
  Calls Try.prog 74 #[.slice A0_ l0.length c0_, .func (.func g) #[] lb] w fun e w' => e = .returned (.int .i64 (idxp p l0)) ∧ Below w.heap.size w w' := by
 have hn : l0.length ≤ 9223372036854775807 := hr0.2.1
 have HR := Aside0.mk hr0
 have HP := Aside0.mk hp
 clear hr0 hp
 go_enter Try.func74, Try.ntmps74
 go_wp2
 go_loopg [5, 8] l0.length (fun gg _ s8 wr => ∃ kk : Nat, kk ≤ l0.length ∧ l0.length - kk ≤ gg ∧ s8 = .int .i64 kk ∧ Aside0 (Below w.heap.size w wr) ∧ Aside0 (∀ j (hj : j < l0.length), j < kk → p l0[j] = false))
 case atStart => exact ⟨0, Nat.zero_le _, by omega, rfl, ⟨Below.refl _ w⟩, ⟨fun j _ hj => absurd hj (Nat.not_lt_zero _)⟩⟩
 case round =>
  obtain ⟨kk, hkk, hg, rfl, HB, HA⟩ := hrel
  by_cases hlt : kk < l0.length
  ·have hltz : (kk : Int) < (l0.length : Int) := by omega
   obtain ⟨ad, A0, c0,  e0, hx0, hl0, hi0⟩ := at_L8 HR.out (kk : Int) (by omega) (by omega)
   cases e0
   replace hx0 := (HB.out.cell (World.block_lt_of_cell? w _ hx0)).trans hx0
   have hmem : (rd_L8 l0 (kk : Int)) ∈ l0 := by unfold rd_L8; rw [Int.toNat_natCast, getD_eq _ _ _ hlt]; exact List.getElem_mem _
   have hcall := HP.out (rd_L8 l0 (kk : Int)) A0 c0 wr hmem HB.out (Kd.C_below hi0 HB.out) hl0
   have he : (rd_L8 l0 (kk : Int)) = l0[kk] := by unfold rd_L8; rw [Int.toNat_natCast]; exact getD_eq _ _ _ hlt
   have HE := Aside0.mk he
   clear he hmem
   clear hi0 hl0
   generalize (rd_L8 l0 (kk : Int)) = y at *
   have HC := Aside0.mk hcall
   clear hcall
   simp only [Int.toNat_natCast] at hx0
   cases hq : p y with
   | true =>
    have HQ := Aside0.mk hq
    have hcall := HC.out
    rw [hq] at hcall
    clear hq HC
    have HC := Aside0.mk hcall
    clear hcall
    go_wp2_with fail
    refine HC.out.mono ?_
    rintro e w' ⟨rfl, hb'⟩
    have hb2 := Aside0.mk (below_then HB.out HB.out.size hb')
    clear hb'
    go_wp2_with fail
    go_ret
    exact ⟨congrArg (fun z => Ending.returned (.int .i64 z)) (idxp_hit p l0 kk hlt HA.out (by rw [← HE.out]; exact HQ.out)).symm, hb2.out⟩
   | false =>
    have HQ := Aside0.mk hq
    have hcall := HC.out
    rw [hq] at hcall
    clear hq HC
    have HC := Aside0.mk hcall
    clear hcall
    go_wp2_with fail
    refine HC.out.mono ?_
    rintro e w' ⟨rfl, hb'⟩
    have hb2 := Aside0.mk (below_then HB.out HB.out.size hb')
    clear hb'
    go_wp2_with fail
    go_roundg (l0.length - (kk + 1))
    case measure => omega
    case rel =>
     refine ⟨kk + 1, by omega, by omega, by go_num, hb2, ⟨fun j hj hjk => ?_⟩⟩
     by_cases e : j = kk
     ·subst e
      rw [← HE.out]; exact HQ.out
     ·exact HA.out j hj (by omega)
  ·have hltz : ¬ (kk : Int) < (l0.length : Int) := by omega
   have : kk = l0.length := by omega
   subst this
   go_wp2
   go_ret
   exact ⟨congrArg (fun z => Ending.returned (.int .i64 z)) (idxp_miss p l0 (fun j hj => HA.out j hj hj)).symm, HB.out⟩

set_option maxHeartbeats 4000000 in
set_option maxRecDepth 100000 in
theorem First_L8 (p : (List Int) → Bool) (g : Nat) (lb : Array Value) (eg : ∀ args w, (callFunc g args).run Try.prog w = .ok (.enter g args) w) (A0_ : Option Addr) (c0_ : Nat) (l0 : List (List Int)) (w : World) (hr0 : Kd.C (Kd.slice 3 (Kd.int .i64)) w A0_ l0.length l0) (hp : ∀ (x : List Int) (A0 : Option Addr) (c0 : Nat) (W : World), x ∈ l0 → Below w.heap.size w W → Kd.C (Kd.int .i64) W A0 x.length x → x.length ≤ c0 → Calls Try.prog g (#[(.slice A0 x.length c0)] ++ lb) W fun e w' => e = .returned (.bool (p x)) ∧ Below W.heap.size W w') :
  Calls Try.prog 63 #[.slice A0_ l0.length c0_, .func (.func g) #[] lb] w fun e w' => (∃ a n c, e = .returned (.tuple #[.slice a n c, .bool (l0.any p)])) ∧ Below w.heap.size w w' := by
 have HC := Aside0.mk (IndexFunc_L8 p g lb eg A0_ c0_ l0 w hr0 hp)
 have HR := Aside0.mk hr0
 have HE := Aside0.mk (idxp_any p l0)
 have hg0 := idxp_range p l0
 clear hr0 hp eg
 go_enter Try.func63, Try.ntmps63
 go_wp2_with fail
 refine HC.out.mono ?_
 rintro e w1 ⟨rfl, hb1⟩
 have HB := Aside0.mk hb1
 clear hb1
 by_cases h : 0 ≤ idxp p l0
 ·obtain ⟨ad, A0, c0, e0, hx0, hl0, hi0⟩ := at_L8 HR.out (idxp p l0) h hg0.2
  cases e0
  replace hx0 := (HB.out.cell (World.block_lt_of_cell? w _ hx0)).trans hx0
  have HA := Aside0.mk (show l0.any p = true by rw [← HE.out]; exact decide_eq_true h)
  clear hi0 hl0 HE
  obtain ⟨h00, h01⟩ := hg0
  go_wp2
  go_ret2
  exact ⟨⟨_, _, _, by rw [HA.out]; rfl⟩, HB.out⟩
 ·have HA := Aside0.mk (show l0.any p = false by rw [← HE.out]; exact decide_eq_false h)
  clear HE
  go_wp2
  go_ret2
  exact ⟨⟨_, _, _, by rw [HA.out]; rfl⟩, HB.out⟩

def princs_use.f (a0_0 : Int) (l0_1 : List (S35)) (a0_2 : Int) (a0_3 : Int) (l0_4 : List (S35)) (a0_5 : Int) (a0_6 : Bool) (a0_7 : Bool) (a0_8 : Int) (a0_9 : Int) (l0_10 : List (List Int)) (l0_11 : List (S43)) (l0_12 : List (List (S35))) (l0_13 : List (List (S35))) (l0_14 : List (S134)) (a0_15 : Int) (a1 : Int) : Option ((Bool)) := some (hasUse l0_10 a1)
set_option maxHeartbeats 4000000 in
set_option maxRecDepth 100000 in
theorem princs_use.calls (a0_0 : Int) (A0_1 : Option Addr) (c0_1 : Nat) (l0_1 : List (S35)) (a0_2 : Int) (a0_3 : Int) (A0_4 : Option Addr) (c0_4 : Nat) (l0_4 : List (S35)) (a0_5 : Int) (a0_6 : Bool) (a0_7 : Bool) (a0_8 : Int) (a0_9 : Int) (A0_10 : Option Addr) (c0_10 : Nat) (l0_10 : List (List Int)) (A0_11 : Option Addr) (c0_11 : Nat) (l0_11 : List (S43)) (A0_12 : Option Addr) (c0_12 : Nat) (l0_12 : List (List (S35))) (A0_13 : Option Addr) (c0_13 : Nat) (l0_13 : List (List (S35))) (A0_14 : Option Addr) (c0_14 : Nat) (l0_14 : List (S134)) (a0_15 : Int) (a1 : Int) (r : Bool) (w : World) (hr0_1 : Kd.C k35 w A0_1 l0_1.length l0_1) (hc0_1 : l0_1.length ≤ c0_1) (hr0_4 : Kd.C k35 w A0_4 l0_4.length l0_4) (hc0_4 : l0_4.length ≤ c0_4) (hr0_10 : Kd.C (Kd.slice 3 (Kd.int .i64)) w A0_10 l0_10.length l0_10) (hc0_10 : l0_10.length ≤ c0_10) (hr0_11 : Kd.C k43 w A0_11 l0_11.length l0_11) (hc0_11 : l0_11.length ≤ c0_11) (hr0_12 : Kd.C (Kd.slice 35 k35) w A0_12 l0_12.length l0_12) (hc0_12 : l0_12.length ≤ c0_12) (hr0_13 : Kd.C (Kd.slice 35 k35) w A0_13 l0_13.length l0_13) (hc0_13 : l0_13.length ≤ c0_13) (hr0_14 : Kd.C k134 w A0_14 l0_14.length l0_14) (hc0_14 : l0_14.length ≤ c0_14) (h : princs_use.f a0_0 l0_1 a0_2 a0_3 l0_4 a0_5 a0_6 a0_7 a0_8 a0_9 l0_10 l0_11 l0_12 l0_13 l0_14 a0_15 a1 = some r) :
  Calls Try.prog 42 #[.agg #[.int .i64 a0_0, .slice A0_1 l0_1.length c0_1, .int .i64 a0_2, .int .i64 a0_3, .slice A0_4 l0_4.length c0_4, .int .i64 a0_5, .bool a0_6, .bool a0_7, .int .i64 a0_8, .int .u16 a0_9, .slice A0_10 l0_10.length c0_10, .slice A0_11 l0_11.length c0_11, .slice A0_12 l0_12.length c0_12, .slice A0_13 l0_13.length c0_13, .slice A0_14 l0_14.length c0_14, .int .i64 a0_15], .int .i64 a1] w fun e w' => e = .returned (.bool r) ∧ Below w.heap.size w w' := by
 have hu := Try.underlying57
 have hu2 := Try.underlying55
 have eg : ∀ args w, (callFunc 64 args).run Try.prog w = .ok (.enter 64 args) w := enters Try.func64 (by kernel_rfl) rfl
 have HEG := Aside0.mk eg
 have HR := Aside0.mk hr0_10
 have H := Aside0.mk (show hasUse l0_10 a1 = r from Option.some.inj h)
 clear hr0_1 hr0_4 hr0_10 hr0_11 hr0_12 hr0_13 hr0_14 hc0_1 hc0_4 hc0_10 hc0_11 hc0_12 hc0_13 hc0_14 h eg
 go_enter Try.func42, Try.ntmps42
 go_wp2_with fail
 obtain ⟨W1, hW1⟩ : ∃ W : World, W = w.alloc (.cells #[.int .i64 a0_0, .slice A0_1 l0_1.length c0_1, .int .i64 a0_2, .int .i64 a0_3, .slice A0_4 l0_4.length c0_4, .int .i64 a0_5, .bool a0_6, .bool a0_7, .int .i64 a0_8, .int .u16 a0_9, .slice A0_10 l0_10.length c0_10, .slice A0_11 l0_11.length c0_11, .slice A0_12 l0_12.length c0_12, .slice A0_13 l0_13.length c0_13, .slice A0_14 l0_14.length c0_14, .int .i64 a0_15] 57) := ⟨_, rfl⟩
 rw [← hW1]
 have hz : W1.heap.size = w.heap.size + 1 := by rw [hW1]; simp
 have hW := Aside0.mk (show Below w.heap.size w W1 by rw [hW1]; exact below_alloc (Below.refl _ _) _)
 clear hW1
 have hbox : (W1.alloc (.cells #[.int .i64 a1] 3)).heap[w.heap.size + 1]? = some (.cells #[.int .i64 a1] 3 (0, 0)) := by rw [← hz]; exact heap_alloc_new W1 _
 refine (First_L8 (fun o => decide (o = useOid a1)) _ _ HEG.out A0_10 c0_10 l0_10 _ (Kd.C_alloc (Kd.C_below HR.out hW.out) _) (fun x A c W hm hb h1 h2 => princs_use.closure (w.heap.size + 1) a1 x A c W ((hb.block _ (by simp; omega)).trans hbox) h1 h2)).mono ?_
 rintro e w1 ⟨⟨a, n, c, rfl⟩, hb1⟩
 have HB := Aside0.mk (below_then (hW.out.alloc (by omega) (.cells #[.int .i64 a1] 3)) (by simp; omega) hb1)
 clear hb1 hbox hW hz
 go_wp2
 go_ret
 exact ⟨congrArg (fun b => Ending.returned (.bool b)) H.out, HB.out⟩

/-! ### princs_Kdc: function 25 (by hand) -/
set_option maxHeartbeats 4000000 in
set_option maxRecDepth 100000 in
theorem IndexFunc_T43 (p : S43 → Bool) (g : Nat) (lb : Array Value) (eg : ∀ args w, (callFunc g args).run Try.prog w = .ok (.enter g args) w) (A0_ : Option Addr) (c0_ : Nat) (l0 : List (S43)) (w : World) (hr0 : Kd.C k43 w A0_ l0.length l0) (hp : ∀ (x : S43) (A1 : Option Addr) (c1 : Nat) (W : World), x ∈ l0 → Below w.heap.size w W → Kd.C Kd.string W A1 x.f1.length x.f1 → x.f1.length ≤ c1 → Calls Try.prog g (#[(.agg #[.string x.f0, .slice A1 x.f1.length c1])] ++ lb) W fun e w' => e = .returned (.bool (p x)) ∧ Below W.heap.size W w') :
  Calls Try.prog 65 #[.slice A0_ l0.length c0_, .func (.func g) #[] lb] w fun e w' => e = .returned (.int .i64 (idxp p l0)) ∧ Below w.heap.size w w' := by
 have hn : l0.length ≤ 9223372036854775807 := hr0.2.1
 have HR := Aside0.mk hr0
 have HP := Aside0.mk hp
 clear hr0 hp
 go_enter Try.func65, Try.ntmps65
 go_wp2
 go_loopg [5, 8] l0.length (fun gg _ s8 wr => ∃ kk : Nat, kk ≤ l0.length ∧ l0.length - kk ≤ gg ∧ s8 = .int .i64 kk ∧ Aside0 (Below w.heap.size w wr) ∧ Aside0 (∀ j (hj : j < l0.length), j < kk → p l0[j] = false))
 case atStart => exact ⟨0, Nat.zero_le _, by omega, rfl, ⟨Below.refl _ w⟩, ⟨fun j _ hj => absurd hj (Nat.not_lt_zero _)⟩⟩
 case round =>
  obtain ⟨kk, hkk, hg, rfl, HB, HA⟩ := hrel
  by_cases hlt : kk < l0.length
  ·have hltz : (kk : Int) < (l0.length : Int) := by omega
   obtain ⟨ad, A1, c1,  e0, hx0, hx1, hl1, hi1⟩ := at_T43 HR.out (kk : Int) (by omega) (by omega)
   cases e0
   replace hx0 := (HB.out.cell (World.block_lt_of_cell? w _ hx0)).trans hx0
   replace hx1 := (HB.out.cell (World.block_lt_of_cell? w _ hx1)).trans hx1
   have hmem : (rd_T43 l0 (kk : Int)) ∈ l0 := by unfold rd_T43; rw [Int.toNat_natCast, getD_eq _ _ _ hlt]; exact List.getElem_mem _
   have hcall := HP.out (rd_T43 l0 (kk : Int)) A1 c1 wr hmem HB.out (Kd.C_below hi1 HB.out) hl1
   have he : (rd_T43 l0 (kk : Int)) = l0[kk] := by unfold rd_T43; rw [Int.toNat_natCast]; exact getD_eq _ _ _ hlt
   have HE := Aside0.mk he
   clear he hmem
   clear hi1 hl1
   generalize (rd_T43 l0 (kk : Int)) = y at *
   have HC := Aside0.mk hcall
   clear hcall
   simp only [Int.toNat_natCast] at hx0 hx1
   cases hq : p y with
   | true =>
    have HQ := Aside0.mk hq
    have hcall := HC.out
    rw [hq] at hcall
    clear hq HC
    have HC := Aside0.mk hcall
    clear hcall
    go_wp2_with fail
    refine HC.out.mono ?_
    rintro e w' ⟨rfl, hb'⟩
    have hb2 := Aside0.mk (below_then HB.out HB.out.size hb')
    clear hb'
    go_wp2_with fail
    go_ret
    exact ⟨congrArg (fun z => Ending.returned (.int .i64 z)) (idxp_hit p l0 kk hlt HA.out (by rw [← HE.out]; exact HQ.out)).symm, hb2.out⟩
   | false =>
    have HQ := Aside0.mk hq
    have hcall := HC.out
    rw [hq] at hcall
    clear hq HC
    have HC := Aside0.mk hcall
    clear hcall
    go_wp2_with fail
    refine HC.out.mono ?_
    rintro e w' ⟨rfl, hb'⟩
    have hb2 := Aside0.mk (below_then HB.out HB.out.size hb')
    clear hb'
    go_wp2_with fail
    go_roundg (l0.length - (kk + 1))
    case measure => omega
    case rel =>
     refine ⟨kk + 1, by omega, by omega, by go_num, hb2, ⟨fun j hj hjk => ?_⟩⟩
     by_cases e : j = kk
     ·subst e
      rw [← HE.out]; exact HQ.out
     ·exact HA.out j hj (by omega)
  ·have hltz : ¬ (kk : Int) < (l0.length : Int) := by omega
   have : kk = l0.length := by omega
   subst this
   go_wp2
   go_ret
   exact ⟨congrArg (fun z => Ending.returned (.int .i64 z)) (idxp_miss p l0 (fun j hj => HA.out j hj hj)).symm, HB.out⟩

def FirstPost_T43 (p : S43 → Bool) (l0 : List S43) (w : World) (e : Ending) (w' : World) : Prop :=
 Below w.heap.size w w' ∧ ((∃ (x : S43) (A1 : Option Addr) (c1 : Nat), l0.find? p = some x ∧ e = .returned (.tuple #[.agg #[.string x.f0, .slice A1 x.f1.length c1], .bool true]) ∧ Kd.C Kd.string w A1 x.f1.length x.f1 ∧ x.f1.length ≤ c1 ∧ x ∈ l0) ∨
  (l0.find? p = none ∧ e = .returned (.tuple #[.agg #[.string ⟨#[]⟩, .slice none 0 0], .bool false])))
set_option maxHeartbeats 4000000 in
set_option maxRecDepth 100000 in
theorem First_T43 (p : S43 → Bool) (g : Nat) (lb : Array Value) (eg : ∀ args w, (callFunc g args).run Try.prog w = .ok (.enter g args) w) (A0_ : Option Addr) (c0_ : Nat) (l0 : List S43) (w : World) (hr0 : Kd.C k43 w A0_ l0.length l0) (hp : ∀ (x : S43) (A1 : Option Addr) (c1 : Nat) (W : World), x ∈ l0 → Below w.heap.size w W → Kd.C Kd.string W A1 x.f1.length x.f1 → x.f1.length ≤ c1 → Calls Try.prog g (#[(.agg #[.string x.f0, .slice A1 x.f1.length c1])] ++ lb) W fun e w' => e = .returned (.bool (p x)) ∧ Below W.heap.size W w') :
  Calls Try.prog 43 #[.slice A0_ l0.length c0_, .func (.func g) #[] lb] w (FirstPost_T43 p l0 w) := by
 have hu := Try.underlying43
 have HR := Aside0.mk hr0
 have HP := Aside0.mk hp
 have hg0 := idxp_range p l0
 clear hr0 hp
 go_enter Try.func43, Try.ntmps43
 go_wp2_with fail
 refine (IndexFunc_T43 p g lb eg A0_ c0_ l0 _ (Kd.C_alloc HR.out _) (fun x A1 c1 W hm hb h1a h1b => HP.out x A1 c1 W hm (((Below.refl _ _).alloc (Nat.le_refl _) _).trans (hb.mono (by simp))) h1a h1b)).mono ?_
 rintro e w1 ⟨rfl, hb1⟩
 have hz : w.heap.size < w1.heap.size := by have := hb1.size; simp at this; omega
 have hne : w.heap.size ≠ w1.heap.size := by omega
 have q0 : w1.cell? ⟨w.heap.size, 0, none⟩ = some (.string ⟨#[]⟩) := (hb1.cell (p := ⟨w.heap.size, 0, none⟩) (by simp)).trans (by simp)
 have q1 : w1.cell? ⟨w.heap.size, 1, none⟩ = some (.slice none 0 0) := (hb1.cell (p := ⟨w.heap.size, 1, none⟩) (by simp)).trans (by simp)
 have z0 : w1.frozen? ⟨w.heap.size, 0, none⟩ = false := (hb1.frozen (p := ⟨w.heap.size, 0, none⟩) (by simp)).trans (by simp)
 have z1 : w1.frozen? ⟨w.heap.size, 1, none⟩ = false := (hb1.frozen (p := ⟨w.heap.size, 1, none⟩) (by simp)).trans (by simp)
 have HB := Aside0.mk (((Below.refl w.heap.size w).alloc (Nat.le_refl _) (.cells #[.string ⟨#[]⟩, .slice none 0 0] 43)).trans (hb1.mono (by simp)))
 clear hb1
 by_cases h : 0 ≤ idxp p l0
 ·obtain ⟨ad, A1, c1,  e0, hx0, hx1, hl1, hi1⟩ := at_T43 HR.out (idxp p l0) h hg0.2
  cases e0
  have HF := Aside0.mk (idxp_some p z43 l0 h)
  have HE := Aside0.mk (show (rd_T43 l0 (idxp p l0)) = l0.getD (idxp p l0).toNat z43 from rfl)
  have n0 := World.block_lt_of_cell? w _ hx0
  replace hx0 := (HB.out.cell (World.block_lt_of_cell? w _ hx0)).trans hx0
  replace hx1 := (HB.out.cell (World.block_lt_of_cell? w _ hx1)).trans hx1
  have HI1 := Aside0.mk hi1
  have HL1 := Aside0.mk hl1
  clear hi1 hl1
  obtain ⟨h00, h01⟩ := hg0
  have hst : ∀ x0 x1, Below w.heap.size w ((w1.setCell ⟨w.heap.size, 0, none⟩ x0).setCell ⟨w.heap.size, 1, none⟩ x1) := fun _ _ => ((HB.out.setCell (Nat.le_refl _) _).setCell (Nat.le_refl _) _)
  have HST := Aside0.mk hst
  clear hst
  go_wp2
  exact bodyPost_ret (v := .tuple #[.agg #[.string ((rd_T43 l0 (idxp p l0)).f0), .slice A1 (rd_T43 l0 (idxp p l0)).f1.length c1], .bool true]) (by simp [results, Try.results43, go_sem, q0, q1]) rfl ⟨HST.out _ _, .inl ⟨_, A1, c1, by rw [HE.out]; exact HF.out, rfl, HI1.out, HL1.out, by rw [HE.out]; exact List.mem_of_find?_eq_some HF.out⟩⟩
 ·have HF := Aside0.mk (idxp_none p l0 (by omega))
  have hst : ∀ x0 x1, Below w.heap.size w ((w1.setCell ⟨w.heap.size, 0, none⟩ x0).setCell ⟨w.heap.size, 1, none⟩ x1) := fun _ _ => ((HB.out.setCell (Nat.le_refl _) _).setCell (Nat.le_refl _) _)
  have HST := Aside0.mk hst
  clear hst
  go_wp2
  exact bodyPost_ret (v := .tuple #[.agg #[.string ⟨#[]⟩, .slice none 0 0], .bool false]) (by simp [results, Try.results43, go_sem, q0, q1, hz, hne]) rfl ⟨below_alloc (HST.out _ _) _, .inr ⟨HF.out, rfl⟩⟩

set_option maxHeartbeats 4000000 in
set_option maxRecDepth 100000 in
theorem princs_Kdc.closure (B : Nat) (a1_0 : ByteArray) (A1_1 : Option Addr) (c1_1 : Nat) (l1_1 : List ByteArray) (x : S43) (A : Option Addr) (c : Nat) (W : World)
  (hb : W.heap[B]? = some (.cells #[.string a1_0, .slice A1_1 l1_1.length c1_1] 43 (0, 0))) (h1 : Kd.C Kd.string W A1_1 l1_1.length l1_1) (hc1 : l1_1.length ≤ c1_1)
  (h2 : Kd.C Kd.string W A x.f1.length x.f1) (hc2 : x.f1.length ≤ c) :
  Calls Try.prog 47 (#[.agg #[.string x.f0, .slice A x.f1.length c]] ++ #[.pointer (some ⟨B, 0, none⟩)]) W fun e w' => e = .returned (.bool (alikeP x.f0 x.f1 a1_0 l1_1)) ∧ Below W.heap.size W w' := by
 show Calls Try.prog 47 #[.agg #[.string x.f0, .slice A x.f1.length c], .pointer (some ⟨B, 0, none⟩)] W _
 have hu2 := Try.underlying43
 have k1 : W.cell? ⟨B, 0, none⟩ = some (.string a1_0) := (blk_cell hb 0).trans rfl
 have k2 : W.cell? ⟨B, 1, none⟩ = some (.slice A1_1 l1_1.length c1_1) := (blk_cell hb 1).trans rfl
 have hBW : B < W.heap.size := (Array.getElem?_eq_some_iff.1 hb).1
 have hne : B ≠ W.heap.size := by omega
 have HS := Aside0.mk (princs_Same.tells x.f0 x.f1 a1_0 l1_1 h2.2.1)
 have h1' := Aside0.mk h1
 have h2' := Aside0.mk h2
 have hc1' := Aside0.mk hc1
 have hc2' := Aside0.mk hc2
 clear h1 h2 hc1 hc2 hb
 go_enter Try.func47, Try.ntmps47
 go_wp2_with (go_at_call 23; (refine (princs_Same.calls (x.f1.length + 1) x.f0 _ _ x.f1 a1_0 _ _ l1_1 _ _ ?s1 ?s2 ?s3 ?s4 HS.out).mono ?_); (case s1 => exact Kd.C_alloc h2'.out _); (case s2 => exact hc2'.out); (case s3 => exact Kd.C_alloc h1'.out _); (case s4 => exact hc1'.out); rintro e w1 ⟨rfl, hb1⟩)
 go_ret
 exact ⟨rfl, below_then ((Below.refl _ _).alloc (Nat.le_refl _) _) (by simp) hb1⟩
def hasKdc (ps : List S43) (eku : List (List Int)) (r : ByteArray) (n : List ByteArray) : Bool := ps.any (fun p => alikeP p.f0 p.f1 r n) && hasUse eku 5
theorem any_of_find {α : Type} {p : α → Bool} {l : List α} {x : α} (h : l.find? p = some x) : l.any p = true := List.any_eq_true.2 ⟨x, List.mem_of_find?_eq_some h, List.find?_some h⟩
theorem any_of_none {α : Type} {p : α → Bool} {l : List α} (h : l.find? p = none) : l.any p = false := by
 rw [Bool.eq_false_iff]
 intro h'
 obtain ⟨x, hx, hp⟩ := List.any_eq_true.1 h'
 exact (List.find?_eq_none.1 h x hx) hp
def princs_Kdc.f (a0_0 : Int) (l0_1 : List (S35)) (a0_2 : Int) (a0_3 : Int) (l0_4 : List (S35)) (a0_5 : Int) (a0_6 : Bool) (a0_7 : Bool) (a0_8 : Int) (a0_9 : Int) (l0_10 : List (List Int)) (l0_11 : List (S43)) (l0_12 : List (List (S35))) (l0_13 : List (List (S35))) (l0_14 : List (S134)) (a0_15 : Int) (a1_0 : ByteArray) (l1_1 : List ByteArray) : Option ((Bool)) := some (hasKdc l0_11 l0_10 a1_0 l1_1)
set_option maxHeartbeats 4000000 in
set_option maxRecDepth 100000 in
theorem princs_Kdc.calls (a0_0 : Int) (A0_1 : Option Addr) (c0_1 : Nat) (l0_1 : List (S35)) (a0_2 : Int) (a0_3 : Int) (A0_4 : Option Addr) (c0_4 : Nat) (l0_4 : List (S35)) (a0_5 : Int) (a0_6 : Bool) (a0_7 : Bool) (a0_8 : Int) (a0_9 : Int) (A0_10 : Option Addr) (c0_10 : Nat) (l0_10 : List (List Int)) (A0_11 : Option Addr) (c0_11 : Nat) (l0_11 : List (S43)) (A0_12 : Option Addr) (c0_12 : Nat) (l0_12 : List (List (S35))) (A0_13 : Option Addr) (c0_13 : Nat) (l0_13 : List (List (S35))) (A0_14 : Option Addr) (c0_14 : Nat) (l0_14 : List (S134)) (a0_15 : Int) (a1_0 : ByteArray) (A1_1 : Option Addr) (c1_1 : Nat) (l1_1 : List ByteArray) (r : Bool) (w : World) (hr0_1 : Kd.C k35 w A0_1 l0_1.length l0_1) (hc0_1 : l0_1.length ≤ c0_1) (hr0_4 : Kd.C k35 w A0_4 l0_4.length l0_4) (hc0_4 : l0_4.length ≤ c0_4) (hr0_10 : Kd.C (Kd.slice 3 (Kd.int .i64)) w A0_10 l0_10.length l0_10) (hc0_10 : l0_10.length ≤ c0_10) (hr0_11 : Kd.C k43 w A0_11 l0_11.length l0_11) (hc0_11 : l0_11.length ≤ c0_11) (hr0_12 : Kd.C (Kd.slice 35 k35) w A0_12 l0_12.length l0_12) (hc0_12 : l0_12.length ≤ c0_12) (hr0_13 : Kd.C (Kd.slice 35 k35) w A0_13 l0_13.length l0_13) (hc0_13 : l0_13.length ≤ c0_13) (hr0_14 : Kd.C k134 w A0_14 l0_14.length l0_14) (hc0_14 : l0_14.length ≤ c0_14) (hr1_1 : Kd.C Kd.string w A1_1 l1_1.length l1_1) (hc1_1 : l1_1.length ≤ c1_1) (h : princs_Kdc.f a0_0 l0_1 a0_2 a0_3 l0_4 a0_5 a0_6 a0_7 a0_8 a0_9 l0_10 l0_11 l0_12 l0_13 l0_14 a0_15 a1_0 l1_1 = some r) :
  Calls Try.prog 25 #[.agg #[.int .i64 a0_0, .slice A0_1 l0_1.length c0_1, .int .i64 a0_2, .int .i64 a0_3, .slice A0_4 l0_4.length c0_4, .int .i64 a0_5, .bool a0_6, .bool a0_7, .int .i64 a0_8, .int .u16 a0_9, .slice A0_10 l0_10.length c0_10, .slice A0_11 l0_11.length c0_11, .slice A0_12 l0_12.length c0_12, .slice A0_13 l0_13.length c0_13, .slice A0_14 l0_14.length c0_14, .int .i64 a0_15], .agg #[.string a1_0, .slice A1_1 l1_1.length c1_1]] w fun e w' => e = .returned (.bool r) ∧ Below w.heap.size w w' := by
 have hu := Try.underlying57
 have hu2 := Try.underlying55
 have hu3 := Try.underlying43
 have eg : ∀ args w, (callFunc 47 args).run Try.prog w = .ok (.enter 47 args) w := enters Try.func47 (by kernel_rfl) rfl
 have HEG := Aside0.mk eg
 have HR := Aside0.mk hr0_11
 have HRT := Aside0.mk hr1_1
 have HCT := Aside0.mk hc1_1
 have H := Aside0.mk (show hasKdc l0_11 l0_10 a1_0 l1_1 = r from Option.some.inj h)
 have HUSE := Aside0.mk (fun w' (hb' : Below w.heap.size w w') => princs_use.calls a0_0 A0_1 c0_1 l0_1 a0_2 a0_3 A0_4 c0_4 l0_4 a0_5 a0_6 a0_7 a0_8 a0_9 A0_10 c0_10 l0_10 A0_11 c0_11 l0_11 A0_12 c0_12 l0_12 A0_13 c0_13 l0_13 A0_14 c0_14 l0_14 a0_15 5 (hasUse l0_10 5) w' (Kd.C_below hr0_1 hb') hc0_1 (Kd.C_below hr0_4 hb') hc0_4 (Kd.C_below hr0_10 hb') hc0_10 (Kd.C_below hr0_11 hb') hc0_11 (Kd.C_below hr0_12 hb') hc0_12 (Kd.C_below hr0_13 hb') hc0_13 (Kd.C_below hr0_14 hb') hc0_14 rfl)
 clear hr0_1 hr0_4 hr0_10 hr0_11 hr0_12 hr0_13 hr0_14 hc0_1 hc0_4 hc0_10 hc0_11 hc0_12 hc0_13 hc0_14 hr1_1 hc1_1 h eg
 go_enter Try.func25, Try.ntmps25
 go_wp2_with fail
 obtain ⟨W1, hW1⟩ : ∃ W : World, W = w.alloc (.cells #[.int .i64 a0_0, .slice A0_1 l0_1.length c0_1, .int .i64 a0_2, .int .i64 a0_3, .slice A0_4 l0_4.length c0_4, .int .i64 a0_5, .bool a0_6, .bool a0_7, .int .i64 a0_8, .int .u16 a0_9, .slice A0_10 l0_10.length c0_10, .slice A0_11 l0_11.length c0_11, .slice A0_12 l0_12.length c0_12, .slice A0_13 l0_13.length c0_13, .slice A0_14 l0_14.length c0_14, .int .i64 a0_15] 57) := ⟨_, rfl⟩
 rw [← hW1]
 have hz : W1.heap.size = w.heap.size + 1 := by rw [hW1]; simp
 have hW := Aside0.mk (show Below w.heap.size w W1 by rw [hW1]; exact below_alloc (Below.refl _ _) _)
 have hb0 : W1.heap[w.heap.size]? = some (.cells #[.int .i64 a0_0, .slice A0_1 l0_1.length c0_1, .int .i64 a0_2, .int .i64 a0_3, .slice A0_4 l0_4.length c0_4, .int .i64 a0_5, .bool a0_6, .bool a0_7, .int .i64 a0_8, .int .u16 a0_9, .slice A0_10 l0_10.length c0_10, .slice A0_11 l0_11.length c0_11, .slice A0_12 l0_12.length c0_12, .slice A0_13 l0_13.length c0_13, .slice A0_14 l0_14.length c0_14, .int .i64 a0_15] 57 (0, 0)) := by rw [hW1]; exact heap_alloc_new w _
 clear hW1
 have hbox : (W1.alloc (.cells #[.string a1_0, .slice A1_1 l1_1.length c1_1] 43)).heap[w.heap.size + 1]? = some (.cells #[.string a1_0, .slice A1_1 l1_1.length c1_1] 43 (0, 0)) := by rw [← hz]; exact heap_alloc_new W1 _
 refine (First_T43 (fun p => alikeP p.f0 p.f1 a1_0 l1_1) _ _ HEG.out A0_11 c0_11 l0_11 _ (Kd.C_alloc (Kd.C_below HR.out hW.out) _) (fun x A c W hm hb h1 h2 => princs_Kdc.closure (w.heap.size + 1) a1_0 A1_1 c1_1 l1_1 x A c W ((hb.block _ (by simp; omega)).trans hbox) (Kd.C_below HRT.out ((hW.out.alloc (by omega) _).trans (hb.mono (by simp; omega)))) HCT.out h1 h2)).mono ?_
 rintro e w1 ⟨hb1, hres⟩
 have HB := Aside0.mk (below_then (hW.out.alloc (by omega) (.cells #[.string a1_0, .slice A1_1 l1_1.length c1_1] 43)) (by simp; omega) hb1)
 have hbc : w1.heap[w.heap.size]? = some (.cells #[.int .i64 a0_0, .slice A0_1 l0_1.length c0_1, .int .i64 a0_2, .int .i64 a0_3, .slice A0_4 l0_4.length c0_4, .int .i64 a0_5, .bool a0_6, .bool a0_7, .int .i64 a0_8, .int .u16 a0_9, .slice A0_10 l0_10.length c0_10, .slice A0_11 l0_11.length c0_11, .slice A0_12 l0_12.length c0_12, .slice A0_13 l0_13.length c0_13, .slice A0_14 l0_14.length c0_14, .int .i64 a0_15] 57 (0, 0)) := (hb1.block _ (by simp; omega)).trans (blk_alloc hb0 _)
 have hlt := blk_lt hbc
 have hne : w.heap.size ≠ w1.heap.size := by omega
 have q0 : w1.cell? ⟨w.heap.size, 0, none⟩ = some (.int .i64 a0_0) := (blk_cell hbc 0).trans rfl
 have q1 : w1.cell? ⟨w.heap.size, 1, none⟩ = some (.slice A0_1 l0_1.length c0_1) := (blk_cell hbc 1).trans rfl
 have q2 : w1.cell? ⟨w.heap.size, 2, none⟩ = some (.int .i64 a0_2) := (blk_cell hbc 2).trans rfl
 have q3 : w1.cell? ⟨w.heap.size, 3, none⟩ = some (.int .i64 a0_3) := (blk_cell hbc 3).trans rfl
 have q4 : w1.cell? ⟨w.heap.size, 4, none⟩ = some (.slice A0_4 l0_4.length c0_4) := (blk_cell hbc 4).trans rfl
 have q5 : w1.cell? ⟨w.heap.size, 5, none⟩ = some (.int .i64 a0_5) := (blk_cell hbc 5).trans rfl
 have q6 : w1.cell? ⟨w.heap.size, 6, none⟩ = some (.bool a0_6) := (blk_cell hbc 6).trans rfl
 have q7 : w1.cell? ⟨w.heap.size, 7, none⟩ = some (.bool a0_7) := (blk_cell hbc 7).trans rfl
 have q8 : w1.cell? ⟨w.heap.size, 8, none⟩ = some (.int .i64 a0_8) := (blk_cell hbc 8).trans rfl
 have q9 : w1.cell? ⟨w.heap.size, 9, none⟩ = some (.int .u16 a0_9) := (blk_cell hbc 9).trans rfl
 have q10 : w1.cell? ⟨w.heap.size, 10, none⟩ = some (.slice A0_10 l0_10.length c0_10) := (blk_cell hbc 10).trans rfl
 have q11 : w1.cell? ⟨w.heap.size, 11, none⟩ = some (.slice A0_11 l0_11.length c0_11) := (blk_cell hbc 11).trans rfl
 have q12 : w1.cell? ⟨w.heap.size, 12, none⟩ = some (.slice A0_12 l0_12.length c0_12) := (blk_cell hbc 12).trans rfl
 have q13 : w1.cell? ⟨w.heap.size, 13, none⟩ = some (.slice A0_13 l0_13.length c0_13) := (blk_cell hbc 13).trans rfl
 have q14 : w1.cell? ⟨w.heap.size, 14, none⟩ = some (.slice A0_14 l0_14.length c0_14) := (blk_cell hbc 14).trans rfl
 have q15 : w1.cell? ⟨w.heap.size, 15, none⟩ = some (.int .i64 a0_15) := (blk_cell hbc 15).trans rfl
 clear hb1 hbox hW hz hb0 hbc
 have h' := H.out
 clear H
 rcases hres with ⟨x, A, c, hf, rfl, hi, hl, hm⟩ | ⟨hf, rfl⟩
 ·have HA := Aside0.mk (show r = hasUse l0_10 5 by rw [← h']; unfold hasKdc; rw [any_of_find hf]; rfl)
  clear h' hf hi hl hm
  go_wp2_with fail
  refine (HUSE.out _ (HB.out.alloc HB.out.size _)).mono ?_
  rintro e w2 ⟨rfl, hb2⟩
  have HB2 := Aside0.mk (below_then (HB.out.alloc HB.out.size (.cells #[.string x.f0, .slice A x.f1.length c] 43)) (by simp; omega) hb2)
  clear hb2
  go_wp2
  go_ret
  exact ⟨congrArg (fun b => Ending.returned (.bool b)) HA.out.symm, HB2.out⟩
 ·have HA := Aside0.mk (show r = false by rw [← h']; unfold hasKdc; rw [any_of_none hf]; rfl)
  clear h' hf
  go_wp2
  go_ret
  exact ⟨congrArg (fun b => Ending.returned (.bool b)) HA.out.symm, HB.out.alloc HB.out.size _⟩

/-! ### slices_Clone_string_string: function 62 (by hand) -/
def slices_Clone_string_string.f (l0 : List ByteArray) : Option (List ByteArray) := if l0.length < 8796093022208 then some l0 else none
set_option maxHeartbeats 4000000 in
set_option maxRecDepth 100000 in
theorem slices_Clone_string_string.calls (A0 : Option Addr) (c0 : Nat) (l0 : List ByteArray) (r : List ByteArray) (w : World) (hr0 : Kd.C Kd.string w A0 l0.length l0) (hc0 : l0.length ≤ c0) (h : slices_Clone_string_string.f l0 = some r) :
  Calls Try.prog 62 #[.slice A0 l0.length c0] w fun e w' => ∃ v0_ : Value, e = .returned (v0_) ∧ Kd.R Kd.string 9 w' w.heap.size (fun _ => True) v0_ r ∧ Below w.heap.size w w' := by
 unfold slices_Clone_string_string.f at h
 split at h
 case isFalse => cases h
 case isTrue hl =>
 cases h
 obtain ⟨i0, hi, hz0, hz1, hz2⟩ := info_parts info9
 have HR := Aside0.mk hr0
 clear hr0
 have hnil : ∀ a n c w, (binOp .eql 41 (.slice a n c) (.slice none 0 0)).run Try.prog w = .ok (.bool a.isNone) w := fun a n c w => Lib.run_eql_slice_nil w _ _ a n c 0 0 Try.underlying41
 cases A0 with
 | none =>
  have h0 : l0 = [] := by
   by_cases hp : 0 < l0.length
   ·obtain ⟨ad, e, _⟩ := HR.out.2.2 hp
    cases e
   ·exact List.eq_nil_of_length_eq_zero (by omega)
  subst h0
  clear HR hl
  go_enter Try.func62, Try.ntmps62
  go_wp2
  go_ret
  exact ⟨_, rfl, Kd.R_nil _ _ _ _ _, Below.refl _ _⟩
 | some ad =>
  have hn := HR.out.2.1
  have hcell : ∀ j u, (encs Value.string l0)[j]? = some u → w.cell? (ad.add j) = some u := fun j u hj => by
   have hlt : j < l0.length := by have := (List.getElem?_eq_some_iff.1 hj).1; simpa [encs] using this
   obtain ⟨ad', e, hc⟩ := HR.out.2.2 (by omega)
   cases e
   obtain ⟨c, hcl, hK, hcc⟩ := hc j _ (List.getElem?_eq_getElem hlt)
   have hK' : c = [Value.string l0[j]] := hK
   subst hK'
   have h2 := hcc 0 _ rfl
   have h3 : u = Value.string l0[j] := by simpa [encs, hlt] using hj.symm
   rw [h3]
   have e1 : (Kd.string).sz = 1 := rfl
   rw [e1, Nat.mul_one, Nat.add_zero] at h2
   exact h2
  have HCELL := Aside0.mk hcell
  clear hcell HR
  go_enter Try.func62, Try.ntmps62
  go_wp2_with (at_builtin; refine wpList_append_own _ rfl _ _ 41 rfl w.heap.size 9 i0 ((.string ⟨#[]⟩)) 1 16 Try.underlying41 hi hz0 hz1 hz2 rfl (by decide) _ 0 [] rfl ⟨rfl, .inr ⟨w.heap.size, 0, #[], rfl, Nat.le_refl _, (by simpa using heap_alloc_new w (.cells #[] 9)), Nat.le_refl _, Nat.zero_le _, rfl, rfl⟩⟩ ad l0.length c0 (encs Value.string l0) rfl (by simp [encs]) ?c1 ?c2 ?c3 ?c4 ?c5 ?_)
  case c1 => exact fun j u hj => pw_cell_below (below_alloc (Below.refl _ _) _) (HCELL.out j u hj)
  case c2 => exact fun u hu => by simp only [encs, List.mem_map] at hu; obtain ⟨x, _, rfl⟩ := hu; rfl
  case c3 => unfold maxLen; omega
  case c4 => omega
  case c5 => simp
  intro v' w1 hown hgrow _
  have hb := Aside0.mk (pw_below_grown (below_alloc (Below.refl w.heap.size w) (.cells #[] 9)) _ (by simp) hgrow (fun g hg => by simp [Value.ownBlock] at hg; omega))
  have HO := Aside0.mk hown
  clear hown hgrow
  go_wp2
  go_ret
  exact ⟨_, rfl, Kd.R_of_own HO.out (fun _ _ => trivial), hb.out⟩

/-! ### princs_own: function 41 -/
def princs_own.f (a0_0 : ByteArray) (l0_1 : List ByteArray) : Option (ByteArray × List ByteArray) := (slices_Clone_string_string.f l0_1).bind fun t115 => (some (a0_0, t115))
set_option maxHeartbeats 8000000 in
set_option maxRecDepth 100000 in
theorem princs_own.calls (a0_0 : ByteArray) (A0_1 : Option Addr) (c0_1 : Nat) (l0_1 : List ByteArray) (r1 : ByteArray) (r2 : List ByteArray) (w : World) (hr0_1 : Kd.C Kd.string w A0_1 l0_1.length l0_1) (hc0_1 : l0_1.length ≤ c0_1) (h : princs_own.f a0_0 l0_1 = some (r1, r2)) :
  Calls Try.prog 41 #[.agg #[.string a0_0, .slice A0_1 l0_1.length c0_1]] w fun e w' => ∃ v1_ : Value, e = .returned (.agg #[.string r1, v1_]) ∧ Kd.R Kd.string 9 w' w.heap.size (fun _ => True) v1_ r2 ∧ Below w.heap.size w w' := by
 have hu43 := Try.underlying43
 have HR0_1 := Aside0.mk hr0_1
 have HC0_1 := Aside0.mk hc0_1
 clear hr0_1 hc0_1
 have HB := Aside0.mk (Below.refl w.heap.size w)
 have H : ((slices_Clone_string_string.f l0_1).bind fun t115 => (some (a0_0, t115))) = some (r1, r2) := h
 clear h
 replace H := Option.bind_eq_some_iff.mp H
 obtain ⟨t115, A20, H⟩ := H
 replace H : (some (a0_0, t115)) = some (r1, r2) := H
 have A2 := Aside0.mk A20
 clear A20
 simp only [Option.some.injEq, Prod.mk.injEq] at H
 obtain ⟨rfl, rfl⟩ := H
 go_enter Try.func41, Try.ntmps41
 try go_wp2_with (first | ((with_reducible refine gate_dst (N := 1) rfl ?_); refine box_event ?hg (N := 1) ?hd (cs := #[.string a0_0, .slice A0_1 l0_1.length c0_1]) (t := 43) ?hr ?_; (case hd => rfl); (case hg => rfl); (case hr => first | (go_simp; done) | (go_simp; rfl)); intro gb113 hg w3 hbox hb; have n0_ := Aside0.mk (below_step (by repeat (first | (with_reducible first | exact HB.out | apply below_alloc | apply pw_below_drewN | apply below_drew1) | exact HB.out)) hb); have n1_ := Aside0.mk (hbox); have n2_ := Aside0.mk ((by rw [hg]; exact (below_size (by repeat (first | (with_reducible first | exact HB.out | apply below_alloc | apply pw_below_drewN | apply below_drew1) | exact HB.out))) : w.heap.size ≤ gb113)); have n3_ := Aside0.mk ((by rw [hg]; exact (below_size (by repeat (first | (with_reducible first | exact HB.out | apply below_alloc | apply pw_below_drewN | apply below_drew1) | exact HB.out))) : w.heap.size ≤ gb113)); clear HB; have HB := n0_; have BK113 := n1_; have GW113 := n2_; have GE113 := n3_; clear n0_ n1_ n2_ n3_; clear hb hbox hg) | ((with_reducible refine gate_dst (N := 2) rfl ?_); refine box_event ?hg (N := 2) ?hd (cs := #[.string (⟨#[]⟩ : ByteArray), .slice none 0 0]) (t := 43) ?hr ?_; (case hd => rfl); (case hg => rfl); (case hr => first | (go_simp; done) | (go_simp; rfl)); intro gb114 hg w4 hbox hb; have n0_ := Aside0.mk (blk_below (g := gb113) (o := .cells #[.string a0_0, .slice A0_1 l0_1.length c0_1] 43 (0, 0)) (by (with_reducible repeat (first | refine blk_drewN ?_ _ | refine blk_drew ?_ | refine blk_alloc ?_ _)); exact BK113.out) hb); have n1_ := Aside0.mk (below_step (by repeat (first | (with_reducible first | exact HB.out | apply below_alloc | apply pw_below_drewN | apply below_drew1 | refine below_set ?_ GE113.out) | exact HB.out)) hb); have n2_ := Aside0.mk (hbox); have n3_ := Aside0.mk ((by rw [hg]; exact (below_size (by repeat (first | (with_reducible first | exact HB.out | apply below_alloc | apply pw_below_drewN | apply below_drew1 | refine below_set ?_ GE113.out) | exact HB.out))) : w.heap.size ≤ gb114)); have n4_ := Aside0.mk ((by rw [hg]; exact (below_size (by repeat (first | (with_reducible first | exact HB.out | apply below_alloc | apply pw_below_drewN | apply below_drew1 | refine below_set ?_ GE113.out) | exact HB.out))) : w.heap.size ≤ gb114)); have n5_ := Aside0.mk ((by rw [hg]; exact Nat.ne_of_lt (blk_lt (g := gb113) (o := .cells #[.string a0_0, .slice A0_1 l0_1.length c0_1] 43 (0, 0)) (by (with_reducible repeat (first | refine blk_drewN ?_ _ | refine blk_drew ?_ | refine blk_alloc ?_ _)); exact BK113.out)) : gb113 ≠ gb114)); have n6_ := Aside0.mk ((by rw [hg]; exact Nat.ne_of_gt (blk_lt (g := gb113) (o := .cells #[.string a0_0, .slice A0_1 l0_1.length c0_1] 43 (0, 0)) (by (with_reducible repeat (first | refine blk_drewN ?_ _ | refine blk_drew ?_ | refine blk_alloc ?_ _)); exact BK113.out)) : gb114 ≠ gb113)); clear BK113; clear HB; have BK113 := n0_; have HB := n1_; have BK114 := n2_; have GW114 := n3_; have GE114 := n4_; have NB113_114 := n5_; have NB114_113 := n6_; clear n0_ n1_ n2_ n3_ n4_ n5_ n6_; clear hb hbox hg))
 have n0_ := Aside0.mk (blk_drew BK113.out)
 have n1_ := Aside0.mk (blk_drew BK114.out)
 have n2_ := Aside0.mk (below_drew1 HB.out)
 clear BK113
 clear BK114
 clear HB
 have BK113 := n0_
 have BK114 := n1_
 have HB := n2_
 clear n0_ n1_ n2_
 refine start_ (n := 7) (S := fun w' => w'.cell? ⟨gb113, 0, none⟩ = some (.string a0_0) ∧ w'.cell? ⟨gb113, 1, none⟩ = some (.slice A0_1 l0_1.length c0_1)) (ds := []) #[false, false, false, false, false, false, false] (by kernel_rfl) rfl rfl ⟨(blk_cell BK113.out 0).trans rfl, (blk_cell BK113.out 1).trans rfl⟩ (fun hHeld => ?_)
 generalize w4.drew = w5 at BK113 BK114 HB hHeld ⊢
 refine pure_ (i := 0) (N := some 3) (v := ?_) (a' := ?_) #[true, false, false, false, false, false, false] rfl rfl (by kernel_rfl) (fun _ _ _ h => h) (Or.inl ⟨by rfl, ?_⟩) ?_ ?_
 rotate_left
 ·intro w'
  go_simp
  with_reducible rfl
 rotate_left
 ·simp only [Act.put, List.setIfInBounds_toArray, List.set_cons_zero, List.set_cons_succ, i64_w, i32_w]
  rfl
 refine pure_ (i := 2) (N := some 5) (v := ?_) (a' := ?_) #[true, false, true, false, false, false, false] rfl rfl (by kernel_rfl) (fun _ _ _ h => h) (Or.inl ⟨by rfl, ?_⟩) ?_ ?_
 rotate_left
 ·intro w'
  go_simp
  with_reducible rfl
 rotate_left
 ·simp only [Act.put, List.setIfInBounds_toArray, List.set_cons_zero, List.set_cons_succ, i64_w, i32_w]
  rfl
 refine take_ (i := 1) (N := some 4) (v := ?_) (a' := ?_) #[true, true, true, false, false, false, false] rfl rfl (by kernel_rfl) (fun _ _ _ h => h) (Or.inl ⟨by rfl, ?_⟩) hHeld ?_ ?_
 rotate_left
 ·rintro w' ⟨s0, s1⟩
  go_simp
  with_reducible rfl
 rotate_left
 ·simp only [Act.put, List.setIfInBounds_toArray, List.set_cons_zero, List.set_cons_succ, i64_w, i32_w]
  rfl
 refine take_ (i := 3) (N := some 6) (v := ?_) (a' := ?_) #[true, true, true, true, false, false, false] rfl rfl (by kernel_rfl) (fun _ _ _ h => h) (Or.inl ⟨by rfl, ?_⟩) hHeld ?_ ?_
 rotate_left
 ·rintro w' ⟨s0, s1⟩
  go_simp
  with_reducible rfl
 rotate_left
 ·simp only [Act.put, List.setIfInBounds_toArray, List.set_cons_zero, List.set_cons_succ, i64_w, i32_w]
  rfl
 refine one_ (i := 4) (N := some 7) #[true, true, true, true, true, false, false] rfl rfl (by kernel_rfl) (by decide) (fun K hK => ?_)
 refine goes_ Try.func62 (by kernel_rfl) rfl #[.slice A0_1 l0_1.length c0_1] (by rfl) rfl rfl (by (try simp only [List.map_toArray, List.map_cons, List.map_nil]); first | done | rfl | (simp only [List.length_drop, List.length_take]; rfl)) ?_
 with_reducible refine (slices_Clone_string_string.calls _ _ l0_1 t115 _ ?side1 ?side2 A2.out).mono ?_
 (case side1 => repeat (first | exact (Kd.C_below HR0_1.out HB.out) | (with_reducible refine Kd.C_alloc ?_ _) | (with_reducible refine Kd.C_drewN ?_ _) | (with_reducible refine Kd.C_drew ?_)))
 (case side2 => exact HC0_1.out)
 rintro e w6 ⟨v116, rfl, ho0, hb⟩
 refine ⟨_, rfl, ?_⟩
 have n0_ := Aside0.mk (Kd.R_lower ho0 (below_size (by repeat (first | (with_reducible first | exact HB.out | apply below_alloc | apply pw_below_drewN | apply below_drew1 | refine below_set ?_ GE113.out | refine below_set ?_ GE114.out) | exact HB.out))))
 have n1_ := Aside0.mk (blk_below (g := gb113) (o := .cells #[.string a0_0, .slice A0_1 l0_1.length c0_1] 43 (0, 0)) (by (with_reducible repeat (first | refine blk_drewN ?_ _ | refine blk_drew ?_ | refine blk_alloc ?_ _)); exact BK113.out) hb)
 have n2_ := Aside0.mk (blk_below (g := gb114) (o := .cells #[.string (⟨#[]⟩ : ByteArray), .slice none 0 0] 43 (0, 0)) (by (with_reducible repeat (first | refine blk_drewN ?_ _ | refine blk_drew ?_ | refine blk_alloc ?_ _)); exact BK114.out) hb)
 have n3_ := Aside0.mk (below_step (by repeat (first | (with_reducible first | exact HB.out | apply below_alloc | apply pw_below_drewN | apply below_drew1 | refine below_set ?_ GE113.out | refine below_set ?_ GE114.out) | exact HB.out)) hb)
 clear BK113
 clear BK114
 clear HB
 have HO117 := n0_
 have BK113 := n1_
 have BK114 := n2_
 have HB := n3_
 clear n0_ n1_ n2_ n3_
 (try clear hb)
 (try clear hb2)
 (try clear hk)
 (try clear hi)
 (try clear ho0)
 obtain ⟨Ao7, co7, eo7⟩ := Kd.R_slice HO117.out
 (first | subst eo7 | (injection eo7 with f1_ f2_ f3_; have f4_ := f1_.symm; have f5_ := f3_.symm; clear f1_ f2_ f3_; subst f4_; subst f5_))
 refine hK.out _ _ ⟨(blk_cell BK113.out 0).trans rfl, (blk_cell BK113.out 1).trans rfl⟩ (fun hHeld => ?_)
 clear hK K
 refine norm_ (a' := ?_) ?_ ?_
 rotate_left
 ·show Act.put _ (some 7) _ = _
  simp only [Act.put, List.setIfInBounds_toArray, List.set_cons_zero, List.set_cons_succ, i64_w, i32_w]
  rfl
 refine pure_ (i := 5) (N := some 8) (v := ?_) (a' := ?_) #[true, true, true, true, true, true, false] rfl rfl (by kernel_rfl) (fun _ _ _ h => h) (Or.inl ⟨by rfl, ?_⟩) ?_ ?_
 rotate_left
 ·intro w'
  go_simp
  with_reducible rfl
 rotate_left
 ·simp only [Act.put, List.setIfInBounds_toArray, List.set_cons_zero, List.set_cons_succ, i64_w, i32_w]
  rfl
 refine one_ (i := 6) (N := none) #[true, true, true, true, true, true, true] rfl rfl (by kernel_rfl) (by decide) (fun K hK => ?_)
 have hs8 : w6.cell? ⟨gb114, 0, none⟩ = some (.string (⟨#[]⟩ : ByteArray)) := (blk_cell BK114.out 0).trans rfl
 have hfs8 := blk_frozen BK114.out 0
 have hns8_0 := NB113_114.out
 have hms8_0 := NB114_113.out
 have hs9 : w6.cell? ⟨gb114, 1, none⟩ = some (.slice none 0 0) := (blk_cell BK114.out 1).trans rfl
 have hfs9 := blk_frozen BK114.out 1
 have hns9_0 := NB113_114.out
 have hms9_0 := NB114_113.out
 refine skip_ (w1 := ?_) (by rfl) rfl ?_ ?_
 rotate_left
 ·go_simp
  rfl
 refine hK.out _ _ ⟨((cell_far (p := ⟨gb114, _, none⟩) NB113_114.out _).trans (((cell_far (p := ⟨gb114, _, none⟩) NB113_114.out _).trans (hHeld.1)))), ((cell_far (p := ⟨gb114, _, none⟩) NB113_114.out _).trans (((cell_far (p := ⟨gb114, _, none⟩) NB113_114.out _).trans (hHeld.2))))⟩ (fun hHeld => ?_)
 clear hK K
 refine done_ (by kernel_rfl) ?_
 try go_wp2
 refine bodyPost_ret (results_cell_row rfl _ _ gb114 43 #[.string a0_0, .slice Ao7 t115.length co7] (0, 0) _ rfl (by (with_reducible repeat (first | refine blk_drewN ?_ _ | refine blk_drew ?_ | refine blk_alloc ?_ _)); refine blk_put (cs := #[.string a0_0, .slice none 0 0]) ?_ 1 _ rfl; (with_reducible repeat (first | refine blk_drewN ?_ _ | refine blk_drew ?_ | refine blk_alloc ?_ _)); refine blk_put (cs := #[.string (⟨#[]⟩ : ByteArray), .slice none 0 0]) ?_ 0 _ rfl; (with_reducible repeat (first | refine blk_drewN ?_ _ | refine blk_drew ?_ | refine blk_alloc ?_ _)); exact BK114.out) Try.underlying43 rfl (by kernel_rfl)) rfl ?_
 exact ⟨_, by first | rfl | (simp [errW_none, errW_some] <;> rfl) | (simp [*, errW_none, errW_some] <;> rfl), by (with_reducible repeat (first | apply Kd.R_alloc | apply Kd.R_drewN | apply Kd.R_drew)); exact Kd.R_mono (Kd.R_far (p := ⟨gb114, 1, none⟩) (Kd.R_far (p := ⟨gb114, 0, none⟩) (Kd.R_types HO117.out BK114.out (by decide)) (fun _ hk => hk.2) (.string a0_0)) (fun _ hk => hk.2) (.slice Ao7 t115.length co7)) (fun _ hk => trivial), by repeat (first | (with_reducible first | exact HB.out | apply below_alloc | apply pw_below_drewN | apply below_drew1 | refine below_set ?_ GE113.out | refine below_set ?_ GE114.out) | exact HB.out)⟩

end Go.Proofs.Ytalcfnhcenpniaa.XT
