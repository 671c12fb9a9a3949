-- printed by wip/xprint.py (a scratch copy of the kit's print, with contracts by hand)
import Derived.Test.YtalcfnhcenpniaaXT0
import Derived.Test.YtalcfnhcenpniaaXT1
import Derived.Test.YtalcfnhcenpniaaXT2
import Derived.Test.YtalcfnhcenpniaaXT3
namespace Go.Proofs.Ytalcfnhcenpniaa.XT
open Go.RowKit Go.Proofs.YtalcfnhcenpniaaW.PrintWords Go.Proofs.YtalcfnhcenpniaaW.PrintLast Go.Proofs.YtalcfnhcenpniaaW.PrintMore
attribute [local go_sem] max2_int min2_int max_two min_two max_three min_three max_four min_four   -- for this text's walks alone
set_option linter.unusedVariables false
set_option linter.unusedSimpArgs false

/-! ### princs_Whose: function 21 (by hand) -/
set_option maxHeartbeats 4000000 in
set_option maxRecDepth 100000 in
theorem IndexFunc_T65 (p : S65 → Bool) (g : Nat) (lb : Array Value) (eg : ∀ args w, (callFunc g args).run Try.prog w = .ok (.enter g args) w) (A0_ : Option Addr) (c0_ : Nat) (l0 : List (S65)) (w : World) (hr0 : Kd.C k65 w A0_ l0.length l0) (hp : ∀ (x : S65) (A0 : Option Addr) (c0 : Nat) (A1 : Option Addr) (c1 : Nat) (A3 : Option Addr) (c3 : Nat) (W : World), x ∈ l0 → Below w.heap.size w W → Kd.C k35 W A0 x.f0.length x.f0 → x.f0.length ≤ c0 → Kd.C k35 W A1 x.f1.length x.f1 → x.f1.length ≤ c1 → Kd.C Kd.string W A3 x.f2.f1.length x.f2.f1 → x.f2.f1.length ≤ c3 → Calls Try.prog g (#[(.agg #[.slice A0 x.f0.length c0, .slice A1 x.f1.length c1, .string x.f2.f0, .slice A3 x.f2.f1.length c3])] ++ lb) W fun e w' => e = .returned (.bool (p x)) ∧ Below W.heap.size W w') :
  Calls Try.prog 57 #[.slice A0_ l0.length c0_, .func (.func g) #[] lb] w fun e w' => e = .returned (.int .i64 (idxp p l0)) ∧ Below w.heap.size w w' := by
 have hn : l0.length ≤ 9223372036854775807 := hr0.2.1
 have HR := Aside0.mk hr0
 have HP := Aside0.mk hp
 clear hr0 hp
 go_enter Try.func57, Try.ntmps57
 go_wp2
 go_loopg [5, 8] l0.length (fun gg _ s8 wr => ∃ kk : Nat, kk ≤ l0.length ∧ l0.length - kk ≤ gg ∧ s8 = .int .i64 kk ∧ Aside0 (Below w.heap.size w wr) ∧ Aside0 (∀ j (hj : j < l0.length), j < kk → p l0[j] = false))
 case atStart => exact ⟨0, Nat.zero_le _, by omega, rfl, ⟨Below.refl _ w⟩, ⟨fun j _ hj => absurd hj (Nat.not_lt_zero _)⟩⟩
 case round =>
  obtain ⟨kk, hkk, hg, rfl, HB, HA⟩ := hrel
  by_cases hlt : kk < l0.length
  ·have hltz : (kk : Int) < (l0.length : Int) := by omega
   obtain ⟨ad, A0, c0, A1, c1, A3, c3,  e0, hx0, hx1, hx2, hx3, hl0, hi0, hl1, hi1, hl3, hi3⟩ := at_T65 HR.out (kk : Int) (by omega) (by omega)
   cases e0
   replace hx0 := (HB.out.cell (World.block_lt_of_cell? w _ hx0)).trans hx0
   replace hx1 := (HB.out.cell (World.block_lt_of_cell? w _ hx1)).trans hx1
   replace hx2 := (HB.out.cell (World.block_lt_of_cell? w _ hx2)).trans hx2
   replace hx3 := (HB.out.cell (World.block_lt_of_cell? w _ hx3)).trans hx3
   have hmem : (rd_T65 l0 (kk : Int)) ∈ l0 := by unfold rd_T65; rw [Int.toNat_natCast, getD_eq _ _ _ hlt]; exact List.getElem_mem _
   have hcall := HP.out (rd_T65 l0 (kk : Int)) A0 c0 A1 c1 A3 c3 wr hmem HB.out (Kd.C_below hi0 HB.out) hl0 (Kd.C_below hi1 HB.out) hl1 (Kd.C_below hi3 HB.out) hl3
   have he : (rd_T65 l0 (kk : Int)) = l0[kk] := by unfold rd_T65; rw [Int.toNat_natCast]; exact getD_eq _ _ _ hlt
   have HE := Aside0.mk he
   clear he hmem
   clear hi0 hl0 hi1 hl1 hi3 hl3
   generalize (rd_T65 l0 (kk : Int)) = y at *
   have HC := Aside0.mk hcall
   clear hcall
   simp only [Int.toNat_natCast] at hx0 hx1 hx2 hx3
   cases hq : p y with
   | true =>
    have HQ := Aside0.mk hq
    have hcall := HC.out
    rw [hq] at hcall
    clear hq HC
    have HC := Aside0.mk hcall
    clear hcall
    go_wp2_with fail
    refine HC.out.mono ?_
    rintro e w' ⟨rfl, hb'⟩
    have hb2 := Aside0.mk (below_then HB.out HB.out.size hb')
    clear hb'
    go_wp2_with fail
    go_ret
    exact ⟨congrArg (fun z => Ending.returned (.int .i64 z)) (idxp_hit p l0 kk hlt HA.out (by rw [← HE.out]; exact HQ.out)).symm, hb2.out⟩
   | false =>
    have HQ := Aside0.mk hq
    have hcall := HC.out
    rw [hq] at hcall
    clear hq HC
    have HC := Aside0.mk hcall
    clear hcall
    go_wp2_with fail
    refine HC.out.mono ?_
    rintro e w' ⟨rfl, hb'⟩
    have hb2 := Aside0.mk (below_then HB.out HB.out.size hb')
    clear hb'
    go_wp2_with fail
    go_roundg (l0.length - (kk + 1))
    case measure => omega
    case rel =>
     refine ⟨kk + 1, by omega, by omega, by go_num, hb2, ⟨fun j hj hjk => ?_⟩⟩
     by_cases e : j = kk
     ·subst e
      rw [← HE.out]; exact HQ.out
     ·exact HA.out j hj (by omega)
  ·have hltz : ¬ (kk : Int) < (l0.length : Int) := by omega
   have : kk = l0.length := by omega
   subst this
   go_wp2
   go_ret
   exact ⟨congrArg (fun z => Ending.returned (.int .i64 z)) (idxp_miss p l0 (fun j hj => HA.out j hj hj)).symm, HB.out⟩

def FirstPost_T65 (p : S65 → Bool) (l0 : List S65) (w : World) (e : Ending) (w' : World) : Prop :=
 Below w.heap.size w w' ∧ ((∃ (x : S65) (A0 : Option Addr) (c0 : Nat) (A1 : Option Addr) (c1 : Nat) (A3 : Option Addr) (c3 : Nat), l0.find? p = some x ∧ e = .returned (.tuple #[.agg #[.slice A0 x.f0.length c0, .slice A1 x.f1.length c1, .string x.f2.f0, .slice A3 x.f2.f1.length c3], .bool true]) ∧ Kd.C k35 w A0 x.f0.length x.f0 ∧ x.f0.length ≤ c0 ∧ Kd.C k35 w A1 x.f1.length x.f1 ∧ x.f1.length ≤ c1 ∧ Kd.C Kd.string w A3 x.f2.f1.length x.f2.f1 ∧ x.f2.f1.length ≤ c3 ∧ x ∈ l0) ∨
  (l0.find? p = none ∧ e = .returned (.tuple #[.agg #[.slice none 0 0, .slice none 0 0, .string ⟨#[]⟩, .slice none 0 0], .bool false])))
set_option maxHeartbeats 4000000 in
set_option maxRecDepth 100000 in
theorem First_T65 (p : S65 → Bool) (g : Nat) (lb : Array Value) (eg : ∀ args w, (callFunc g args).run Try.prog w = .ok (.enter g args) w) (A0_ : Option Addr) (c0_ : Nat) (l0 : List S65) (w : World) (hr0 : Kd.C k65 w A0_ l0.length l0) (hp : ∀ (x : S65) (A0 : Option Addr) (c0 : Nat) (A1 : Option Addr) (c1 : Nat) (A3 : Option Addr) (c3 : Nat) (W : World), x ∈ l0 → Below w.heap.size w W → Kd.C k35 W A0 x.f0.length x.f0 → x.f0.length ≤ c0 → Kd.C k35 W A1 x.f1.length x.f1 → x.f1.length ≤ c1 → Kd.C Kd.string W A3 x.f2.f1.length x.f2.f1 → x.f2.f1.length ≤ c3 → Calls Try.prog g (#[(.agg #[.slice A0 x.f0.length c0, .slice A1 x.f1.length c1, .string x.f2.f0, .slice A3 x.f2.f1.length c3])] ++ lb) W fun e w' => e = .returned (.bool (p x)) ∧ Below W.heap.size W w') :
  Calls Try.prog 38 #[.slice A0_ l0.length c0_, .func (.func g) #[] lb] w (FirstPost_T65 p l0 w) := by
 have hu := Try.underlying65
 have HR := Aside0.mk hr0
 have HP := Aside0.mk hp
 have hg0 := idxp_range p l0
 clear hr0 hp
 go_enter Try.func38, Try.ntmps38
 go_wp2_with fail
 refine (IndexFunc_T65 p g lb eg A0_ c0_ l0 _ (Kd.C_alloc HR.out _) (fun x A0 c0 A1 c1 A3 c3 W hm hb h0a h0b h1a h1b h3a h3b => HP.out x A0 c0 A1 c1 A3 c3 W hm (((Below.refl _ _).alloc (Nat.le_refl _) _).trans (hb.mono (by simp))) h0a h0b h1a h1b h3a h3b)).mono ?_
 rintro e w1 ⟨rfl, hb1⟩
 have hz : w.heap.size < w1.heap.size := by have := hb1.size; simp at this; omega
 have hne : w.heap.size ≠ w1.heap.size := by omega
 have q0 : w1.cell? ⟨w.heap.size, 0, none⟩ = some (.slice none 0 0) := (hb1.cell (p := ⟨w.heap.size, 0, none⟩) (by simp)).trans (by simp)
 have q1 : w1.cell? ⟨w.heap.size, 1, none⟩ = some (.slice none 0 0) := (hb1.cell (p := ⟨w.heap.size, 1, none⟩) (by simp)).trans (by simp)
 have q2 : w1.cell? ⟨w.heap.size, 2, none⟩ = some (.string ⟨#[]⟩) := (hb1.cell (p := ⟨w.heap.size, 2, none⟩) (by simp)).trans (by simp)
 have q3 : w1.cell? ⟨w.heap.size, 3, none⟩ = some (.slice none 0 0) := (hb1.cell (p := ⟨w.heap.size, 3, none⟩) (by simp)).trans (by simp)
 have z0 : w1.frozen? ⟨w.heap.size, 0, none⟩ = false := (hb1.frozen (p := ⟨w.heap.size, 0, none⟩) (by simp)).trans (by simp)
 have z1 : w1.frozen? ⟨w.heap.size, 1, none⟩ = false := (hb1.frozen (p := ⟨w.heap.size, 1, none⟩) (by simp)).trans (by simp)
 have z2 : w1.frozen? ⟨w.heap.size, 2, none⟩ = false := (hb1.frozen (p := ⟨w.heap.size, 2, none⟩) (by simp)).trans (by simp)
 have z3 : w1.frozen? ⟨w.heap.size, 3, none⟩ = false := (hb1.frozen (p := ⟨w.heap.size, 3, none⟩) (by simp)).trans (by simp)
 have HB := Aside0.mk (((Below.refl w.heap.size w).alloc (Nat.le_refl _) (.cells #[.slice none 0 0, .slice none 0 0, .string ⟨#[]⟩, .slice none 0 0] 65)).trans (hb1.mono (by simp)))
 clear hb1
 by_cases h : 0 ≤ idxp p l0
 ·obtain ⟨ad, A0, c0, A1, c1, A3, c3,  e0, hx0, hx1, hx2, hx3, hl0, hi0, hl1, hi1, hl3, hi3⟩ := at_T65 HR.out (idxp p l0) h hg0.2
  cases e0
  have HF := Aside0.mk (idxp_some p z65 l0 h)
  have HE := Aside0.mk (show (rd_T65 l0 (idxp p l0)) = l0.getD (idxp p l0).toNat z65 from rfl)
  have n0 := World.block_lt_of_cell? w _ hx0
  replace hx0 := (HB.out.cell (World.block_lt_of_cell? w _ hx0)).trans hx0
  replace hx1 := (HB.out.cell (World.block_lt_of_cell? w _ hx1)).trans hx1
  replace hx2 := (HB.out.cell (World.block_lt_of_cell? w _ hx2)).trans hx2
  replace hx3 := (HB.out.cell (World.block_lt_of_cell? w _ hx3)).trans hx3
  have HI0 := Aside0.mk hi0
  have HL0 := Aside0.mk hl0
  clear hi0 hl0
  have HI1 := Aside0.mk hi1
  have HL1 := Aside0.mk hl1
  clear hi1 hl1
  have HI3 := Aside0.mk hi3
  have HL3 := Aside0.mk hl3
  clear hi3 hl3
  obtain ⟨h00, h01⟩ := hg0
  have hst : ∀ x0 x1 x2 x3, Below w.heap.size w ((((w1.setCell ⟨w.heap.size, 0, none⟩ x0).setCell ⟨w.heap.size, 1, none⟩ x1).setCell ⟨w.heap.size, 2, none⟩ x2).setCell ⟨w.heap.size, 3, none⟩ x3) := fun _ _ _ _ => ((((HB.out.setCell (Nat.le_refl _) _).setCell (Nat.le_refl _) _).setCell (Nat.le_refl _) _).setCell (Nat.le_refl _) _)
  have HST := Aside0.mk hst
  clear hst
  go_wp2
  exact bodyPost_ret (v := .tuple #[.agg #[.slice A0 (rd_T65 l0 (idxp p l0)).f0.length c0, .slice A1 (rd_T65 l0 (idxp p l0)).f1.length c1, .string ((rd_T65 l0 (idxp p l0)).f2.f0), .slice A3 (rd_T65 l0 (idxp p l0)).f2.f1.length c3], .bool true]) (by simp [results, Try.results38, go_sem, q0, q1, q2, q3]) rfl ⟨HST.out _ _ _ _, .inl ⟨_, A0, c0, A1, c1, A3, c3, by rw [HE.out]; exact HF.out, rfl, HI0.out, HL0.out, HI1.out, HL1.out, HI3.out, HL3.out, by rw [HE.out]; exact List.mem_of_find?_eq_some HF.out⟩⟩
 ·have HF := Aside0.mk (idxp_none p l0 (by omega))
  have hst : ∀ x0 x1 x2 x3, Below w.heap.size w ((((w1.setCell ⟨w.heap.size, 0, none⟩ x0).setCell ⟨w.heap.size, 1, none⟩ x1).setCell ⟨w.heap.size, 2, none⟩ x2).setCell ⟨w.heap.size, 3, none⟩ x3) := fun _ _ _ _ => ((((HB.out.setCell (Nat.le_refl _) _).setCell (Nat.le_refl _) _).setCell (Nat.le_refl _) _).setCell (Nat.le_refl _) _)
  have HST := Aside0.mk hst
  clear hst
  go_wp2
  exact bodyPost_ret (v := .tuple #[.agg #[.slice none 0 0, .slice none 0 0, .string ⟨#[]⟩, .slice none 0 0], .bool false]) (by simp [results, Try.results38, go_sem, q0, q1, q2, q3, hz, hne]) rfl ⟨below_alloc (HST.out _ _ _ _) _, .inr ⟨HF.out, rfl⟩⟩

def ruleFits (iss subj : List S35) (x : S65) : Bool := sameN x.f0 subj && sameN x.f1 iss
/-- The cells of a certificate that the closures look at. -/
def CertBox (W : World) (B : Nat) (A1 : Option Addr) (c1 : Nat) (iss : List S35) (A4 : Option Addr) (c4 : Nat) (subj : List S35) : Prop :=
 W.cell? ⟨B, 1, none⟩ = some (.slice A1 iss.length c1) ∧ W.cell? ⟨B, 4, none⟩ = some (.slice A4 subj.length c4) ∧ B < W.heap.size
set_option maxHeartbeats 4000000 in
set_option maxRecDepth 100000 in
theorem princs_Whose.rule (B : Nat) (A1 : Option Addr) (c1 : Nat) (iss : List S35) (A4 : Option Addr) (c4 : Nat) (subj : List S35) (x : S65) (X0 : Option Addr) (d0 : Nat) (X1 : Option Addr) (d1 : Nat) (X3 : Option Addr) (d3 : Nat) (W : World)
  (hb : CertBox W B A1 c1 iss A4 c4 subj) (h1 : Kd.C k35 W A1 iss.length iss) (hc1 : iss.length ≤ c1) (h4 : Kd.C k35 W A4 subj.length subj) (hc4 : subj.length ≤ c4)
  (g0 : Kd.C k35 W X0 x.f0.length x.f0) (hd0 : x.f0.length ≤ d0) (g1 : Kd.C k35 W X1 x.f1.length x.f1) (hd1 : x.f1.length ≤ d1) (hs1 : smallN iss = true) (hs4 : smallN subj = true) (hx0 : smallN x.f0 = true) (hx1 : smallN x.f1 = true) :
  Calls Try.prog 39 (#[.agg #[.slice X0 x.f0.length d0, .slice X1 x.f1.length d1, .string x.f2.f0, .slice X3 x.f2.f1.length d3]] ++ #[.pointer (some ⟨B, 0, none⟩)]) W fun e w' => e = .returned (.bool (ruleFits iss subj x)) ∧ Below W.heap.size W w' := by
 show Calls Try.prog 39 #[.agg #[.slice X0 x.f0.length d0, .slice X1 x.f1.length d1, .string x.f2.f0, .slice X3 x.f2.f1.length d3], .pointer (some ⟨B, 0, none⟩)] W _
 have hu := Try.underlying65
 have hu2 := Try.underlying57
 obtain ⟨k1, k4, hBW⟩ := hb
 have hne : B ≠ W.heap.size := by omega
 have HS0 := Aside0.mk (fun w' (hb' : Below W.heap.size W w') => names_Same.calls X0 d0 x.f0 A4 c4 subj _ w' (Kd.C_below g0 hb') hd0 (Kd.C_below h4 hb') hc4 (show names_Same.f x.f0 subj = some (sameN x.f0 subj) by unfold names_Same.f; rw [if_pos ⟨hx0, hs4⟩]))
 have HS1 := Aside0.mk (fun w' (hb' : Below W.heap.size W w') => names_Same.calls X1 d1 x.f1 A1 c1 iss _ w' (Kd.C_below g1 hb') hd1 (Kd.C_below h1 hb') hc1 (show names_Same.f x.f1 iss = some (sameN x.f1 iss) by unfold names_Same.f; rw [if_pos ⟨hx1, hs1⟩]))
 clear h1 hc1 h4 hc4 g0 hd0 g1 hd1 hs1 hs4 hx0 hx1
 go_enter Try.func39, Try.ntmps39
 go_wp2_with fail
 refine (HS0.out _ (below_alloc (Below.refl _ _) _)).mono ?_
 rintro e w1 ⟨rfl, hb1⟩
 have hlt : W.heap.size < w1.heap.size := by have := hb1.size; simp at this; omega
 have m1 : w1.cell? ⟨B, 1, none⟩ = some (.slice A1 iss.length c1) := (hb1.cell (p := ⟨B, 1, none⟩) (by simp; omega)).trans ((below_alloc (Below.refl _ _) _).cell (p := ⟨B, 1, none⟩) hBW |>.trans k1)
 have m4 : w1.cell? ⟨W.heap.size, 1, none⟩ = some (.slice X1 x.f1.length d1) := (hb1.cell (p := ⟨W.heap.size, 1, none⟩) (by simp)).trans (by simp)
 have HB := Aside0.mk (below_then (below_alloc (Below.refl W.heap.size W) _) (by simp) hb1)
 clear hb1
 cases hq : sameN x.f0 subj with
 | true =>
  have HA := Aside0.mk (show ruleFits iss subj x = sameN x.f1 iss by unfold ruleFits; rw [hq]; rfl)
  clear hq
  go_wp2_with fail
  refine (HS1.out _ HB.out).mono ?_
  rintro e w2 ⟨rfl, hb2⟩
  have HB2 := Aside0.mk (below_then HB.out HB.out.size hb2)
  clear hb2
  go_wp2
  go_ret
  exact ⟨congrArg (fun b => Ending.returned (.bool b)) HA.out.symm, HB2.out⟩
 | false =>
  have HA := Aside0.mk (show ruleFits iss subj x = false by unfold ruleFits; rw [hq]; rfl)
  clear hq
  go_wp2
  go_ret
  exact ⟨congrArg (fun b => Ending.returned (.bool b)) HA.out.symm, HB.out⟩
set_option maxHeartbeats 4000000 in
set_option maxRecDepth 100000 in
theorem princs_Whose.known (B : Nat) (AU : Option Addr) (cU : Nat) (us : List S45) (x : S43) (A : Option Addr) (c : Nat) (W : World)
  (hb : W.cell? ⟨B, 0, none⟩ = some (.slice AU us.length cU)) (hB : B < W.heap.size) (h1 : Kd.C k45 W AU us.length us) (hc1 : us.length ≤ cU)
  (h2 : Kd.C Kd.string W A x.f1.length x.f1) (hc2 : x.f1.length ≤ c) :
  Calls Try.prog 44 (#[.agg #[.string x.f0, .slice A x.f1.length c]] ++ #[.pointer (some ⟨B, 0, none⟩)]) W fun e w' => e = .returned (.bool (lookup us x.f0 x.f1).2) ∧ Below W.heap.size W w' := by
 show Calls Try.prog 44 #[.agg #[.string x.f0, .slice A x.f1.length c], .pointer (some ⟨B, 0, none⟩)] W _
 have hu2 := Try.underlying43
 have hne : B ≠ W.heap.size := by omega
 have HS := Aside0.mk (fun w' (hb' : Below W.heap.size W w') => princs_Lookup.calls AU cU us x.f0 A c x.f1 _ _ w' (Kd.C_below h1 hb') hc1 (Kd.C_below h2 hb') hc2 (show princs_Lookup.f us x.f0 x.f1 = some ((lookup us x.f0 x.f1).1, (lookup us x.f0 x.f1).2) from rfl))
 clear h1 hc1 h2 hc2
 go_enter Try.func44, Try.ntmps44
 go_wp2_with fail
 refine (HS.out _ (below_alloc (Below.refl _ _) _)).mono ?_
 rintro e w1 ⟨rfl, hb1⟩
 have HB := Aside0.mk (below_then (below_alloc (Below.refl W.heap.size W) _) (by simp) hb1)
 clear hb1
 go_wp2
 go_ret
 exact ⟨rfl, HB.out⟩
/-- A row that was made behind a block: stores into that block leave it. -/
theorem R_far2 {α : Type} {d : Kd α} {e : Nat} {W : World} {B B' g : Nat} {ok : Nat → Prop} {v : Value} {xs : List α} (h : d.R e W B ok v xs) (hg : g < B) (hb : B' ≤ B) (i j : Nat) (x y : Value) : d.R e ((W.setCell ⟨g, i, none⟩ x).setCell ⟨g, j, none⟩ y) B' (fun _ => True) v xs := by
 have h1 : d.R e W B (fun k => B ≤ k) v xs := Kd.R_mono (Kd.R_bound h) (fun k hk => hk.2.1)
 have hne : ∀ k, B ≤ k → k ≠ g := fun k hk => by omega
 exact Kd.R_lower (Kd.R_mono (Kd.R_far (p := ⟨g, j, none⟩) (Kd.R_far (p := ⟨g, i, none⟩) h1 hne x) hne y) (fun _ _ => trivial)) hb
def whose (rules : List S65) (us : List S45) (iss subj : List S35) (eku : List (List Int)) (ps : List S43) : ByteArray × List ByteArray × Int :=
 match rules.find? (ruleFits iss subj) with
 | some x => (x.f2.f0, x.f2.f1, 0)
 | none => if hasUse eku 4 = true then (match ps.find? (fun p => (lookup us p.f0 p.f1).2) with
  | some p => (p.f0, p.f1, 0)
  | none => (⟨#[]⟩, [], 211)) else (⟨#[]⟩, [], 211)
def smallR (x : S65) : Bool := smallN x.f0 && smallN x.f1 && decide (x.f2.f1.length < 8796093022208)
def smallQ (x : S43) : Bool := decide (x.f1.length < 8796093022208)
def princs_Whose.f (l0 : List (S65)) (l1 : List (S45)) (a2_0 : Int) (l2_1 : List (S35)) (a2_2 : Int) (a2_3 : Int) (l2_4 : List (S35)) (a2_5 : Int) (a2_6 : Bool) (a2_7 : Bool) (a2_8 : Int) (a2_9 : Int) (l2_10 : List (List Int)) (l2_11 : List (S43)) (l2_12 : List (List (S35))) (l2_13 : List (List (S35))) (l2_14 : List (S134)) (a2_15 : Int) : Option ((ByteArray) × (List ByteArray) × (Int)) := if l0.all smallR = true ∧ smallN l2_1 = true ∧ smallN l2_4 = true ∧ l2_11.all smallQ = true then some (whose l0 l1 l2_1 l2_4 l2_10 l2_11) else none
theorem own_some (r : ByteArray) (n : List ByteArray) (h : n.length < 8796093022208) : princs_own.f r n = some (r, n) := by
 unfold princs_own.f slices_Clone_string_string.f
 rw [if_pos h]
 rfl
set_option maxHeartbeats 8000000 in
set_option maxRecDepth 100000 in
theorem princs_Whose.calls (A0 : Option Addr) (c0 : Nat) (l0 : List (S65)) (A1 : Option Addr) (c1 : Nat) (l1 : List (S45)) (a2_0 : Int) (A2_1 : Option Addr) (c2_1 : Nat) (l2_1 : List (S35)) (a2_2 : Int) (a2_3 : Int) (A2_4 : Option Addr) (c2_4 : Nat) (l2_4 : List (S35)) (a2_5 : Int) (a2_6 : Bool) (a2_7 : Bool) (a2_8 : Int) (a2_9 : Int) (A2_10 : Option Addr) (c2_10 : Nat) (l2_10 : List (List Int)) (A2_11 : Option Addr) (c2_11 : Nat) (l2_11 : List (S43)) (A2_12 : Option Addr) (c2_12 : Nat) (l2_12 : List (List (S35))) (A2_13 : Option Addr) (c2_13 : Nat) (l2_13 : List (List (S35))) (A2_14 : Option Addr) (c2_14 : Nat) (l2_14 : List (S134)) (a2_15 : Int) (r1 : ByteArray) (r2 : List ByteArray) (r3 : Int) (w : World) (hr0 : Kd.C k65 w A0 l0.length l0) (hc0 : l0.length ≤ c0) (hr1 : Kd.C k45 w A1 l1.length l1) (hc1 : l1.length ≤ c1) (hr2_1 : Kd.C k35 w A2_1 l2_1.length l2_1) (hc2_1 : l2_1.length ≤ c2_1) (hr2_4 : Kd.C k35 w A2_4 l2_4.length l2_4) (hc2_4 : l2_4.length ≤ c2_4) (hr2_10 : Kd.C (Kd.slice 3 (Kd.int .i64)) w A2_10 l2_10.length l2_10) (hc2_10 : l2_10.length ≤ c2_10) (hr2_11 : Kd.C k43 w A2_11 l2_11.length l2_11) (hc2_11 : l2_11.length ≤ c2_11) (hr2_12 : Kd.C (Kd.slice 35 k35) w A2_12 l2_12.length l2_12) (hc2_12 : l2_12.length ≤ c2_12) (hr2_13 : Kd.C (Kd.slice 35 k35) w A2_13 l2_13.length l2_13) (hc2_13 : l2_13.length ≤ c2_13) (hr2_14 : Kd.C k134 w A2_14 l2_14.length l2_14) (hc2_14 : l2_14.length ≤ c2_14) (h : princs_Whose.f l0 l1 a2_0 l2_1 a2_2 a2_3 l2_4 a2_5 a2_6 a2_7 a2_8 a2_9 l2_10 l2_11 l2_12 l2_13 l2_14 a2_15 = some (r1, r2, r3)) :
  Calls Try.prog 21 #[.slice A0 l0.length c0, .slice A1 l1.length c1, .agg #[.int .i64 a2_0, .slice A2_1 l2_1.length c2_1, .int .i64 a2_2, .int .i64 a2_3, .slice A2_4 l2_4.length c2_4, .int .i64 a2_5, .bool a2_6, .bool a2_7, .int .i64 a2_8, .int .u16 a2_9, .slice A2_10 l2_10.length c2_10, .slice A2_11 l2_11.length c2_11, .slice A2_12 l2_12.length c2_12, .slice A2_13 l2_13.length c2_13, .slice A2_14 l2_14.length c2_14, .int .i64 a2_15]] w fun e w' => ∃ v1_ : Value, e = .returned (.tuple #[.agg #[.string r1, v1_], .int .i64 r3]) ∧ Kd.R Kd.string 9 w' w.heap.size (fun _ => True) v1_ r2 ∧ Below w.heap.size w w' := by
 have hu := Try.underlying57
 have hu2 := Try.underlying55
 have hu3 := Try.underlying43
 have hu4 := Try.underlying65
 have HE1 := Aside0.mk (fun args w => enters Try.func39 (by kernel_rfl) rfl args w : ∀ args w, (callFunc 39 args).run Try.prog w = .ok (.enter 39 args) w)
 have HE2 := Aside0.mk (fun args w => enters Try.func44 (by kernel_rfl) rfl args w : ∀ args w, (callFunc 44 args).run Try.prog w = .ok (.enter 44 args) w)
 unfold princs_Whose.f at h
 split at h
 case isFalse => cases h
 case isTrue hs =>
 obtain ⟨hs0, hs1, hs4, hs11⟩ := hs
 have H := Aside0.mk (Option.some.inj h)
 have HR0 := Aside0.mk hr0
 have HR1 := Aside0.mk hr1
 have HI := Aside0.mk hr2_1
 have HU := Aside0.mk hr2_4
 have HP := Aside0.mk hr2_11
 have HCU := Aside0.mk hc1
 have HUSE := Aside0.mk (fun w' (hb' : Below w.heap.size w w') => princs_use.calls a2_0 A2_1 c2_1 l2_1 a2_2 a2_3 A2_4 c2_4 l2_4 a2_5 a2_6 a2_7 a2_8 a2_9 A2_10 c2_10 l2_10 A2_11 c2_11 l2_11 A2_12 c2_12 l2_12 A2_13 c2_13 l2_13 A2_14 c2_14 l2_14 a2_15 4 (hasUse l2_10 4) w' (Kd.C_below hr2_1 hb') hc2_1 (Kd.C_below hr2_4 hb') hc2_4 (Kd.C_below hr2_10 hb') hc2_10 (Kd.C_below hr2_11 hb') hc2_11 (Kd.C_below hr2_12 hb') hc2_12 (Kd.C_below hr2_13 hb') hc2_13 (Kd.C_below hr2_14 hb') hc2_14 rfl)
 have HC1 := Aside0.mk hc2_1
 have HC4 := Aside0.mk hc2_4
 clear hr0 hr1 hr2_1 hr2_4 hr2_10 hr2_11 hr2_12 hr2_13 hr2_14 hc0 hc1 hc2_1 hc2_4 hc2_10 hc2_11 hc2_12 hc2_13 hc2_14 h
 go_enter Try.func21, Try.ntmps21
 go_wp2_with fail
 obtain ⟨W1, hW1⟩ : ∃ W : World, W = (w.alloc (.cells #[.slice A1 l1.length c1] 40)).alloc (.cells #[.int .i64 a2_0, .slice A2_1 l2_1.length c2_1, .int .i64 a2_2, .int .i64 a2_3, .slice A2_4 l2_4.length c2_4, .int .i64 a2_5, .bool a2_6, .bool a2_7, .int .i64 a2_8, .int .u16 a2_9, .slice A2_10 l2_10.length c2_10, .slice A2_11 l2_11.length c2_11, .slice A2_12 l2_12.length c2_12, .slice A2_13 l2_13.length c2_13, .slice A2_14 l2_14.length c2_14, .int .i64 a2_15] 57) := ⟨_, rfl⟩
 rw [← hW1]
 have hz : W1.heap.size = w.heap.size + 1 + 1 := by rw [hW1]; simp
 have hW := Aside0.mk (show Below w.heap.size w W1 by rw [hW1]; exact (below_alloc (Below.refl _ _) _).alloc (by simp) _)
 have hbu : W1.heap[w.heap.size]? = some (.cells #[.slice A1 l1.length c1] 40 (0, 0)) := by rw [hW1]; exact blk_alloc (heap_alloc_new w _) _
 have hbc : W1.heap[w.heap.size + 1]? = some (.cells #[.int .i64 a2_0, .slice A2_1 l2_1.length c2_1, .int .i64 a2_2, .int .i64 a2_3, .slice A2_4 l2_4.length c2_4, .int .i64 a2_5, .bool a2_6, .bool a2_7, .int .i64 a2_8, .int .u16 a2_9, .slice A2_10 l2_10.length c2_10, .slice A2_11 l2_11.length c2_11, .slice A2_12 l2_12.length c2_12, .slice A2_13 l2_13.length c2_13, .slice A2_14 l2_14.length c2_14, .int .i64 a2_15] 57 (0, 0)) := by rw [hW1]; simpa using heap_alloc_new (w.alloc (.cells #[.slice A1 l1.length c1] 40)) (.cells #[.int .i64 a2_0, .slice A2_1 l2_1.length c2_1, .int .i64 a2_2, .int .i64 a2_3, .slice A2_4 l2_4.length c2_4, .int .i64 a2_5, .bool a2_6, .bool a2_7, .int .i64 a2_8, .int .u16 a2_9, .slice A2_10 l2_10.length c2_10, .slice A2_11 l2_11.length c2_11, .slice A2_12 l2_12.length c2_12, .slice A2_13 l2_13.length c2_13, .slice A2_14 l2_14.length c2_14, .int .i64 a2_15] 57)
 clear hW1
 obtain ⟨W2, hW2⟩ : ∃ W : World, W = W1.alloc (.cells #[.string ⟨#[]⟩, .slice none 0 0] 43) := ⟨_, rfl⟩
 rw [← hW2]
 have hz2 : W2.heap.size = w.heap.size + 1 + 1 + 1 := by rw [hW2]; simp; omega
 have hWW := Aside0.mk (show Below w.heap.size w W2 by rw [hW2]; exact hW.out.alloc (by omega) _)
 have hbr : W2.heap[w.heap.size + 1 + 1]? = some (.cells #[.string ⟨#[]⟩, .slice none 0 0] 43 (0, 0)) := by rw [hW2, ← hz]; exact heap_alloc_new W1 _
 replace hbu : W2.heap[w.heap.size]? = some (.cells #[.slice A1 l1.length c1] 40 (0, 0)) := by rw [hW2]; exact blk_alloc hbu _
 replace hbc : W2.heap[w.heap.size + 1]? = some (.cells #[.int .i64 a2_0, .slice A2_1 l2_1.length c2_1, .int .i64 a2_2, .int .i64 a2_3, .slice A2_4 l2_4.length c2_4, .int .i64 a2_5, .bool a2_6, .bool a2_7, .int .i64 a2_8, .int .u16 a2_9, .slice A2_10 l2_10.length c2_10, .slice A2_11 l2_11.length c2_11, .slice A2_12 l2_12.length c2_12, .slice A2_13 l2_13.length c2_13, .slice A2_14 l2_14.length c2_14, .int .i64 a2_15] 57 (0, 0)) := by rw [hW2]; exact blk_alloc hbc _
 clear hW2 hW hz W1
 have HBU := Aside0.mk hbu
 have HBC := Aside0.mk hbc
 have HBR := Aside0.mk hbr
 clear hbu hbc hbr
 have hcb : ∀ W, Below W2.heap.size W2 W → CertBox W (w.heap.size + 1) A2_1 c2_1 l2_1 A2_4 c2_4 l2_4 := fun W hb => by
  have hb1 := (hb.block _ (by omega : w.heap.size + 1 < W2.heap.size)).trans HBC.out
  exact ⟨(blk_cell hb1 1).trans rfl, (blk_cell hb1 4).trans rfl, blk_lt hb1⟩
 have hold : ∀ W, Below W2.heap.size W2 W → Below w.heap.size w W := fun W hb => hWW.out.trans (hb.mono (by omega))
 refine (First_T65 (ruleFits l2_1 l2_4) _ _ HE1.out A0 c0 l0 _ (Kd.C_below HR0.out hWW.out) (fun x X0 d0 X1 d1 X3 d3 W hm hb g0 hd0 g1 hd1 _ _ => by
  have hx := List.all_eq_true.1 hs0 x hm
  unfold smallR at hx
  simp only [Bool.and_eq_true] at hx
  exact princs_Whose.rule _ A2_1 c2_1 l2_1 A2_4 c2_4 l2_4 x X0 d0 X1 d1 X3 d3 W (hcb W hb) (Kd.C_below HI.out (hold W hb)) HC1.out (Kd.C_below HU.out (hold W hb)) HC4.out g0 hd0 g1 hd1 hs1 hs4 hx.1.1 hx.1.2)).mono ?_
 rintro e w1 ⟨hb1, hres⟩
 have HB1 := Aside0.mk hb1
 have hs1z := hb1.size
 have hbr1 := (hb1.block _ (by omega : w.heap.size + 1 + 1 < W2.heap.size)).trans HBR.out
 have HBR1 := Aside0.mk hbr1
 clear hb1 hbr1
 have h' := H.out
 clear H
 rcases hres with ⟨x, X0, d0, X1, d1, X3, d3, hf, rfl, g0, hd0, g1, hd1, g3, hd3, hm⟩ | ⟨hf, rfl⟩
 ·have hx := List.all_eq_true.1 hs0 x hm
  unfold smallR at hx
  simp only [Bool.and_eq_true, decide_eq_true_eq] at hx
  have HOWN := Aside0.mk (fun W (hb : Below W2.heap.size W2 W) => princs_own.calls x.f2.f0 X3 d3 x.f2.f1 x.f2.f0 x.f2.f1 W (Kd.C_below g3 hb) hd3 (own_some _ _ hx.2))
  unfold whose at h'
  rw [hf] at h'
  simp only [Prod.mk.injEq] at h'
  obtain ⟨rfl, rfl, rfl⟩ := h'
  clear hf g0 g1 g3 hd0 hd1 hd3 hx hm hs0 hs1 hs4 hs11
  go_wp2_with fail
  have HBX := Aside0.mk ((hold _ HB1.out).alloc (hold _ HB1.out).size (.cells #[.slice X0 x.f0.length d0, .slice X1 x.f1.length d1, .string x.f2.f0, .slice X3 x.f2.f1.length d3] 65))
  refine (HOWN.out _ (HB1.out.alloc HB1.out.size _)).mono ?_
  rintro e w2 ⟨v1, rfl, hR, hb2⟩
  obtain ⟨A9, c9, rfl⟩ : ∃ A c, v1 = .slice A (x.f2.f1).length c := by obtain ⟨inner, ho, _⟩ := hR.2; exact own_slice ho
  have hz9 := hb2.size
  have hbr2 := (hb2.block _ (by simp; omega : w.heap.size + 1 + 1 < _)).trans (blk_alloc HBR1.out _)
  have p0 : w2.cell? ⟨w.heap.size + 1 + 1, 0, none⟩ = some (.string ⟨#[]⟩) := (blk_cell hbr2 0).trans rfl
  have p1 : w2.cell? ⟨w.heap.size + 1 + 1, 1, none⟩ = some (.slice none 0 0) := (blk_cell hbr2 1).trans rfl
  have f0 : w2.frozen? ⟨w.heap.size + 1 + 1, 0, none⟩ = false := blk_frozen hbr2 0
  have f1 : w2.frozen? ⟨w.heap.size + 1 + 1, 1, none⟩ = false := blk_frozen hbr2 1
  have HRES := Aside0.mk (fun x y => R_far2 hR (by simp; omega : w.heap.size + 1 + 1 < _) (by simp; omega : w.heap.size ≤ _) 0 1 x y)
  have HB9 := Aside0.mk (below_then HBX.out HBX.out.size hb2)
  have HST := Aside0.mk (fun x y => (HB9.out.setCell (p := ⟨w.heap.size + 1 + 1, 0, none⟩) (by simp; omega) x).setCell (p := ⟨w.heap.size + 1 + 1, 1, none⟩) (by simp; omega) y)
  clear hR hb2 hbr2
  go_wp2
  exact bodyPost_ret (v := .tuple #[.agg #[.string x.f2.f0, .slice A9 (x.f2.f1).length c9], .int .i64 0]) (by simp [results, Try.results21, go_sem, p0, p1]) rfl ⟨_, rfl, HRES.out _ _, HST.out _ _⟩
 ·unfold whose at h'
  rw [hf] at h'
  simp only at h'
  have H' := Aside0.mk h'
  clear h' hf
  have hbc1 := (HB1.out.block _ (by omega : w.heap.size + 1 < W2.heap.size)).trans HBC.out
  have hbu1 := (HB1.out.block _ (by omega : w.heap.size < W2.heap.size)).trans HBU.out
  have HBU1 := Aside0.mk hbu1
  have hne1 : w.heap.size + 1 ≠ w1.heap.size := by omega
  have hlt1 : w.heap.size + 1 < w1.heap.size := by omega
  have q0 : w1.cell? ⟨w.heap.size + 1, 0, none⟩ = some (.int .i64 a2_0) := (blk_cell hbc1 0).trans rfl
  have q1 : w1.cell? ⟨w.heap.size + 1, 1, none⟩ = some (.slice A2_1 l2_1.length c2_1) := (blk_cell hbc1 1).trans rfl
  have q2 : w1.cell? ⟨w.heap.size + 1, 2, none⟩ = some (.int .i64 a2_2) := (blk_cell hbc1 2).trans rfl
  have q3 : w1.cell? ⟨w.heap.size + 1, 3, none⟩ = some (.int .i64 a2_3) := (blk_cell hbc1 3).trans rfl
  have q4 : w1.cell? ⟨w.heap.size + 1, 4, none⟩ = some (.slice A2_4 l2_4.length c2_4) := (blk_cell hbc1 4).trans rfl
  have q5 : w1.cell? ⟨w.heap.size + 1, 5, none⟩ = some (.int .i64 a2_5) := (blk_cell hbc1 5).trans rfl
  have q6 : w1.cell? ⟨w.heap.size + 1, 6, none⟩ = some (.bool a2_6) := (blk_cell hbc1 6).trans rfl
  have q7 : w1.cell? ⟨w.heap.size + 1, 7, none⟩ = some (.bool a2_7) := (blk_cell hbc1 7).trans rfl
  have q8 : w1.cell? ⟨w.heap.size + 1, 8, none⟩ = some (.int .i64 a2_8) := (blk_cell hbc1 8).trans rfl
  have q9 : w1.cell? ⟨w.heap.size + 1, 9, none⟩ = some (.int .u16 a2_9) := (blk_cell hbc1 9).trans rfl
  have q10 : w1.cell? ⟨w.heap.size + 1, 10, none⟩ = some (.slice A2_10 l2_10.length c2_10) := (blk_cell hbc1 10).trans rfl
  have q11 : w1.cell? ⟨w.heap.size + 1, 11, none⟩ = some (.slice A2_11 l2_11.length c2_11) := (blk_cell hbc1 11).trans rfl
  have q12 : w1.cell? ⟨w.heap.size + 1, 12, none⟩ = some (.slice A2_12 l2_12.length c2_12) := (blk_cell hbc1 12).trans rfl
  have q13 : w1.cell? ⟨w.heap.size + 1, 13, none⟩ = some (.slice A2_13 l2_13.length c2_13) := (blk_cell hbc1 13).trans rfl
  have q14 : w1.cell? ⟨w.heap.size + 1, 14, none⟩ = some (.slice A2_14 l2_14.length c2_14) := (blk_cell hbc1 14).trans rfl
  have q15 : w1.cell? ⟨w.heap.size + 1, 15, none⟩ = some (.int .i64 a2_15) := (blk_cell hbc1 15).trans rfl
  have HBX := Aside0.mk ((hold _ HB1.out).alloc (hold _ HB1.out).size (.cells #[.slice none 0 0, .slice none 0 0, .string ⟨#[]⟩, .slice none 0 0] 65))
  have HX2 := Aside0.mk (HB1.out.alloc HB1.out.size (.cells #[.slice none 0 0, .slice none 0 0, .string ⟨#[]⟩, .slice none 0 0] 65))
  clear hbc1 hbu1
  go_wp2_with fail
  refine (HUSE.out _ HBX.out).mono ?_
  rintro e w2 ⟨rfl, hb2⟩
  have hz2' := hb2.size
  have hbr2 := (hb2.block _ (by simp; omega : w.heap.size + 1 + 1 < _)).trans (blk_alloc HBR1.out _)
  have hbu2 := (hb2.block _ (by simp; omega : w.heap.size < _)).trans (blk_alloc HBU1.out _)
  have hbc2 : w2.heap[w.heap.size + 1]? = some (.cells #[.int .i64 a2_0, .slice A2_1 l2_1.length c2_1, .int .i64 a2_2, .int .i64 a2_3, .slice A2_4 l2_4.length c2_4, .int .i64 a2_5, .bool a2_6, .bool a2_7, .int .i64 a2_8, .int .u16 a2_9, .slice A2_10 l2_10.length c2_10, .slice A2_11 l2_11.length c2_11, .slice A2_12 l2_12.length c2_12, .slice A2_13 l2_13.length c2_13, .slice A2_14 l2_14.length c2_14, .int .i64 a2_15] 57 (0, 0)) := (hb2.block _ (by simp; omega : w.heap.size + 1 < _)).trans (blk_alloc ((HB1.out.block _ (by omega : w.heap.size + 1 < W2.heap.size)).trans HBC.out) _)
  have HB2 := Aside0.mk (below_then HBX.out HBX.out.size hb2)
  have HY2 := Aside0.mk (below_then HX2.out HX2.out.size hb2)
  have HBR2 := Aside0.mk hbr2
  have HBU2 := Aside0.mk hbu2
  have hs2z : W2.heap.size < w2.heap.size := by simp at hz2'; omega
  clear hb2 q0 q1 q2 q3 q4 q5 q6 q7 q8 q9 q10 q11 q12 q13 q14 q15
  cases hq : hasUse l2_10 4 with
  | false =>
   have h'' := H'.out
   rw [hq] at h''
   simp only [Bool.false_eq_true, if_false, Prod.mk.injEq] at h''
   obtain ⟨rfl, rfl, rfl⟩ := h''
   clear hq H' hbu2 hbc2
   have p0w2 : w2.cell? ⟨w.heap.size + 1 + 1, 0, none⟩ = some (.string ⟨#[]⟩) := (blk_cell hbr2 0).trans rfl
   have p1w2 : w2.cell? ⟨w.heap.size + 1 + 1, 1, none⟩ = some (.slice none 0 0) := (blk_cell hbr2 1).trans rfl
   have f0w2 : w2.frozen? ⟨w.heap.size + 1 + 1, 0, none⟩ = false := blk_frozen hbr2 0
   have f1w2 : w2.frozen? ⟨w.heap.size + 1 + 1, 1, none⟩ = false := blk_frozen hbr2 1
   clear hbr2
   have HST := Aside0.mk (fun x y => (HB2.out.setCell (p := ⟨w.heap.size + 1 + 1, 0, none⟩) (by simp; omega) x).setCell (p := ⟨w.heap.size + 1 + 1, 1, none⟩) (by simp; omega) y)
   go_wp2
   exact bodyPost_ret (v := .tuple #[.agg #[.string ⟨#[]⟩, .slice none 0 0], .int .i64 211]) (by simp [results, Try.results21, go_sem, p0w2, p1w2]) rfl ⟨_, rfl, Kd.R_nil _ _ _ _ _, HST.out _ _⟩
  | true =>
   have h'' := H'.out
   rw [hq] at h''
   simp only [if_true] at h''
   have H2 := Aside0.mk h''
   have q5 : w2.cell? ⟨w.heap.size + 1, 11, none⟩ = some (.slice A2_11 l2_11.length c2_11) := (blk_cell hbc2 11).trans rfl
   clear hq H' h'' hbr2 hbu2 hbc2
   go_wp2_with fail
   refine (First_T43 (fun p => (lookup l1 p.f0 p.f1).2) _ _ HE2.out A2_11 c2_11 l2_11 _ (Kd.C_below HP.out HB2.out) (fun x A c W hm hb g1 hd1 => by
    have hbuW := (hb.block _ (by omega : w.heap.size < w2.heap.size)).trans HBU2.out
    exact princs_Whose.known _ A1 c1 l1 x A c W ((blk_cell hbuW 0).trans rfl) (blk_lt hbuW) (Kd.C_below HR1.out (HB2.out.trans (hb.mono (by omega)))) HCU.out g1 hd1)).mono ?_
   rintro e w3 ⟨hb3, hres3⟩
   have hz3 := hb3.size
   have hbr3 := (hb3.block _ (by omega : w.heap.size + 1 + 1 < w2.heap.size)).trans HBR2.out
   have HBR3 := Aside0.mk hbr3
   have HB3 := Aside0.mk (HB2.out.trans (hb3.mono (by omega)))
   have HZ3 := Aside0.mk hb3
   have h'' := H2.out
   clear hb3 H2 q5
   rcases hres3 with ⟨x, X1, d1, hf3, rfl, g1, hd1, hm⟩ | ⟨hf3, rfl⟩
   ·have hx := List.all_eq_true.1 hs11 x hm
    unfold smallQ at hx
    have hx' := of_decide_eq_true hx
    have HOWN := Aside0.mk (fun W (hb : Below w2.heap.size w2 W) => princs_own.calls x.f0 X1 d1 x.f1 x.f0 x.f1 W (Kd.C_below g1 hb) hd1 (own_some _ _ hx'))
    rw [hf3] at h''
    simp only [Prod.mk.injEq] at h''
    obtain ⟨rfl, rfl, rfl⟩ := h''
    clear hf3 g1 hd1 hx hx' hm hs0 hs1 hs4 hs11 hbr3
    have HBX3 := Aside0.mk (HB3.out.alloc HB3.out.size (.cells #[.string x.f0, .slice X1 x.f1.length d1] 43))
    go_wp2_with fail
    refine (HOWN.out _ (HZ3.out.alloc HZ3.out.size _)).mono ?_
    rintro e w4 ⟨v1, rfl, hR, hb4⟩
    obtain ⟨A9, c9, rfl⟩ : ∃ A c, v1 = .slice A (x.f1).length c := by obtain ⟨inner, ho, _⟩ := hR.2; exact own_slice ho
    have hz9 := hb4.size
    have hbr4 := (hb4.block _ (by simp; omega : w.heap.size + 1 + 1 < _)).trans (blk_alloc HBR3.out _)
    have p0 : w4.cell? ⟨w.heap.size + 1 + 1, 0, none⟩ = some (.string ⟨#[]⟩) := (blk_cell hbr4 0).trans rfl
    have p1 : w4.cell? ⟨w.heap.size + 1 + 1, 1, none⟩ = some (.slice none 0 0) := (blk_cell hbr4 1).trans rfl
    have f0 : w4.frozen? ⟨w.heap.size + 1 + 1, 0, none⟩ = false := blk_frozen hbr4 0
    have f1 : w4.frozen? ⟨w.heap.size + 1 + 1, 1, none⟩ = false := blk_frozen hbr4 1
    have HRES := Aside0.mk (fun x y => R_far2 hR (by simp; omega : w.heap.size + 1 + 1 < _) (by simp; omega : w.heap.size ≤ _) 0 1 x y)
    have HB9 := Aside0.mk (below_then HBX3.out HBX3.out.size hb4)
    have HST := Aside0.mk (fun x y => (HB9.out.setCell (p := ⟨w.heap.size + 1 + 1, 0, none⟩) (by simp; omega) x).setCell (p := ⟨w.heap.size + 1 + 1, 1, none⟩) (by simp; omega) y)
    clear hR hb4 hbr4
    go_wp2
    exact bodyPost_ret (v := .tuple #[.agg #[.string x.f0, .slice A9 (x.f1).length c9], .int .i64 0]) (by simp [results, Try.results21, go_sem, p0, p1]) rfl ⟨_, rfl, HRES.out _ _, HST.out _ _⟩
   ·rw [hf3] at h''
    simp only [Prod.mk.injEq] at h''
    obtain ⟨rfl, rfl, rfl⟩ := h''
    clear hf3
    have hne3 : w.heap.size + 1 + 1 ≠ w3.heap.size := by omega
    have hlt3 : w.heap.size + 1 + 1 < w3.heap.size := by omega
    have p0w3 : w3.cell? ⟨w.heap.size + 1 + 1, 0, none⟩ = some (.string ⟨#[]⟩) := (blk_cell hbr3 0).trans rfl
    have p1w3 : w3.cell? ⟨w.heap.size + 1 + 1, 1, none⟩ = some (.slice none 0 0) := (blk_cell hbr3 1).trans rfl
    have f0w3 : w3.frozen? ⟨w.heap.size + 1 + 1, 0, none⟩ = false := blk_frozen hbr3 0
    have f1w3 : w3.frozen? ⟨w.heap.size + 1 + 1, 1, none⟩ = false := blk_frozen hbr3 1
    clear hbr3
    have HST2 := Aside0.mk (fun x y => (HB3.out.setCell (p := ⟨w.heap.size + 1 + 1, 0, none⟩) (by simp; omega) x).setCell (p := ⟨w.heap.size + 1 + 1, 1, none⟩) (by simp; omega) y)
    go_wp2
    exact bodyPost_ret (v := .tuple #[.agg #[.string ⟨#[]⟩, .slice none 0 0], .int .i64 211]) (by simp [results, Try.results21, go_sem, p0w3, p1w3, hne3, hlt3]) rfl ⟨_, rfl, Kd.R_nil _ _ _ _ _, (HST2.out _ _).alloc (HST2.out (.string ⟨#[]⟩) (.slice none 0 0)).size _⟩

/-! ### warderlaw21_head: function 18 (by hand) -/
def warderlaw21_head.f : Option Bool := some true
set_option maxHeartbeats 4000000 in
set_option maxRecDepth 100000 in
theorem warderlaw21_head.calls (r : Bool) (w : World) (h : warderlaw21_head.f = some r) :
  Calls Try.prog 18 #[] w fun e w' => e = .returned (.bool r) ∧ Below w.heap.size w w' := by
 cases h
 have hu := Try.underlying57
 have hu2 := Try.underlying45
 have hu3 := Try.underlying43
 obtain ⟨W0, hW0⟩ : ∃ W : World, W = w.alloc (.cells #[.string ⟨#[97, 110, 110]⟩] 9) := ⟨_, rfl⟩
 have g0 : Kd.string.C W0 (some ⟨w.heap.size, 0, none⟩) 1 [⟨#[97, 110, 110]⟩] := by rw [hW0]; exact Kd.C_one Kd.string 9 w _ _ rfl
 have hz0 : W0.heap.size = w.heap.size + 1 := by rw [hW0]; simp
 have HB0 := Aside0.mk (show Below w.heap.size w W0 by rw [hW0]; exact below_alloc (Below.refl _ _) _)
 obtain ⟨W1, hW1⟩ : ∃ W : World, W = W0.alloc (.cells #[.string ⟨#[82]⟩, .slice (some ⟨w.heap.size, 0, none⟩) 1 1] 43) := ⟨_, rfl⟩
 have hz1 : W1.heap.size = w.heap.size + 1 + 1 := by rw [hW1]; simp [hz0]
 have g1 : Kd.string.C W1 (some ⟨w.heap.size, 0, none⟩) 1 [⟨#[97, 110, 110]⟩] := by rw [hW1]; exact Kd.C_alloc g0 _
 have HB1 := Aside0.mk (show Below w.heap.size w W1 by rw [hW1]; exact below_alloc HB0.out _)
 have hb1 : W1.heap[w.heap.size + 1]? = some (.cells #[.string ⟨#[82]⟩, .slice (some ⟨w.heap.size, 0, none⟩) 1 1] 43 (0, 0)) := by rw [hW1, ← hz0]; exact heap_alloc_new W0 _
 obtain ⟨W2, hW2⟩ : ∃ W : World, W = W1.alloc (.cells #[.string ⟨#[82]⟩, .slice (some ⟨w.heap.size, 0, none⟩) 1 1, .int .i64 7] 45) := ⟨_, rfl⟩
 have g2 : Kd.string.C W2 (some ⟨w.heap.size, 0, none⟩) 1 [⟨#[97, 110, 110]⟩] := by rw [hW2]; exact Kd.C_alloc g1 _
 have HB2 := Aside0.mk (show Below w.heap.size w W2 by rw [hW2]; exact below_alloc HB1.out _)
 have hz2 : W2.heap.size = w.heap.size + 1 + 1 + 1 := by rw [hW2]; simp [hz1]
 have hb2 : W2.heap[w.heap.size + 1]? = some (.cells #[.string ⟨#[82]⟩, .slice (some ⟨w.heap.size, 0, none⟩) 1 1] 43 (0, 0)) := by rw [hW2]; exact blk_alloc hb1 _
 have u2 : k45.C W2 (some ⟨w.heap.size + 1 + 1, 0, none⟩) 1 [⟨⟨⟨#[82]⟩, [⟨#[97, 110, 110]⟩]⟩, 7⟩] := by
  rw [hW2] at g2
  rw [hW2, ← hz1]
  exact Kd.C_one k45 45 W1 _ _ (k45_mk _ ⟨⟨⟨#[82]⟩, [⟨#[97, 110, 110]⟩]⟩, 7⟩ (Nat.le_refl 1) g2)
 have L2 := Aside0.mk (princs_Lookup.calls (some ⟨w.heap.size + 1 + 1, 0, none⟩) 1 [⟨⟨⟨#[82]⟩, [⟨#[97, 110, 110]⟩]⟩, 7⟩] ⟨#[82]⟩ (some ⟨w.heap.size, 0, none⟩) 1 [⟨#[97, 110, 110]⟩] 7 true W2 u2 (Nat.le_refl 1) g2 (Nat.le_refl 1) (by simp [princs_Lookup.f, lookup, alikeP]))
 have HB := Aside0.mk hb2
 have G2 := Aside0.mk g2
 rw [hW2, hW1, hW0] at L2
 clear g0 g1 g2 u2 hb1 hb2 HB0 HB1 hz0 hz1
 go_enter Try.func18, Try.ntmps18
 go_wp2_with fail
 refine L2.out.mono ?_
 clear L2
 rw [← hW0, ← hW1, ← hW2]
 clear hW0 hW1 hW2 W0 W1
 rintro e w3 ⟨rfl, hb3⟩
 have hz3 := hb3.size
 have hbp := (hb3.block (w.heap.size + 1) (by omega)).trans HB.out
 have HG3 := Aside0.mk (Kd.C_below G2.out hb3)
 have HB3 := Aside0.mk (below_then HB2.out HB2.out.size hb3)
 have HP3 := Aside0.mk hbp
 have W3 := Aside0.mk (princs_Whose.calls none 0 [] none 0 [] 0 none 0 [] 0 0 none 0 [] 0 false false 0 0 none 0 [] none 0 [] none 0 [] none 0 [] none 0 [] 0 ⟨#[]⟩ [] 211 w3 (Kd.C_nil _ _) (Nat.le_refl 0) (Kd.C_nil _ _) (Nat.le_refl 0) (Kd.C_nil _ _) (Nat.le_refl 0) (Kd.C_nil _ _) (Nat.le_refl 0) (Kd.C_nil _ _) (Nat.le_refl 0) (Kd.C_nil _ _) (Nat.le_refl 0) (Kd.C_nil _ _) (Nat.le_refl 0) (Kd.C_nil _ _) (Nat.le_refl 0) (Kd.C_nil _ _) (Nat.le_refl 0) (by simp [princs_Whose.f, whose, smallN, hasUse]))
 clear hb3 hbp HB G2 HB2
 go_wp2_with fail
 refine W3.out.mono ?_
 clear W3
 rintro e w4 ⟨v1, rfl, hR, hb4⟩
 obtain ⟨A9, c9, rfl⟩ : ∃ A c, v1 = .slice A ([] : List ByteArray).length c := Kd.R_slice hR
 have hz4 := hb4.size
 have hbp := (hb4.block (w.heap.size + 1) (by omega)).trans HP3.out
 have q0 : w4.cell? ⟨w.heap.size + 1, 0, none⟩ = some (.string ⟨#[82]⟩) := (blk_cell hbp 0).trans rfl
 have q1 : w4.cell? ⟨w.heap.size + 1, 1, none⟩ = some (.slice (some ⟨w.heap.size, 0, none⟩) 1 1) := (blk_cell hbp 1).trans rfl
 have hlt : w.heap.size + 1 < w4.heap.size := by omega
 have hne : w.heap.size + 1 ≠ w4.heap.size := by omega
 have hne2 : w4.heap.size ≠ w.heap.size + 1 := by omega
 have HG4 := Aside0.mk (Kd.C_below HG3.out hb4)
 have HB4 := Aside0.mk (below_then HB3.out HB3.out.size hb4)
 clear hb4 hR hbp HG3 HB3 HP3
 go_wp2_with fail
 refine (princs_Same.calls 2 ⟨#[82]⟩ (some ⟨w.heap.size, 0, none⟩) 1 [⟨#[97, 110, 110]⟩] ⟨#[82]⟩ (some ⟨w.heap.size, 0, none⟩) 1 [⟨#[97, 110, 110]⟩] true _ (Kd.C_alloc HG4.out _) (Nat.le_refl 1) (Kd.C_alloc HG4.out _) (Nat.le_refl 1) ?_).mono ?_
 ·rw [show (2 : Nat) = [(⟨#[97, 110, 110]⟩ : ByteArray)].length + 1 from rfl, princs_Same.tells _ _ _ _ (by simp)]
  simp [alikeP]
 rintro e w5 ⟨rfl, hb5⟩
 have HB5 := Aside0.mk (below_then (below_alloc HB4.out (.cells #[.string ⟨#[]⟩, .slice A9 0 c9] 43)) (by have := HB4.out.size; simp; omega) hb5)
 clear hb5
 go_wp2
 go_ret
 exact ⟨rfl, HB5.out⟩

end Go.Proofs.Ytalcfnhcenpniaa.XT
