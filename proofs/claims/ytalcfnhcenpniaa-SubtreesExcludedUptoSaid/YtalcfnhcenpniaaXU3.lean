-- printed by wip/xprint.py (a scratch copy of the kit's print, with contracts by hand)
import Derived.Test.YtalcfnhcenpniaaXU0
import Derived.Test.YtalcfnhcenpniaaXU2
namespace Go.Proofs.Ytalcfnhcenpniaa.XU
open Go.RowKit Go.Proofs.YtalcfnhcenpniaaW.PrintWords Go.Proofs.YtalcfnhcenpniaaW.PrintLast Go.Proofs.YtalcfnhcenpniaaW.PrintMore
attribute [local go_sem] max2_int min2_int max_two min_two max_three min_three max_four min_four   -- for this text's walks alone
set_option linter.unusedVariables false
set_option linter.unusedSimpArgs false

/-! ### subtrees_cloned: function 27 (by hand) -/
namespace Cln
theorem h35 : Kd.Heap k35 := Kd.heap_iso _ (Kd.heap_pair (Kd.heap_slice 3 (Kd.heap_int .i64)) Kd.heap_string)
theorem hN : Kd.Heap (Kd.slice 35 k35) := Kd.heap_slice 35 h35
theorem infoN : (Try.prog.info? 27).map (fun i => (i.zero, i.size, i.bytes)) = some (some (.slice none 0 0), 1, 24) := by kernel_rfl
theorem infoA : (Try.prog.info? 35).map (fun i => (i.zero, i.size, i.bytes)) = some (some (.agg #[.slice none 0 0, .string ⟨#[]⟩]), 2, 40) := by kernel_rfl
set_option maxHeartbeats 4000000 in
set_option maxRecDepth 100000 in
/-- slices.Clone of names: a row of one's own, whose elements lead where they led. -/
theorem cloneN_some (ad : Addr) (c0 : Nat) (l0 : List (List S35)) (w0 w : World) (hr0 : Kd.C (Kd.slice 35 k35) w0 (some ad) l0.length l0) (hb0 : Below w0.heap.size w0 w) (hl : l0.length ≤ 1099511627776) :
    Calls Try.prog 48 #[.slice (some ad) l0.length c0] w fun e w' => ∃ v, e = .returned v ∧ (Kd.st (Kd.slice 35 k35) w0).R 27 w' w.heap.size (fun _ => True) v (l0.map .came) ∧ Below w.heap.size w w' := by
  have HF := Aside0.mk (ReadsRow.imp_ (Kd.st_came hr0) hb0 (fun _ _ h => h))
  clear hr0 hb0
  have hnil : ∀ a n c w, (binOp .eql 23 (.slice a n c) (.slice none 0 0)).run Try.prog w = .ok (.bool a.isNone) w := fun a n c w => Lib.run_eql_slice_nil w _ _ a n c 0 0 Try.underlying23
  go_enter Try.func48, Try.ntmps48
  go_wp2_with (at_builtin; refine Kd.R_append_rows (Kd.st (Kd.slice 35 k35) w0) (Rr := Kd.cameR (Kd.slice 35 k35) w0) (w0 := w) w.heap.size rfl _ _ 23 27 (.slice none 0 0) 24 rfl Try.underlying23 infoN rfl (show 0 < 1 by decide) (by decide) _ [] (l0.map .came) (some ad) l0.length c0 (fun _ => True) (fun _ => False) rfl rfl ?aO ?aR ?aM ?aP ?aF ?aB ?aS ?aL ?_)
  case aO => exact Kd.R_empty _ _ w (Nat.le_refl _) trivial
  case aR => exact ReadsRow.imp_ HF.out (below_alloc (Below.refl _ _) _) (fun _ _ h => h)
  case aM => exact fun _ _ h => Kd.cameR_M h
  case aP => exact fun _ hk => hk.elim
  case aF => exact fun _ _ => trivial
  case aB => exact below_alloc (Below.refl _ _) _
  case aS => simp
  case aL => simp; omega
  intro v1 w1 hn hb _ _
  have HN := Aside0.mk hn
  have HB := Aside0.mk hb
  clear hn hb
  go_wp2
  go_ret
  exact ⟨_, rfl, HN.out, HB.out⟩
set_option maxHeartbeats 4000000 in
set_option maxRecDepth 100000 in
theorem cloneN_none (c0 : Nat) (w : World) :
    Calls Try.prog 48 #[.slice none 0 c0] w fun e w' => e = .returned (.slice none 0 0) ∧ Below w.heap.size w w' := by
  have hnil : ∀ a n c w, (binOp .eql 23 (.slice a n c) (.slice none 0 0)).run Try.prog w = .ok (.bool a.isNone) w := fun a n c w => Lib.run_eql_slice_nil w _ _ a n c 0 0 Try.underlying23
  go_enter Try.func48, Try.ntmps48
  go_wp2
  go_ret
  exact ⟨rfl, Below.refl _ _⟩
set_option maxHeartbeats 4000000 in
set_option maxRecDepth 100000 in
/-- slices.Clone of parts: a row of one's own, whose elements lead where they led. -/
theorem cloneA_some (ad : Addr) (c0 : Nat) (l0 : List S35) (w0 w : World) (hr0 : Kd.C k35 w0 (some ad) l0.length l0) (hb0 : Below w0.heap.size w0 w) (hl : l0.length ≤ 1099511627776) :
    Calls Try.prog 49 #[.slice (some ad) l0.length c0] w fun e w' => ∃ v, e = .returned v ∧ (Kd.st k35 w0).R 35 w' w.heap.size (fun _ => True) v (l0.map .came) ∧ Below w.heap.size w w' := by
  have HF := Aside0.mk (ReadsRow.imp_ (Kd.st_came hr0) hb0 (fun _ _ h => h))
  clear hr0 hb0
  have hnil : ∀ a n c w, (binOp .eql 27 (.slice a n c) (.slice none 0 0)).run Try.prog w = .ok (.bool a.isNone) w := fun a n c w => Lib.run_eql_slice_nil w _ _ a n c 0 0 Try.underlying27
  go_enter Try.func49, Try.ntmps49
  go_wp2_with (at_builtin; refine Kd.R_append_rows (Kd.st k35 w0) (Rr := Kd.cameR k35 w0) (w0 := w) w.heap.size rfl _ _ 27 35 (.agg #[.slice none 0 0, .string ⟨#[]⟩]) 40 rfl Try.underlying27 infoA rfl (show 0 < 2 by decide) (by decide) _ [] (l0.map .came) (some ad) l0.length c0 (fun _ => True) (fun _ => False) rfl rfl ?aO ?aR ?aM ?aP ?aF ?aB ?aS ?aL ?_)
  case aO => exact Kd.R_empty _ _ w (Nat.le_refl _) trivial
  case aR => exact ReadsRow.imp_ HF.out (below_alloc (Below.refl _ _) _) (fun _ _ h => h)
  case aM => exact fun _ _ h => Kd.cameR_M h
  case aP => exact fun _ hk => hk.elim
  case aF => exact fun _ _ => trivial
  case aB => exact below_alloc (Below.refl _ _) _
  case aS => simp
  case aL => simp; omega
  intro v1 w1 hn hb _ _
  have HN := Aside0.mk hn
  have HB := Aside0.mk hb
  clear hn hb
  go_wp2
  go_ret
  exact ⟨_, rfl, HN.out, HB.out⟩
set_option maxHeartbeats 4000000 in
set_option maxRecDepth 100000 in
theorem cloneA_none (c0 : Nat) (w : World) :
    Calls Try.prog 49 #[.slice none 0 c0] w fun e w' => e = .returned (.slice none 0 0) ∧ Below w.heap.size w w' := by
  have hnil : ∀ a n c w, (binOp .eql 27 (.slice a n c) (.slice none 0 0)).run Try.prog w = .ok (.bool a.isNone) w := fun a n c w => Lib.run_eql_slice_nil w _ _ a n c 0 0 Try.underlying27
  go_enter Try.func49, Try.ntmps49
  go_wp2
  go_ret
  exact ⟨rfl, Below.refl _ _⟩
theorem none_nil {α : Type} {d : Kd α} {w : World} {l : List α} (h : d.C w none l.length l) : l = [] := by
  by_cases hp : 0 < l.length
  · obtain ⟨ad, e, _⟩ := h.2.2 hp
    cases e
  · exact List.eq_nil_of_length_eq_zero (by omega)
theorem cloneN (A0 : Option Addr) (c0 : Nat) (l0 : List (List S35)) (w0 w : World) (hr0 : Kd.C (Kd.slice 35 k35) w0 A0 l0.length l0) (hb0 : Below w0.heap.size w0 w) (hl : l0.length ≤ 1099511627776) :
    Calls Try.prog 48 #[.slice A0 l0.length c0] w fun e w' => ∃ v, e = .returned v ∧ (Kd.st (Kd.slice 35 k35) w0).R 27 w' w.heap.size (fun _ => True) v (l0.map .came) ∧ Below w.heap.size w w' := by
  cases A0 with
  | some ad => exact cloneN_some ad c0 l0 w0 w hr0 hb0 hl
  | none =>
    obtain rfl := none_nil hr0
    exact (cloneN_none c0 w).mono fun e w' ⟨h1, h2⟩ => ⟨_, h1, Kd.R_nil _ _ _ _ _, h2⟩
theorem cloneA (A0 : Option Addr) (c0 : Nat) (l0 : List S35) (w0 w : World) (hr0 : Kd.C k35 w0 A0 l0.length l0) (hb0 : Below w0.heap.size w0 w) (hl : l0.length ≤ 1099511627776) :
    Calls Try.prog 49 #[.slice A0 l0.length c0] w fun e w' => ∃ v, e = .returned v ∧ (Kd.st k35 w0).R 35 w' w.heap.size (fun _ => True) v (l0.map .came) ∧ Below w.heap.size w w' := by
  cases A0 with
  | some ad => exact cloneA_some ad c0 l0 w0 w hr0 hb0 hl
  | none =>
    obtain rfl := none_nil hr0
    exact (cloneA_none c0 w).mono fun e w' ⟨h1, h2⟩ => ⟨_, h1, Kd.R_nil _ _ _ _ _, h2⟩
/-- Names that can be cloned. -/
def smallC (l : List (List S35)) : Prop := l.length ≤ 1099511627776 ∧ ∀ x ∈ l, x.length ≤ 1099511627776 ∧ ∀ y ∈ x, y.f0.length < 8796093022208
abbrev dN : Kd (List S35) := Kd.slice 35 k35
set_option maxHeartbeats 8000000 in
set_option maxRecDepth 100000 in
theorem cloned (A0 : Option Addr) (c0 : Nat) (l0 : List (List S35)) (w : World) (hr0 : Kd.C (Kd.slice 35 k35) w A0 l0.length l0) (hs : smallC l0) :
    Calls Try.prog 27 #[.slice A0 l0.length c0] w fun e w' => ∃ v, e = .returned v ∧ (Kd.slice 35 k35).R 27 w' w.heap.size (fun _ => True) v l0 ∧ Below w.heap.size w w' := by
  have hu := Try.underlying35
  have C0 := Aside0.mk (cloneN A0 c0 l0 w w hr0 (Below.refl _ _) hs.1)
  have HS := Aside0.mk hs
  clear hr0 hs
  go_enter Try.func27, Try.ntmps27
  go_wp2_with fail
  refine C0.out.mono ?_
  rintro e w1 ⟨v0, rfl, hR0, hb0⟩
  obtain ⟨Av, cv, rfl⟩ := Kd.R_slice hR0
  rw [List.length_map] at hR0 ⊢
  rw [← Kd.stage_zero] at hR0
  have HR := Aside0.mk hR0
  have HB := Aside0.mk hb0
  clear hR0 hb0 C0
  go_wp2
  go_loopw [4, 5, 6, 7, 12] (fun v4 v5 v6 v7 v12 wr => ∃ i : Nat, i ≤ l0.length ∧ v12 = .int .i64 i ∧ Aside0 ((Kd.st dN w).R 27 wr w.heap.size (fun _ => True) (.slice Av l0.length cv) (Kd.stage l0 i)) ∧ Aside0 (Below w.heap.size w wr)) (fun _ _ _ _ v12 _ => l0.length - (intOf v12).toNat)
  case atStart => exact ⟨0, Nat.zero_le _, rfl, HR, HB⟩
  case round =>
    obtain ⟨wo, rfl⟩ : ∃ wo : World, wo = wr := ⟨_, rfl⟩
    obtain ⟨i, hi, rfl, HR, HB⟩ := hrel
    by_cases hlt : i < l0.length
    · have hltz : (i : Int) < (l0.length : Int) := by omega
      have hi0 : (0 : Int) ≤ (i : Int) := by omega
      have hll := HS.out.1
      obtain ⟨G, cap, he, hG, hGz, _⟩ := Kd.R_form HR.out (by rw [Kd.stage_length]; omega)
      rw [Kd.stage_length] at he
      injection he with he1 he2 he3
      subst he1; subst he3
      obtain ⟨c, hcl, hM, hcc, hfr⟩ := Kd.R_elem HR.out (.cells []) (i : Int) hi0 hltz
      rw [Int.toNat_natCast, Kd.stage_at i hlt] at hM
      obtain ⟨A1, c1, rfl, hl1, hC1⟩ := (show dN.K w l0[i] c from hM)
      have hcell : wo.cell? ⟨G, i, none⟩ = some (.slice A1 l0[i].length c1) := by have h2 := hcc 0 _ rfl; rwa [Int.toNat_natCast, show i * (Kd.st dN w).sz + 0 = i from Nat.mul_one i] at h2
      have hfroz : wo.frozen? ⟨G, i, none⟩ = false := by have h2 := hfr 0; rwa [Int.toNat_natCast, show i * (Kd.st dN w).sz + 0 = i from Nat.mul_one i] at h2
      have hx := HS.out.2 l0[i] (List.getElem_mem _)
      have HX := Aside0.mk hx
      have HCX := Aside0.mk (cloneA A1 c1 l0[i] w wo hC1 HB.out hx.1)
      clear hM hcc hfr hcl hl1 hC1 hx
      generalize hxx : l0[i] = x at *
      have HXX := Aside0.mk hxx
      clear hxx
      go_wp2_with fail
      refine HCX.out.mono ?_
      clear HCX
      rintro e w2 ⟨v, rfl, hRv, hb2⟩
      obtain ⟨Ai, ci, rfl⟩ := Kd.R_slice hRv
      rw [List.length_map] at hRv ⊢
      have hcell2 : w2.cell? ⟨G, i, none⟩ = some (.slice A1 x.length c1) := (hb2.cell (p := ⟨G, i, none⟩) hGz).trans hcell
      have hfroz2 : w2.frozen? ⟨G, i, none⟩ = false := (hb2.frozen (p := ⟨G, i, none⟩) hGz).trans hfroz
      have hRO := Kd.R_elder' HR.out (Kd.R_base hRv) hb2
      have hRI := Kd.R_new' hRv (Kd.R_lt HR.out)
      rw [← Kd.stage_zero] at hRI
      have hB2 := below_then HB.out HB.out.size hb2
      have hRO2 := Kd.st_put hRO i hlt (c := [.slice A1 x.length c1]) rfl (fun j u hj => by
        cases j with
        | zero =>
          have : Value.slice A1 x.length c1 = u := by simpa using hj
          rw [← this, show i * dN.sz + 0 = i from Nat.mul_one i]
          exact hcell2
        | succ j => simp at hj) (show 0 < 1 by decide) (.slice Ai x.length ci) (x' := .cells [.slice Ai x.length ci]) (okp := fun _ => False) ⟨rfl, rfl, by simp; rfl⟩ (fun _ h => h.elim)
      rw [show i * dN.sz = i from Nat.mul_one i] at hRO2
      have hRI2 := Kd.R_far (p := ⟨G, i, none⟩) (Kd.R_lower hRI HB.out.size) (fun k hk he => hk.2 (by rw [he]; rfl)) (.slice Ai x.length ci)
      have hB3 := hB2.setCell (p := ⟨G, i, none⟩) (by exact hG) (.slice Ai x.length ci)
      have HRO := Aside0.mk hRO2
      have HRI := Aside0.mk hRI2
      have HB3 := Aside0.mk hB3
      have HB2 := Aside0.mk hb2
      clear hRO hRI hRO2 hRI2 hB2 hB3 hRv hb2 HR
      go_wp2_with fail
      go_loopw [6, 7, 27] (fun v6 v7 v27 wr => ∃ k : Nat, k ≤ x.length ∧ v27 = .int .i64 k ∧ Aside0 ((Kd.st dN w).R 27 wr w.heap.size (fun q => True ∧ some q ≠ (Value.slice Ai x.length ci).ownBlock) (.slice (some ⟨G, 0, none⟩) l0.length cv) ((Kd.stage l0 i).set i (.cells [.slice Ai x.length ci]))) ∧ Aside0 ((Kd.st k35 w).R 35 wr w.heap.size (fun q => True ∧ some q ≠ (Value.slice (some ⟨G, 0, none⟩) l0.length cv).ownBlock) (.slice Ai x.length ci) (Kd.stage x k)) ∧ Aside0 (Below w.heap.size w wr)) (fun _ _ v27 _ => x.length - (intOf v27).toNat)
      case atStart => exact ⟨0, Nat.zero_le _, rfl, HRO, HRI, HB3⟩
      case round =>
        obtain ⟨wi, rfl⟩ : ∃ wi : World, wi = wr := ⟨_, rfl⟩
        clear HRO HRI HB3 HB2 hcell hcell2 hfroz hfroz2
        obtain ⟨k, hk, rfl, HRO, HRI, HB3⟩ := hrel
        by_cases hkt : k < x.length
        · have hktz : (k : Int) < (x.length : Int) := by omega
          have hk0 : (0 : Int) ≤ (k : Int) := by omega
          have hxl := HX.out.1
          obtain ⟨g, capi, he, hg, hgz, _⟩ := Kd.R_form HRI.out (by rw [Kd.stage_length]; omega)
          rw [Kd.stage_length] at he
          injection he with he1 he2 he3
          subst he1; subst he3
          obtain ⟨c, hcl, hM, hcc, hfr⟩ := Kd.R_elem HRI.out (.cells []) (k : Int) hk0 hktz
          rw [Int.toNat_natCast, Kd.stage_at k hkt] at hM
          obtain ⟨A2, c2, rfl, hl2, hC2⟩ := k35_open (show k35.K w x[k] c from hM)
          have d0 : wi.cell? ⟨g, k * 2, none⟩ = some (.slice A2 x[k].f0.length c2) := by have h2 := hcc 0 _ rfl; rwa [Int.toNat_natCast] at h2
          have d1 : wi.cell? ⟨g, k * 2 + 1, none⟩ = some (.string x[k].f1) := by have h2 := hcc 1 _ rfl; rwa [Int.toNat_natCast] at h2
          have f0 : wi.frozen? ⟨g, k * 2, none⟩ = false := by have h2 := hfr 0; rwa [Int.toNat_natCast] at h2
          obtain ⟨c', _, hM', hcc', _⟩ := Kd.R_elem HRO.out (.cells []) (i : Int) hi0 hltz
          rw [Int.toNat_natCast, List.getD_eq_getElem?_getD, List.getElem?_set_self (by rw [Kd.stage_length]; exact hlt)] at hM'
          obtain rfl : c' = [.slice (some ⟨g, 0, none⟩) x.length ci] := hM'.1
          have hcG : wi.cell? ⟨G, i, none⟩ = some (.slice (some ⟨g, 0, none⟩) x.length ci) := by have h2 := hcc' 0 _ rfl; rwa [Int.toNat_natCast, show i * (Kd.st dN w).sz + 0 = i from Nat.mul_one i] at h2
          have hGz3 : G < wi.heap.size := World.block_lt_of_cell? wi _ hcG
          have hGne : G ≠ wi.heap.size := by omega
          have hgG : g ≠ G := fun h => (HRI.out.1 g rfl).2 (by rw [h]; rfl)
          have hGg : G ≠ g := fun h => hgG h.symm
          have hng : wi.heap.size ≠ g := by omega
          have hgne : g ≠ wi.heap.size := by omega
          have hoid := HX.out.2 x[k] (List.getElem_mem _)
          have HCI := Aside0.mk (fun W (hb : Below wi.heap.size wi W) => slices_Clone_int_int.calls A2 c2 x[k].f0 x[k].f0 W (Kd.C_below hC2 (HB3.out.trans (hb.mono HB3.out.size))) hl2 (by unfold slices_Clone_int_int.f; exact if_pos (by omega)))
          have HDAT := Aside0.mk (⟨hcl, hcc⟩ : _ ∧ _)
          clear hM hcc hfr hcl hM' hcc' hl2 hC2 hoid
          generalize hyy : x[k] = y at *
          have HYY := Aside0.mk hyy
          clear hyy
          go_wp2_with fail
          have hq0 : (wi.alloc (.cells #[.slice A2 y.f0.length c2, .string y.f1] 35)).cell? ⟨G, i, none⟩ = some (.slice (some ⟨g, 0, none⟩) x.length ci) := ((below_alloc (Below.refl wi.heap.size wi) _).cell (p := ⟨G, i, none⟩) hGz3).trans hcG
          have hq1 : (wi.alloc (.cells #[.slice A2 y.f0.length c2, .string y.f1] 35)).cell? ⟨wi.heap.size, 0, none⟩ = some (.slice A2 y.f0.length c2) := by simp
          go_region_held3 (fun w' => w'.cell? ⟨G, i, none⟩ = some (.slice (some ⟨g, 0, none⟩) x.length ci) ∧ w'.cell? ⟨wi.heap.size, 0, none⟩ = some (.slice A2 y.f0.length c2)) (first | exact ⟨hq0, hq1⟩ | exact ⟨hp0, hp1⟩ | exact ⟨far_cell hgG hp0, far_cell (Ne.symm hng) hp1⟩ | (simp [*]; done)) (first | (go_at_call 50; refine (HCI.out _ (below_drew (below_alloc (Below.refl _ _) _))).mono ?_; rintro e w6 ⟨vo, rfl, hRo, hb6⟩; obtain ⟨Ao, co, rfl⟩ := Kd.R_slice hRo; have hp0 := (hb6.cell (p := ⟨G, i, none⟩) (show G < (wi.alloc _).heap.size by simp; omega)).trans hq0; have hp1 := (hb6.cell (p := ⟨wi.heap.size, 0, none⟩) (show wi.heap.size < (wi.alloc _).heap.size by simp)).trans hq1; have e0 := (hb6.cell (p := ⟨g, k * 2, none⟩) (show g < (wi.alloc _).heap.size by simp; omega)).trans (((below_alloc (Below.refl wi.heap.size wi) (.cells #[.slice A2 y.f0.length c2, .string y.f1] 35)).cell (p := ⟨g, k * 2, none⟩) hgz).trans d0); have e1 := (hb6.frozen (p := ⟨g, k * 2, none⟩) (show g < (wi.alloc _).heap.size by simp; omega)).trans (((below_alloc (Below.refl wi.heap.size wi) (.cells #[.slice A2 y.f0.length c2, .string y.f1] 35)).frozen (p := ⟨g, k * 2, none⟩) hgz).trans f0)) | fail)
          have hz6 := hb6.size
          simp at hz6
          have hbW : Below wi.heap.size wi w6 := below_then (below_drew (below_alloc (Below.refl wi.heap.size wi) (.cells #[.slice A2 y.f0.length c2, .string y.f1] 35))) (by simp) hb6
          have RO1 := Kd.R_far (p := ⟨g, k * 2, none⟩) (Kd.R_below HRO.out hbW) (fun q hq he => hq.2 (by rw [he]; rfl)) (.slice Ao y.f0.length co)
          have hg0 := Kd.R_lower (base' := w.heap.size) (Kd.R_mono (ok' := fun q => wi.heap.size < q) (Kd.R_bound hRo) (fun q hq => by have h2 : (wi.alloc (.cells #[.slice A2 y.f0.length c2, .string y.f1] 35)).drew.heap.size ≤ q := hq.2.1; simp at h2; omega)) (show w.heap.size ≤ (wi.alloc (.cells #[.slice A2 y.f0.length c2, .string y.f1] 35)).drew.heap.size by have := HB3.out.size; simp; omega)
          have RI1 := Kd.st_put (Kd.R_below HRI.out hbW) k hkt (c := [.slice A2 y.f0.length c2, .string y.f1]) rfl (fun j u hj => (hbW.cell (p := ⟨g, k * 2 + j, none⟩) hgz).trans (by have h2 := HDAT.out.2 j u hj; rwa [Int.toNat_natCast] at h2)) (show 0 < 2 by decide) (.slice Ao y.f0.length co) (x' := .made y) (okp := fun q => wi.heap.size < q) (show k35.M w6 w.heap.size _ y [.slice Ao y.f0.length co, .string y.f1] from k35_mkM _ _ _ y hg0) (fun q hq => ⟨⟨trivial, fun he => by have h2 : some q = some G := he; injection h2 with h2; omega⟩, by omega⟩)
          have hst := Kd.stage_succ k hkt
          rw [HYY.out] at hst
          rw [← hst, show k * k35.sz = k * 2 from rfl] at RI1
          have B1 := (below_then HB3.out HB3.out.size hbW).setCell (p := ⟨g, k * 2, none⟩) (show w.heap.size ≤ g from hg) (.slice Ao y.f0.length co)
          have HRO1 := Aside0.mk RO1
          have HRI1 := Aside0.mk RI1
          have HB1 := Aside0.mk B1
          clear RO1 RI1 B1 hg0 hst hbW hb6 hRo hp0 hp1 e0 e1 hq0 hq1 d0 d1 f0 HDAT HCI HYY hz6
          go_wp2
          go_roundw
          case rel => exact ⟨k + 1, by omega, by go_num, HRO1, HRI1, HB1⟩
          case measure => simp [intOf]; omega
        · have hktz : ¬ (k : Int) < (x.length : Int) := by omega
          obtain rfl : k = x.length := by omega
          have hRI := HRI.out
          rw [Kd.stage_all] at hRI
          have hmade := Kd.st_made hRI
          have HR2 := Kd.st_tell (Kd.R_mono HRO.out (ok' := fun _ => True) (fun _ _ => trivial)) i hlt (by rw [List.getElem?_set_self (by rw [Kd.stage_length]; exact hlt)]) (x := x) (okp := fun q => True ∧ some q ≠ (Value.slice (some ⟨G, 0, none⟩) l0.length cv).ownBlock) (show dN.M wi w.heap.size _ x [.slice Ai x.length ci] from ⟨_, rfl, hmade⟩) (fun q hq => ⟨trivial, fun he => hq.2 (by rw [he]; rfl)⟩)
          have hst := Kd.stage_succ i hlt
          rw [HXX.out] at hst
          rw [List.set_set, ← hst] at HR2
          have HRn := Aside0.mk HR2
          clear hRI hmade HR2 hst
          go_wp2
          go_roundw
          case rel => exact ⟨i + 1, by omega, by go_num, HRn, HB3⟩
          case measure => simp [intOf]; omega
    · have hltz : ¬ (i : Int) < (l0.length : Int) := by omega
      obtain rfl : i = l0.length := by omega
      go_wp2
      go_ret
      have h := HR.out
      rw [Kd.stage_all] at h
      exact ⟨_, rfl, Kd.st_made h, HB.out⟩
end Cln
def smallC (l : List (List S35)) : Bool := decide (l.length ≤ 1099511627776) && l.all (fun x => decide (x.length ≤ 1099511627776) && x.all (fun y => decide (y.f0.length < 8796093022208)))
theorem smallC_C {l : List (List S35)} (h : smallC l = true) : Cln.smallC l := by
  unfold smallC at h
  simp only [Bool.and_eq_true, decide_eq_true_eq, List.all_eq_true] at h
  exact ⟨h.1, fun x hx => ⟨(h.2 x hx).1, fun y hy => (h.2 x hx).2 y hy⟩⟩
def subtrees_cloned.f (l0 : List (List (S35))) : Option ((List (List (S35)))) := if smallC l0 = true then some l0 else none
theorem subtrees_cloned.calls (A0 : Option Addr) (c0 : Nat) (l0 : List (List (S35))) (r : List (List (S35))) (w : World) (hr0 : Kd.C (Kd.slice 35 k35) w A0 l0.length l0) (hc0 : l0.length ≤ c0) (h : subtrees_cloned.f l0 = some r) :
    Calls Try.prog 27 #[.slice A0 l0.length c0] w fun e w' => ∃ v0_ : Value, e = .returned (v0_) ∧ Kd.N (Kd.slice 35 k35) 27 w' w.heap.size (fun k_ => (w.heap.size ≤ k_)) v0_ r ∧ Below w.heap.size w w' := by
  unfold subtrees_cloned.f at h
  split at h
  · rename_i hs
    cases h
    exact (Cln.cloned A0 c0 l0 w hr0 (smallC_C hs)).mono (fun e w' h => by
      obtain ⟨v, h1, h2, h3⟩ := h
      exact ⟨v, h1, Kd.N_mono (Kd.R_N (Kd.R_bound h2)) (fun k hk => hk.2.1), h3⟩)
  · cases h

end Go.Proofs.Ytalcfnhcenpniaa.XU
