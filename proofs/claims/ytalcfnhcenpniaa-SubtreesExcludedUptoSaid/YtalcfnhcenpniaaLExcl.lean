/- The law SubtreesExcluded, in the second form: walked by hand. No condition but the form's own bound. -/
import Derived.Test.YtalcfnhcenpniaaPu
import Derived.Test.YtalcfnhcenpniaaSt
import Derived.Deep.DeepMust
set_option linter.unusedVariables false
set_option linter.unusedSimpArgs false
namespace Go.Proofs.Ytalcfnhcenpniaa
open Go.RowKit Go.Proofs.YtalcfnhcenpniaaW.PrintWords Go.Proofs.Ytalcfnhcenpniaa.XU Go.Proofs.Ytalcfnhcenpniaa.OpU
namespace Lex
open Pu
theorem infoA : (Try.prog.info? 35).map (fun i => (i.zero, i.size, i.bytes)) = some (some (.agg #[.slice none 0 0, .string ⟨#[]⟩]), 2, 40) := by kernel_rfl
theorem infoL : (Try.prog.info? 23).map (fun i => (i.zero, i.size, i.bytes)) = some (some (.slice none 0 0), 1, 24) := by kernel_rfl
theorem not_below (p : List (List (List S35))) (x : List (List S35)) (n m : List S35) : allowedN p (x ++ [n]) (n ++ m) = false := by
  unfold allowedN amongN
  rw [List.any_append]
  simp [under_self]
theorem not_self (p : List (List (List S35))) (x : List (List S35)) (n : List S35) : allowedN p (x ++ [n]) n = false := by
  have := not_below p x n []
  rwa [List.append_nil] at this
theorem not_none (p : List (List (List S35))) (n : List S35) : allowedN (p ++ [[]]) [] n = false := by
  unfold allowedN amongN
  rw [List.all_append]
  simp
set_option maxHeartbeats 8000000 in
set_option maxRecDepth 100000 in
theorem walk (w : World) (p : List (List (List S35))) (x : List (List S35)) (B0 : Option Addr) (d0 : Nat) (B1 : Option Addr) (d1 : Nat) (A1 : Option Addr) (c1 : Nat) (l1 : List S35) (A2 : Option Addr) (c2 : Nat) (l2 : List S35)
    (hp : Kd.C (Kd.slice 27 (Kd.slice 35 k35)) w B0 p.length p) (hd0 : p.length ≤ d0) (hbp : Op2.sumB bL p ≤ 1048576) (hx : Kd.C (Kd.slice 35 k35) w B1 x.length x) (hd1 : x.length ≤ d1) (hbx : Op2.sumB bN x ≤ 1048576)
    (hr1 : Kd.C k35 w A1 l1.length l1) (hc1 : l1.length ≤ c1) (hb1 : Op2.sumB b35 l1 ≤ 1048576) (hb1p : Op2.sumB b35 l1 + 1 ≤ 1048576) (hr2 : Kd.C k35 w A2 l2.length l2) (hc2 : l2.length ≤ c2) (hb2 : Op2.sumB b35 l2 ≤ 1048576) :
    Calls Try.prog 6 #[.agg #[.slice B0 p.length d0, .slice B1 x.length d1], .slice A1 l1.length c1, .slice A2 l2.length c2] w fun e w' => e = .returned (.bool true) ∧ Below w.heap.size w w' := by
  have hu := Try.underlying25
  have hl1 := (sN l1 hb1).2.1
  have hl2 := (sN l2 hb2).2.1
  have hlp := (sP p hbp).2
  have hs1 := (sN l1 hb1).1
  have hs2 := (sN l2 hb2).1
  have hsp := (sP p hbp).1
  have hsx := (sL x hbx).1
  have hb1' := hb1
  obtain ⟨b, K1, hK1⟩ := great_ev p x hlp
  have hg := hK1 K1 (Nat.le_refl _)
  have hb1n : Op2.sumB b35 l1 + 1 ≤ 1048576 := hb1p
  obtain ⟨k, hk⟩ := (narrow_ev p x [] [l1] hbp hbx (by simp [Op2.sumB]) (by show Op2.sumB b35 l1 + 1 + 0 ≤ 1048576; omega)).rounds
  obtain ⟨X, hX⟩ : ∃ X, X = x ++ [l1] := ⟨_, rfl⟩
  have hsX : smallL X = true := by rw [hX]; exact smallL_append hsx (by simp [smallL, hs1])
  have hN0 : (Pu.narrowed p []) = p := rfl
  rw [hN0, ← hX] at hk
  have hA1 : subtrees_Allowed.f p X (l1 ++ l2) = some false := by rw [allowed_some hsp hsX (smallN_append hs1 hs2), hX, not_below]
  have hA2 : subtrees_Allowed.f p X l1 = some false := by rw [allowed_some hsp hsX hs1, hX, not_self]
  have hA3 : subtrees_Allowed.f (p ++ [[]]) [] (l1 ++ l2) = some false := by rw [allowed_some (by unfold smallP at *; rw [List.all_append, hsp]; rfl) rfl (smallN_append hs1 hs2), not_none]
  have HH := Aside0.mk (fun W => warderlaw13_head.calls true W rfl)
  have HG := Aside0.mk (fun W (hb : Below w.heap.size w W) => warderlaw13_great.calls K1 B0 d0 p B1 d1 x b W (Kd.C_below hp hb) hd0 (Kd.C_below hx hb) hd1 hg)
  have HN := Aside0.mk (fun A c W (hb : Below w.heap.size w W) (h1 : Kd.C (Kd.slice 35 k35) W A 1 [l1]) (h1c : 1 ≤ c) => subtrees_Narrow.calls k B0 d0 p B1 d1 x none 0 [] A c [l1] p X W (Kd.C_below hp hb) hd0 (Kd.C_below hx hb) hd1 (Kd.C_nil _ _) (Nat.le_refl 0) h1 h1c hk)
  obtain ⟨M, hM⟩ : ∃ M, M = l1 ++ l2 := ⟨_, rfl⟩
  rw [← hM] at hA1 hA3
  have H1 := Aside0.mk (fun A3 c3 A4 c4 A5 c5 W (h3 : Kd.C (Kd.slice 27 (Kd.slice 35 k35)) W A3 p.length p) (h3c : p.length ≤ c3) (h4 : Kd.C (Kd.slice 35 k35) W A4 X.length X) (h4c : X.length ≤ c4) (h5 : Kd.C k35 W A5 M.length M) (h5c : M.length ≤ c5) => subtrees_Allowed.calls A3 c3 p A4 c4 X A5 c5 M false W h3 h3c h4 h4c h5 h5c hA1)
  have H2 := Aside0.mk (fun A3 c3 A4 c4 W (hb : Below w.heap.size w W) (h3 : Kd.C (Kd.slice 27 (Kd.slice 35 k35)) W A3 p.length p) (h3c : p.length ≤ c3) (h4 : Kd.C (Kd.slice 35 k35) W A4 X.length X) (h4c : X.length ≤ c4) => subtrees_Allowed.calls A3 c3 p A4 c4 X A1 c1 l1 false W h3 h3c h4 h4c (Kd.C_below hr1 hb) hc1 hA2)
  obtain ⟨Q, hQ⟩ : ∃ Q, Q = p ++ [[]] := ⟨_, rfl⟩
  rw [← hQ] at hA3
  have H3 := Aside0.mk (fun A3 c3 A5 c5 W (h3 : Kd.C (Kd.slice 27 (Kd.slice 35 k35)) W A3 Q.length Q) (h3c : Q.length ≤ c3) (h5 : Kd.C k35 W A5 M.length M) (h5c : M.length ≤ c5) => subtrees_Allowed.calls A3 c3 Q none 0 [] A5 c5 M false W h3 h3c (Kd.C_nil _ _) (Nat.le_refl 0) h5 h5c hA3)
  have F1 := Aside0.mk (Kd.F_of_C h35 hr1)
  have F2 := Aside0.mk (Kd.F_of_C h35 hr2)
  have FP := Aside0.mk (Kd.F_of_C (Kd.heap_slice 27 (Kd.heap_slice 35 h35)) hp)
  have R1 := Aside0.mk hr1
  have HC1 := Aside0.mk hc1
  have HQ := Aside0.mk hQ
  have HM := Aside0.mk hM
  clear hb1p hb1n hp hd0 hbp hx hd1 hbx hr1 hc1 hb1 hr2 hc2 hb2 hs1 hs2 hsp hsx hb1' hK1 hg hk hX hsX hN0 hA1 hA2 hA3 hM hQ
  go_enter Try.func6, Try.ntmps6
  go_wp2_with fail
  obtain ⟨V0, hV0⟩ : ∃ W : World, W = w.alloc (.cells #[.slice B0 p.length d0, .slice B1 x.length d1] 25) := ⟨_, rfl⟩
  rw [← hV0]
  have HV := Aside0.mk (show Below w.heap.size w V0 by rw [hV0]; exact below_alloc (Below.refl _ _) _)
  have HBX := Aside0.mk (show V0.heap[w.heap.size]? = some (.cells #[.slice B0 p.length d0, .slice B1 x.length d1] 25 (0, 0)) by rw [hV0]; exact heap_alloc_new w _)
  clear hV0
  refine (HH.out _).mono ?_
  clear HH
  rintro e w1 ⟨rfl, hb⟩
  have HB1 := Aside0.mk (below_then HV.out HV.out.size hb)
  have hbx := (hb.block w.heap.size (blk_lt HBX.out)).trans HBX.out
  have q0 : w1.cell? ⟨w.heap.size, 0, none⟩ = some (.slice B0 p.length d0) := (blk_cell hbx 0).trans rfl
  have q1 : w1.cell? ⟨w.heap.size, 1, none⟩ = some (.slice B1 x.length d1) := (blk_cell hbx 1).trans rfl
  have HBX1 := Aside0.mk hbx
  clear hb hbx HBX HV
  go_wp2_with fail
  refine (HG.out _ HB1.out).mono ?_
  clear HG
  rintro e w2 ⟨rfl, hb⟩
  have HB2 := Aside0.mk (below_then HB1.out HB1.out.size hb)
  have hbx := (hb.block w.heap.size (blk_lt HBX1.out)).trans HBX1.out
  have HBX2 := Aside0.mk hbx
  clear hb hbx HBX1 HB1
  cases b with
  | true =>
    go_wp2
    go_ret
    exact ⟨rfl, HB2.out⟩
  | false =>
    go_wp2_with (first | ((with_reducible refine gate_builtin (b := .append) (xs := #[.tmp 15, .tmp 16]) rfl ?_); at_builtin; refine Kd.N_append_rows k35 (w0 := w2) w2.heap.size rfl (.tmp 15) (.tmp 16) 27 35 (.agg #[.slice none 0 0, .string ⟨#[]⟩]) 40 rfl Try.underlying27 infoA rfl (by decide) (by decide) _ [] l1 A1 l1.length c1 (fun _ => True) (fun k => k < w.heap.size) rfl rfl ?aO ?aR ?aP ?aF ?aB ?aS ?aL ?_))
    case aO => exact Kd.N_empty _ _ w2 (Nat.le_refl _) trivial
    case aR => exact Kd.F_alloc (Kd.F_below F1.out HB2.out) _
    case aP => exact fun q hq => ⟨trivial, fun he => by
        have h2 : some q = some w2.heap.size := he
        injection h2 with h2
        have := HB2.out.size
        omega⟩
    case aF => exact fun _ _ => trivial
    case aB => exact (Below.refl _ _).alloc (Nat.le_refl _) _
    case aS => simp
    case aL => simp; omega
    intro v5 w4 hN hB _ _
    have HN4 := Aside0.mk (show Kd.N k35 35 w4 w2.heap.size (fun _ => True) v5 l1 from by simpa using hN)
    have HB4 := Aside0.mk hB
    clear hN hB
    go_wp2_with (first | ((with_reducible refine gate_builtin (b := .append) (xs := #[.tmp 17, .tmp 18]) rfl ?_); at_builtin; refine Kd.N_append_rows k35 (w0 := w2) w2.heap.size rfl (.tmp 17) (.tmp 18) 27 35 (.agg #[.slice none 0 0, .string ⟨#[]⟩]) 40 rfl Try.underlying27 infoA rfl (by decide) (by decide) v5 l1 l2 A2 l2.length c2 (fun _ => True) (fun k => k < w.heap.size) rfl rfl ?bO ?bR ?bP ?bF ?bB ?bS ?bL ?_))
    case bO => exact HN4.out
    case bR => exact Kd.F_below F2.out (below_then HB2.out HB2.out.size HB4.out)
    case bP => exact fun q hq => ⟨trivial, fun he => by
        have h2 := Kd.N_base HN4.out q he.symm
        have := HB2.out.size
        omega⟩
    case bF => exact fun _ _ => trivial
    case bB => exact HB4.out
    case bS => exact HB4.out.size
    case bL => omega
    intro v6 w5 hN hB _ _
    rw [← HM.out] at hN
    obtain ⟨A5, c5, rfl, h5c, h5⟩ := Kd.N_reads hN
    have HB5 := Aside0.mk (below_then HB2.out HB2.out.size hB)
    have hbx := (hB.block w.heap.size (blk_lt HBX2.out)).trans HBX2.out
    have q0 : w5.cell? ⟨w.heap.size, 0, none⟩ = some (.slice B0 p.length d0) := (blk_cell hbx 0).trans rfl
    have q1 : w5.cell? ⟨w.heap.size, 1, none⟩ = some (.slice B1 x.length d1) := (blk_cell hbx 1).trans rfl
    have hlt5 : w.heap.size < w5.heap.size := blk_lt hbx
    have HBX5 := Aside0.mk hbx
    have H5 := Aside0.mk h5
    have H5C := Aside0.mk h5c
    clear hN hB h5 h5c hbx HN4 HB4 HBX2 HB2
    go_wp2_with fail
    obtain ⟨V6, hV6⟩ : ∃ W : World, W = w5.alloc (.cells #[.slice A1 l1.length c1] 27) := ⟨_, rfl⟩
    rw [← hV6]
    have HV6 := Aside0.mk (show Below w5.heap.size w5 V6 by rw [hV6]; exact below_alloc (Below.refl _ _) _)
    have h16 : Kd.C (Kd.slice 35 k35) V6 (some ⟨w5.heap.size, 0, none⟩) 1 [l1] := by
      rw [hV6]
      exact Kd.C_one (Kd.slice 35 k35) 27 w5 _ l1 ⟨_, _, rfl, HC1.out, Kd.C_alloc (Kd.C_below R1.out HB5.out) _⟩
    have hB6 := below_then HB5.out HB5.out.size HV6.out
    refine (HN.out _ _ _ hB6 h16 (Nat.le_refl 1)).mono ?_
    clear HN hV6
    rintro e w7 ⟨v0, v1, rfl, hN0, hN1, hb⟩
    obtain ⟨A3, c3, rfl, h3c, h3⟩ := Kd.N_reads hN0
    obtain ⟨A4, c4, rfl, h4c, h4⟩ := Kd.N_reads hN1
    have hb57 := below_then HV6.out HV6.out.size hb
    have HB7 := Aside0.mk (below_then HB5.out HB5.out.size hb57)
    have H37 := Aside0.mk h3
    have H47 := Aside0.mk h4
    have H3C := Aside0.mk h3c
    have H4C := Aside0.mk h4c
    have H57 := Aside0.mk (Kd.C_below H5.out hb57)
    have hbx := (hb57.block w.heap.size hlt5).trans HBX5.out
    have q0 : w7.cell? ⟨w.heap.size, 0, none⟩ = some (.slice B0 p.length d0) := (blk_cell hbx 0).trans rfl
    have q1 : w7.cell? ⟨w.heap.size, 1, none⟩ = some (.slice B1 x.length d1) := (blk_cell hbx 1).trans rfl
    have hlt7 : w.heap.size < w7.heap.size := blk_lt hbx
    clear hN0 hN1 hb h3 h4 h3c h4c hb57 hbx h16 hB6 HV6 HBX5 H5 HB5 hlt5
    obtain ⟨V8, hV8⟩ : ∃ W : World, W = w7.alloc (.cells #[.slice A3 p.length c3, .slice A4 X.length c4] 25) := ⟨_, rfl⟩
    have HB8 := Aside0.mk (show Below w.heap.size w V8 by rw [hV8]; exact below_alloc HB7.out _)
    have H38 := Aside0.mk (show Kd.C (Kd.slice 27 (Kd.slice 35 k35)) V8 A3 p.length p by rw [hV8]; exact Kd.C_alloc H37.out _)
    have H48 := Aside0.mk (show Kd.C (Kd.slice 35 k35) V8 A4 X.length X by rw [hV8]; exact Kd.C_alloc H47.out _)
    have H58 := Aside0.mk (show Kd.C k35 V8 A5 M.length M by rw [hV8]; exact Kd.C_alloc H57.out _)
    have HBX8 := Aside0.mk (show V8.heap[w7.heap.size]? = some (.cells #[.slice A3 p.length c3, .slice A4 X.length c4] 25 (0, 0)) by rw [hV8]; exact heap_alloc_new w7 _)
    have HZ8 := Aside0.mk (show V8.heap.size = w7.heap.size + 1 by rw [hV8]; simp)
    clear HB7 H37 H47 H57
    go_wp2_with (first | ((with_reducible refine gate_builtin (b := .append) (xs := #[.tmp 24, .tmp 26]) rfl ?_); at_builtin; rw [← hV8]; clear hV8; refine Kd.N_append_rows (Kd.slice 27 (Kd.slice 35 k35)) (w0 := V8) V8.heap.size rfl (.tmp 24) (.tmp 26) 22 23 (.slice none 0 0) 24 rfl Try.underlying22 infoL rfl (by decide) (by decide) _ [] p B0 p.length d0 (fun _ => True) (fun k => k < w.heap.size) rfl rfl ?cO ?cR ?cP ?cF ?cB ?cS ?cL ?_))
    case cO =>
      show Kd.N (Kd.slice 27 (Kd.slice 35 k35)) 23 _ _ _ (.slice (some ⟨w7.heap.size + 1, 0, none⟩) 0 0) []
      rw [← HZ8.out]
      exact Kd.N_empty _ _ V8 (Nat.le_refl _) trivial
    case cR => exact Kd.F_alloc (Kd.F_below FP.out HB8.out) _
    case cP => exact fun q hq => ⟨trivial, fun he => by
        have h2 : some q = some (w7.heap.size + 1) := he
        injection h2 with h2
        have := HB8.out.size
        have := HZ8.out
        omega⟩
    case cF => exact fun _ _ => trivial
    case cB => exact (Below.refl _ _).alloc (Nat.le_refl _) _
    case cS => simp
    case cL => simp; omega
    intro v8 w9 hN hB _ _
    have HN9 := Aside0.mk (show Kd.N (Kd.slice 27 (Kd.slice 35 k35)) 23 w9 V8.heap.size (fun _ => True) v8 p from by simpa using hN)
    have HB9 := Aside0.mk hB
    clear hN hB
    go_wp2_with (first | ((with_reducible refine gate_builtin (b := .append) (xs := #[.tmp 27, .tmp 28]) rfl ?_); at_builtin; refine Kd.N_append (Kd.slice 27 (Kd.slice 35 k35)) (w0 := V8) V8.heap.size rfl (.tmp 27) (.tmp 28) 22 23 (.slice none 0 0) 24 rfl Try.underlying22 infoL rfl (by decide) (by decide) v8 p [] [.slice none 0 0] (fun _ => True) (fun _ => False) rfl rfl (Kd.FK_slice_mk (Nat.le_refl _) (Kd.F_nil _ _ _)) (fun _ h => h.elim) ?dF ?dO ?dB ?dS ?dL ?_))
    case dF => exact fun _ _ => trivial
    case dO => exact HN9.out
    case dB => exact HB9.out
    case dS => exact HB9.out.size
    case dL => omega
    intro v10 wa hN hB _ _
    rw [← HQ.out] at hN
    obtain ⟨A7, c7, rfl, h7c, h7⟩ := Kd.N_reads hN
    have HBa := Aside0.mk (below_then HB8.out HB8.out.size hB)
    have H3a := Aside0.mk (Kd.C_below H38.out hB)
    have H4a := Aside0.mk (Kd.C_below H48.out hB)
    have H5a := Aside0.mk (Kd.C_below H58.out hB)
    have H7 := Aside0.mk h7
    have H7C := Aside0.mk h7c
    have hbx := (hB.block w7.heap.size (blk_lt HBX8.out)).trans HBX8.out
    have q0 : wa.cell? ⟨w7.heap.size, 0, none⟩ = some (.slice A3 p.length c3) := (blk_cell hbx 0).trans rfl
    have q1 : wa.cell? ⟨w7.heap.size, 1, none⟩ = some (.slice A4 X.length c4) := (blk_cell hbx 1).trans rfl
    have hlta : w7.heap.size < wa.heap.size := blk_lt hbx
    have hne : w7.heap.size ≠ wa.heap.size := by omega
    have HBXa := Aside0.mk hbx
    clear hN hB h7 h7c hbx HN9 HB9 HBX8 H38 H48 H58 HB8
    go_wp2_with fail
    obtain ⟨Vb, hVb⟩ : ∃ W : World, W = wa.alloc (.cells #[.slice A7 Q.length c7, .slice none 0 0] 25) := ⟨_, rfl⟩
    rw [← hVb]
    have HBb := Aside0.mk (show Below w.heap.size w Vb by rw [hVb]; exact below_alloc HBa.out _)
    have hwab : Below wa.heap.size wa Vb := by rw [hVb]; exact below_alloc (Below.refl _ _) _
    have HBY := Aside0.mk (show Vb.heap[wa.heap.size]? = some (.cells #[.slice A7 Q.length c7, .slice none 0 0] 25 (0, 0)) by rw [hVb]; exact heap_alloc_new wa _)
    have H3b := Aside0.mk (Kd.C_below H3a.out hwab)
    have H4b := Aside0.mk (Kd.C_below H4a.out hwab)
    have H5b := Aside0.mk (Kd.C_below H5a.out hwab)
    have H7b := Aside0.mk (Kd.C_below H7.out hwab)
    have HBXb := Aside0.mk ((hwab.block w7.heap.size hlta).trans HBXa.out)
    clear hVb hwab H3a H4a H5a H7 HBXa HBa
    refine (H1.out A3 c3 A4 c4 A5 c5 Vb H3b.out H3C.out H4b.out H4C.out H5b.out H5C.out).mono ?_
    clear H1
    rintro e wc ⟨rfl, hb⟩
    have HBc := Aside0.mk (below_then HBb.out HBb.out.size hb)
    have H3c := Aside0.mk (Kd.C_below H3b.out hb)
    have H4c := Aside0.mk (Kd.C_below H4b.out hb)
    have H5c' := Aside0.mk (Kd.C_below H5b.out hb)
    have H7c' := Aside0.mk (Kd.C_below H7b.out hb)
    have hbx := (hb.block w7.heap.size (blk_lt HBXb.out)).trans HBXb.out
    have hby := (hb.block wa.heap.size (blk_lt HBY.out)).trans HBY.out
    have q2 : wc.cell? ⟨w7.heap.size, 0, none⟩ = some (.slice A3 p.length c3) := (blk_cell hbx 0).trans rfl
    have q3 : wc.cell? ⟨w7.heap.size, 1, none⟩ = some (.slice A4 X.length c4) := (blk_cell hbx 1).trans rfl
    have HBYc := Aside0.mk hby
    clear hb hbx hby H3b H4b H5b H7b HBXb HBY HBb
    go_wp2_with fail
    refine (H2.out A3 c3 A4 c4 _ HBc.out H3c.out H3C.out H4c.out H4C.out).mono ?_
    clear H2
    rintro e wd ⟨rfl, hb⟩
    have HBd := Aside0.mk (below_then HBc.out HBc.out.size hb)
    have H5d := Aside0.mk (Kd.C_below H5c'.out hb)
    have H7d := Aside0.mk (Kd.C_below H7c'.out hb)
    have hby := (hb.block wa.heap.size (blk_lt HBYc.out)).trans HBYc.out
    have q4 : wd.cell? ⟨wa.heap.size, 0, none⟩ = some (.slice A7 Q.length c7) := (blk_cell hby 0).trans rfl
    have q5 : wd.cell? ⟨wa.heap.size, 1, none⟩ = some (.slice none 0 0) := (blk_cell hby 1).trans rfl
    clear hb hby H3c H4c H5c' H7c' HBYc HBc
    go_wp2_with fail
    refine (H3.out A7 c7 A5 c5 _ H7d.out H7C.out H5d.out H5C.out).mono ?_
    clear H3
    rintro e we ⟨rfl, hb⟩
    have HBe := Aside0.mk (below_then HBd.out HBd.out.size hb)
    clear hb
    go_wp2
    go_ret
    exact ⟨rfl, HBe.out⟩
end Lex
theorem subtreesExcluded.law (W : World) (x0 : S25) (A0_0 : Option Addr) (c0_0 : Nat) (A0_1 : Option Addr) (c0_1 : Nat) (A1 : Option Addr) (c1 : Nat) (l1 : List S35) (A2 : Option Addr) (c2 : Nat) (l2 : List S35)
    (hr0_0 : Kd.C (Kd.slice 27 (Kd.slice 35 k35)) W A0_0 x0.f0.length x0.f0) (hc0_0 : x0.f0.length ≤ c0_0) (hr0_1 : Kd.C (Kd.slice 35 k35) W A0_1 x0.f1.length x0.f1) (hc0_1 : x0.f1.length ≤ c0_1) (hb0 : b25 x0 ≤ 1048576)
    (hr1 : Kd.C k35 W A1 l1.length l1) (hc1 : l1.length ≤ c1) (hb1 : Op2.sumB b35 l1 + 1 ≤ 1048576) (hr2 : Kd.C k35 W A2 l2.length l2) (hc2 : l2.length ≤ c2) (hb2 : Op2.sumB b35 l2 + 1 ≤ 1048576) :
    Calls Try.prog 6 #[.agg #[.slice A0_0 x0.f0.length c0_0, .slice A0_1 x0.f1.length c0_1], .slice A1 l1.length c1, .slice A2 l2.length c2] W fun e w' => e = .returned (.bool true) ∧ Below W.heap.size W w' := by
  unfold b25 at hb0
  simp only at hb0
  exact Lex.walk W x0.f0 x0.f1 A0_0 c0_0 A0_1 c0_1 A1 c1 l1 A2 c2 l2 hr0_0 hc0_0 (show Op2.sumB (fun l => Op2.sumB (fun l => Op2.sumB b35 l + 1) l + 1) x0.f0 ≤ 1048576 by omega) hr0_1 hc0_1 (show Op2.sumB (fun l => Op2.sumB b35 l + 1) x0.f1 ≤ 1048576 by omega) hr1 hc1 (by omega) hb1 hr2 hc2 (by omega)
end Go.Proofs.Ytalcfnhcenpniaa
