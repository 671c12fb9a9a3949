/- The law SubtreesBelow, in the second form: walked by hand. No condition but the form's own bound. -/
import Derived.Test.YtalcfnhcenpniaaPu
import Derived.Test.YtalcfnhcenpniaaSt
import Derived.Deep.DeepMust
set_option linter.unusedVariables false
set_option linter.unusedSimpArgs false
namespace Go.Proofs.Ytalcfnhcenpniaa
open Go.RowKit Go.Proofs.YtalcfnhcenpniaaW.PrintWords Go.Proofs.Ytalcfnhcenpniaa.XU Go.Proofs.Ytalcfnhcenpniaa.OpU
namespace Lbe
open Pu
theorem infoA : (Try.prog.info? 35).map (fun i => (i.zero, i.size, i.bytes)) = some (some (.agg #[.slice none 0 0, .string ⟨#[]⟩]), 2, 40) := by kernel_rfl
theorem below_true (q : List (List S35)) (n m : List S35) (h : allowedN (Pu.narrowed [] q) [] n = true) : allowedN (Pu.narrowed [] q) [] (n ++ m) = true := by
  have e1 := allowed_narrow [] [] q [] n
  have e2 := allowed_narrow [] [] q [] (n ++ m)
  simp only [List.append_nil, List.any_nil, Bool.not_false, Bool.and_true] at e1 e2
  rw [e2]
  rw [e1] at h
  have a1 : ∀ x, allowedN [] [] x = true := fun x => rfl
  rw [a1, Bool.true_and] at h ⊢
  simp only [Bool.or_eq_true, decide_eq_true_eq, List.any_eq_true] at h ⊢
  rcases h with h | ⟨b, hb, hu⟩
  · exact .inl h
  · exact .inr ⟨b, hb, under_more n m b hu⟩
set_option maxHeartbeats 8000000 in
set_option maxRecDepth 100000 in
theorem walk (w : World) (A0 : Option Addr) (c0 : Nat) (l0 : List (List S35)) (A1 : Option Addr) (c1 : Nat) (l1 : List S35) (A2 : Option Addr) (c2 : Nat) (l2 : List S35)
    (hr0 : Kd.C (Kd.slice 35 k35) w A0 l0.length l0) (hc0 : l0.length ≤ c0) (hb0 : Op2.sumB bN l0 ≤ 1048576) (hr1 : Kd.C k35 w A1 l1.length l1) (hc1 : l1.length ≤ c1) (hb1 : Op2.sumB b35 l1 ≤ 1048576) (hr2 : Kd.C k35 w A2 l2.length l2) (hc2 : l2.length ≤ c2) (hb2 : Op2.sumB b35 l2 ≤ 1048576) :
    Calls Try.prog 5 #[.slice A0 l0.length c0, .slice A1 l1.length c1, .slice A2 l2.length c2] w fun e w' => e = .returned (.bool true) ∧ Below w.heap.size w w' := by
  have hu := Try.underlying25
  have hl1 := (sN l1 hb1).2.1
  have hl2 := (sN l2 hb2).2.1
  have hs1 := (sN l1 hb1).1
  have hs2 := (sN l2 hb2).1
  have hs0 := (sL l0 hb0).1
  obtain ⟨k, hk⟩ := (narrow_ev [] [] l0 [] (by simp [Op2.sumB]) (by simp [Op2.sumB]) hb0 (by simp [Op2.sumB])).rounds
  obtain ⟨P, hP⟩ : ∃ P, P = Pu.narrowed [] l0 := ⟨_, rfl⟩
  have hsP : smallP P = true := by rw [hP]; exact smallP_narrowed rfl hs0
  rw [← hP, List.append_nil] at hk
  have hyes := allowed_some (p := []) (x := []) rfl rfl hs1
  have hPn := allowed_some (p := P) (x := []) hsP rfl hs1
  have hPm := allowed_some (p := P) (x := []) hsP rfl (smallN_append hs1 hs2)
  have hmono : allowedN P [] l1 = true → allowedN P [] (l1 ++ l2) = true := by rw [hP]; exact below_true l0 l1 l2
  have HN := Aside0.mk (fun W (hb : Below w.heap.size w W) => subtrees_Narrow.calls k none 0 [] none 0 [] A0 c0 l0 none 0 [] P [] W (Kd.C_nil _ _) (Nat.le_refl 0) (Kd.C_nil _ _) (Nat.le_refl 0) (Kd.C_below hr0 hb) hc0 (Kd.C_nil _ _) (Nat.le_refl 0) hk)
  have HH := Aside0.mk (fun W => warderlaw13_head.calls true W rfl)
  have HY := Aside0.mk (fun W (hb : Below w.heap.size w W) => subtrees_Allowed.calls none 0 [] none 0 [] A1 c1 l1 true W (Kd.C_nil _ _) (Nat.le_refl 0) (Kd.C_nil _ _) (Nat.le_refl 0) (Kd.C_below hr1 hb) hc1 hyes)
  have HA := Aside0.mk (fun A3 c3 A4 c4 W (hb : Below w.heap.size w W) (h3 : Kd.C (Kd.slice 27 (Kd.slice 35 k35)) W A3 P.length P) (h3c : P.length ≤ c3) (h4 : Kd.C (Kd.slice 35 k35) W A4 0 []) => subtrees_Allowed.calls A3 c3 P A4 c4 [] A1 c1 l1 (allowedN P [] l1) W h3 h3c h4 (Nat.zero_le _) (Kd.C_below hr1 hb) hc1 hPn)
  have HM := Aside0.mk (fun A3 c3 A4 c4 A5 c5 W (h3 : Kd.C (Kd.slice 27 (Kd.slice 35 k35)) W A3 P.length P) (h3c : P.length ≤ c3) (h4 : Kd.C (Kd.slice 35 k35) W A4 0 []) (h5 : Kd.C k35 W A5 (l1 ++ l2).length (l1 ++ l2)) (h5c : (l1 ++ l2).length ≤ c5) => subtrees_Allowed.calls A3 c3 P A4 c4 [] A5 c5 (l1 ++ l2) (allowedN P [] (l1 ++ l2)) W h3 h3c h4 (Nat.zero_le _) h5 h5c hPm)
  have F1 := Aside0.mk (Kd.F_of_C h35 hr1)
  have F2 := Aside0.mk (Kd.F_of_C h35 hr2)
  have HMO := Aside0.mk hmono
  clear hr0 hc0 hb0 hr1 hc1 hb1 hr2 hc2 hb2 hs1 hs2 hs0 hsP hk hP hyes hPn hPm hmono
  go_enter Try.func5, Try.ntmps5
  go_wp2_with fail
  refine (HH.out _).mono ?_
  clear HH
  rintro e w1 ⟨rfl, hb⟩
  have HB1 := Aside0.mk hb
  clear hb
  by_cases h500 : (l0.length : Int) > 500
  · go_wp2
    go_ret
    exact ⟨rfl, HB1.out⟩
  · go_wp2_with fail
    refine (HN.out _ HB1.out).mono ?_
    clear HN
    rintro e w2 ⟨v0, v1, rfl, hN0, hN1, hb⟩
    obtain ⟨A3, c3, rfl, h3c, h3⟩ := Kd.N_reads hN0
    obtain ⟨A4, c4, rfl, h4c, h4⟩ := Kd.N_reads hN1
    obtain ⟨W3, hW3⟩ : ∃ W : World, W = w2.alloc (.cells #[.slice A3 P.length c3, .slice A4 0 c4] 25) := ⟨_, rfl⟩
    have HB3 := Aside0.mk (show Below w.heap.size w W3 by rw [hW3]; exact below_alloc (below_then HB1.out HB1.out.size hb) _)
    have H3 := Aside0.mk (show Kd.C (Kd.slice 27 (Kd.slice 35 k35)) W3 A3 P.length P by rw [hW3]; exact Kd.C_alloc h3 _)
    have H4 := Aside0.mk (show Kd.C (Kd.slice 35 k35) W3 A4 0 [] by rw [hW3]; exact Kd.C_alloc h4 _)
    have HBX := Aside0.mk (show W3.heap[w2.heap.size]? = some (.cells #[.slice A3 P.length c3, .slice A4 0 c4] 25 (0, 0)) by rw [hW3]; exact heap_alloc_new w2 _)
    have hz3 : w2.heap.size < W3.heap.size := by rw [hW3]; simp
    have HZ3 := Aside0.mk (show W3.heap.size = w2.heap.size + 1 by rw [hW3]; simp)
    have H3C := Aside0.mk h3c
    clear hN0 hN1 hb h3 h4 h3c h4c
    go_wp2_with (first | ((with_reducible refine gate_builtin (b := .append) (xs := #[.tmp 18, .tmp 19]) rfl ?_); at_builtin; rw [← hW3]; clear hW3; refine Kd.N_append_rows k35 (w0 := W3) W3.heap.size rfl (.tmp 18) (.tmp 19) 27 35 (.agg #[.slice none 0 0, .string ⟨#[]⟩]) 40 rfl Try.underlying27 infoA rfl (by decide) (by decide) _ [] l1 A1 l1.length c1 (fun _ => True) (fun k => k < w.heap.size) rfl rfl ?aO ?aR ?aP ?aF ?aB ?aS ?aL ?_))
    case aO =>
      show Kd.N k35 35 _ _ _ (.slice (some ⟨w2.heap.size + 1, 0, none⟩) 0 0) []
      rw [← HZ3.out]
      exact Kd.N_empty _ _ W3 (Nat.le_refl _) trivial
    case aR => exact Kd.F_alloc (Kd.F_below F1.out HB3.out) _
    case aP => exact fun q hq => ⟨trivial, fun he => by
        have h2 : some q = some (w2.heap.size + 1) := he
        injection h2 with h2
        have := HB3.out.size
        have := HZ3.out
        omega⟩
    case aF => exact fun _ _ => trivial
    case aB => exact (Below.refl _ _).alloc (Nat.le_refl _) _
    case aS => simp
    case aL => simp; omega
    intro v5 w4 hN hB _ _
    have HN4 := Aside0.mk hN
    have HB4 := Aside0.mk hB
    clear hN hB
    go_wp2_with (first | ((with_reducible refine gate_builtin (b := .append) (xs := #[.tmp 20, .tmp 21]) rfl ?_); at_builtin; refine Kd.N_append_rows k35 (w0 := W3) W3.heap.size rfl (.tmp 20) (.tmp 21) 27 35 (.agg #[.slice none 0 0, .string ⟨#[]⟩]) 40 rfl Try.underlying27 infoA rfl (by decide) (by decide) v5 l1 l2 A2 l2.length c2 (fun _ => True) (fun k => k < w.heap.size) rfl rfl ?bO ?bR ?bP ?bF ?bB ?bS ?bL ?_))
    case bO => exact HN4.out
    case bR => exact Kd.F_below F2.out (below_then HB3.out HB3.out.size HB4.out)
    case bP => exact fun q hq => ⟨trivial, fun he => by
        have h2 := Kd.N_base HN4.out q he.symm
        have := HB3.out.size
        omega⟩
    case bF => exact fun _ _ => trivial
    case bB => exact HB4.out
    case bS => exact HB4.out.size
    case bL => omega
    intro v6 w5 hN hB _ _
    obtain ⟨A5, c5, rfl, h5c, h5⟩ := Kd.N_reads hN
    obtain ⟨l5, hl5⟩ : ∃ l, l = l1 ++ l2 := ⟨_, rfl⟩
    rw [← hl5] at h5c h5 HM HMO ⊢
    clear hl5
    have HB5 := Aside0.mk (below_then HB3.out HB3.out.size hB)
    have H35 := Aside0.mk (Kd.C_below H3.out hB)
    have H45 := Aside0.mk (Kd.C_below H4.out hB)
    have hbx := (hB.block w2.heap.size hz3).trans HBX.out
    have q0 : w5.cell? ⟨w2.heap.size, 0, none⟩ = some (.slice A3 P.length c3) := (blk_cell hbx 0).trans rfl
    have q1 : w5.cell? ⟨w2.heap.size, 1, none⟩ = some (.slice A4 0 c4) := (blk_cell hbx 1).trans rfl
    have HBX5 := Aside0.mk hbx
    have H5 := Aside0.mk h5
    have H5C := Aside0.mk h5c
    clear hN hB h5 h5c hbx HN4 HB4 HBX H3 H4 HB3
    go_wp2_with fail
    refine (HY.out _ HB5.out).mono ?_
    rintro e w6 ⟨rfl, hb⟩
    have HB6 := Aside0.mk (below_then HB5.out HB5.out.size hb)
    have H36 := Aside0.mk (Kd.C_below H35.out hb)
    have H46 := Aside0.mk (Kd.C_below H45.out hb)
    have H56 := Aside0.mk (Kd.C_below H5.out hb)
    have hbx := (hb.block w2.heap.size (blk_lt HBX5.out)).trans HBX5.out
    have q0 : w6.cell? ⟨w2.heap.size, 0, none⟩ = some (.slice A3 P.length c3) := (blk_cell hbx 0).trans rfl
    have q1 : w6.cell? ⟨w2.heap.size, 1, none⟩ = some (.slice A4 0 c4) := (blk_cell hbx 1).trans rfl
    have HBX6 := Aside0.mk hbx
    clear hb hbx H35 H45 H5 HBX5 HY HB5
    go_wp2_with fail
    refine (HA.out A3 c3 A4 c4 _ HB6.out H36.out H3C.out H46.out).mono ?_
    rintro e w7 ⟨rfl, hb⟩
    have HB7 := Aside0.mk (below_then HB6.out HB6.out.size hb)
    have H37 := Aside0.mk (Kd.C_below H36.out hb)
    have H47 := Aside0.mk (Kd.C_below H46.out hb)
    have H57 := Aside0.mk (Kd.C_below H56.out hb)
    have hbx := (hb.block w2.heap.size (blk_lt HBX6.out)).trans HBX6.out
    have q0 : w7.cell? ⟨w2.heap.size, 0, none⟩ = some (.slice A3 P.length c3) := (blk_cell hbx 0).trans rfl
    have q1 : w7.cell? ⟨w2.heap.size, 1, none⟩ = some (.slice A4 0 c4) := (blk_cell hbx 1).trans rfl
    clear hb hbx H36 H46 H56 HBX6 HA HB6
    cases hq : allowedN P [] l1 with
    | false =>
      go_wp2
      go_ret
      exact ⟨rfl, HB7.out⟩
    | true =>
      have hm := HMO.out hq
      have HM7 := Aside0.mk (HM.out A3 c3 A4 c4 A5 c5 w7 H37.out H3C.out H47.out H57.out H5C.out)
      rw [hm] at HM7
      clear hm hq
      go_wp2_with fail
      refine HM7.out.mono ?_
      rintro e w8 ⟨rfl, hb⟩
      have HB8 := Aside0.mk (below_then HB7.out HB7.out.size hb)
      clear hb
      go_wp2
      go_ret
      exact ⟨rfl, HB8.out⟩
end Lbe
theorem subtreesBelow.law (W : World) (A0 : Option Addr) (c0 : Nat) (l0 : List (List S35)) (A1 : Option Addr) (c1 : Nat) (l1 : List S35) (A2 : Option Addr) (c2 : Nat) (l2 : List S35)
    (hr0 : Kd.C (Kd.slice 35 k35) W A0 l0.length l0) (hc0 : l0.length ≤ c0) (hb0 : Op2.sumB (fun l => Op2.sumB b35 l + 1) l0 + 1 ≤ 1048576) (hr1 : Kd.C k35 W A1 l1.length l1) (hc1 : l1.length ≤ c1) (hb1 : Op2.sumB b35 l1 + 1 ≤ 1048576) (hr2 : Kd.C k35 W A2 l2.length l2) (hc2 : l2.length ≤ c2) (hb2 : Op2.sumB b35 l2 + 1 ≤ 1048576) :
    Calls Try.prog 5 #[.slice A0 l0.length c0, .slice A1 l1.length c1, .slice A2 l2.length c2] W fun e w' => e = .returned (.bool true) ∧ Below W.heap.size W w' :=
  Lbe.walk W A0 c0 l0 A1 c1 l1 A2 c2 l2 hr0 hc0 (show Op2.sumB (fun l => Op2.sumB b35 l + 1) l0 ≤ 1048576 by omega) hr1 hc1 (by omega) hr2 hc2 (by omega)
end Go.Proofs.Ytalcfnhcenpniaa
