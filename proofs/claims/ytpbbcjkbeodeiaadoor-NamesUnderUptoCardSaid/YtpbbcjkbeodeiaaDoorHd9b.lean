/- The head of chapter 9's laws: ints.PutOID at 2.5.4.3. No condition. -/
import Derived.Test.YtpbbcjkbeodeiaaDoorHd9a
import Derived.Test.YtpbbcjkbeodeiaaDoorXO1
set_option linter.unusedVariables false
set_option linter.unusedSimpArgs false
namespace Go.Proofs.YtpbbcjkbeodeiaaDoor
open Go.RowKit Go.Proofs.YtpbbcjkbeodeiaaDoorW.PrintWords Go.Proofs.YtpbbcjkbeodeiaaDoor.XO
namespace H9
theorem arc85 : ints_arc.f 2 85 = some [85] := by decide +kernel
theorem arc4 : ints_arc.f 2 4 = some [4] := by decide +kernel
theorem arc3 : ints_arc.f 2 3 = some [3] := by decide +kernel
set_option maxHeartbeats 4000000 in
set_option maxRecDepth 100000 in
theorem idx (l0 : List Int) (hl : ∀ x ∈ l0, 0 ≤ x ∧ x ≤ 268435455) (A0 : Option Addr) (c0 : Nat) (w : World) (hr0 : Kd.C (Kd.int .i64) w A0 l0.length l0) :
    Calls Tryd.prog 88 #[.slice A0 l0.length c0, .func (.func 79) #[] #[]] w fun e w' => e = .returned (.int .i64 (-1)) ∧ Below w.heap.size w w' := by
  have hn : l0.length ≤ 9223372036854775807 := hr0.2.1
  have HR := Aside0.mk hr0
  clear hr0
  go_enter Tryd.func88, Tryd.ntmps88
  go_wp2
  go_loopg [5, 8] l0.length (fun gg _ s8 wr => ∃ kk : Nat, kk ≤ l0.length ∧ l0.length - kk ≤ gg ∧ s8 = .int .i64 kk ∧ Aside0 (Below w.heap.size w wr))
  case atStart => exact ⟨0, Nat.zero_le _, by omega, rfl, ⟨Below.refl _ w⟩⟩
  case round =>
    obtain ⟨kk, hkk, hg, rfl, HB⟩ := hrel
    by_cases hlt : kk < l0.length
    · have hltz : (kk : Int) < (l0.length : Int) := by omega
      obtain ⟨ad, e0, hx0⟩ := Kd.at_int HR.out (kk : Int) (by omega) (by omega)
      cases e0
      replace hx0 := (HB.out.cell (World.block_lt_of_cell? w _ hx0)).trans hx0
      simp only [Int.toNat_natCast] at hx0
      have hmem : rd l0 (kk : Int) ∈ l0 := by unfold rd; rw [Int.toNat_natCast, getD_eq _ _ _ hlt]; exact List.getElem_mem _
      obtain ⟨hb0, hb1⟩ := hl _ hmem
      generalize rd l0 (kk : Int) = y at *
      clear hmem
      have HC := Aside0.mk (odd1 y wr hb0 hb1)
      go_wp2_with fail
      refine HC.out.mono ?_
      rintro e w' ⟨rfl, hb'⟩
      have hb2 := Aside0.mk (below_then HB.out HB.out.size hb')
      clear hb'
      go_wp2_with fail
      go_roundg (l0.length - (kk + 1))
      case measure => omega
      case rel => exact ⟨kk + 1, by omega, by omega, by first | rfl | (simp; done), hb2⟩
    · obtain rfl : kk = l0.length := by omega
      have hltz : ¬ ((l0.length : Int) < (l0.length : Int)) := by omega
      go_wp2
      go_ret
      exact ⟨rfl, HB.out⟩
set_option maxHeartbeats 4000000 in
set_option maxRecDepth 100000 in
theorem has (l0 : List Int) (hl : ∀ x ∈ l0, 0 ≤ x ∧ x ≤ 268435455) (A0 : Option Addr) (c0 : Nat) (w : World) (hr0 : Kd.C (Kd.int .i64) w A0 l0.length l0) :
    Calls Tryd.prog 80 #[.slice A0 l0.length c0, .func (.func 79) #[] #[]] w fun e w' => e = .returned (.bool false) ∧ Below w.heap.size w w' := by
  have HC := Aside0.mk (idx l0 hl A0 c0 w hr0)
  clear hr0
  go_enter Tryd.func80, Tryd.ntmps80
  go_wp2_with fail
  refine HC.out.mono ?_
  rintro e w' ⟨rfl, hb'⟩
  go_wp2_with fail
  go_ret
  exact ⟨rfl, hb'⟩
set_option maxHeartbeats 4000000 in
set_option maxRecDepth 100000 in
theorem putOID (A0 : Option Addr) (c0 : Nat) (w : World) (hc : 4 ≤ c0) (hr0 : Kd.C (Kd.int .i64) w A0 4 [2, 5, 4, 3]) :
    Calls Tryd.prog 64 #[.slice A0 4 c0] w fun e w' => (∃ A n c, e = .returned (.tuple #[.slice A n c, .int .i64 0])) ∧ Below w.heap.size w w' := by
  have HC := Aside0.mk (has [2, 5, 4, 3] (by simp) A0 c0 w hr0)
  have HR := Aside0.mk hr0
  clear hr0
  go_enter Tryd.func64, Tryd.ntmps64
  go_wp2_with fail
  refine HC.out.mono ?_
  rintro e w1 ⟨rfl, hb1⟩
  have r0 := Kd.at_int HR.out 0 (by omega) (by omega)
  have r1 := Kd.at_int HR.out 1 (by omega) (by omega)
  have r2 := Kd.at_int HR.out 2 (by omega) (by omega)
  have r3 := Kd.at_int HR.out 3 (by omega) (by omega)
  obtain ⟨ad, rfl, q0⟩ := r0
  obtain ⟨ad1, e1, q1⟩ := r1
  cases e1
  obtain ⟨ad2, e2, q2⟩ := r2
  cases e2
  obtain ⟨ad3, e3, q3⟩ := r3
  cases e3
  obtain ⟨B, o, pt⟩ := ad
  replace q0 : w.cell? ⟨B, o, pt⟩ = some (.int .i64 2) := q0
  replace q1 : w.cell? ⟨B, o + 1, none⟩ = some (.int .i64 5) := q1
  replace q2 : w.cell? ⟨B, o + 2, none⟩ = some (.int .i64 4) := q2
  replace q3 : w.cell? ⟨B, o + 3, none⟩ = some (.int .i64 3) := q3
  have Q0 := Aside0.mk q0
  have Q1 := Aside0.mk q1
  have Q2 := Aside0.mk q2
  have Q3 := Aside0.mk q3
  replace q0 := (hb1.cell (World.block_lt_of_cell? w _ q0)).trans q0
  replace q1 := (hb1.cell (World.block_lt_of_cell? w _ q1)).trans q1
  have HB1 := Aside0.mk hb1
  clear hb1 HC HR q2 q3
  go_wp2_with fail
  go_region_held3 (fun w' => w'.cell? ⟨B, o, pt⟩ = some (.int .i64 2) ∧ w'.cell? ⟨B, o + 1, none⟩ = some (.int .i64 5) ∧ Below w.heap.size w w') (first | exact ⟨q0, q1, below_drew HB1.out⟩ | exact ⟨hp0, hp1, hb3⟩ | (simp [*]; done)) (first | (go_at_call 79; refine (odd1q 85 _ (by omega) (by omega)).mono ?_; rintro e w2 ⟨rfl, rfl⟩) | fail)
  have q0 : w1.drew.cell? ⟨B, o, pt⟩ = some (.int .i64 2) := q0
  have q1 : w1.drew.cell? ⟨B, o + 1, none⟩ = some (.int .i64 5) := q1
  have HB2 := Aside0.mk (below_drew HB1.out)
  clear HB1
  go_wp2_with fail
  go_region_held3 (fun w' => w'.cell? ⟨B, o, pt⟩ = some (.int .i64 2) ∧ w'.cell? ⟨B, o + 1, none⟩ = some (.int .i64 5)) (first | exact ⟨q0, q1⟩ | exact ⟨hp0, hp1⟩ | (simp [*]; done)) (first | (go_at_call 81; refine (ints_arc.calls 2 85 [85] _ arc85).mono ?_; rintro e w2 ⟨v5, rfl, hR5, hb2⟩; have hp0 := (hb2.cell (World.block_lt_of_cell? _ _ q0)).trans q0; have hp1 := (hb2.cell (World.block_lt_of_cell? _ _ q1)).trans q1) | fail)
  have HB3 := Aside0.mk (below_then (below_drew HB2.out) (below_drew HB2.out).size hb2)
  have HR5 := Aside0.mk (Kd.R_lower (base' := w.heap.size) hR5 (below_drew HB2.out).size)
  clear hR5 hb2 HB2 hp0 hp1 q0 q1
  go_wp2_with fail
  go_loopg [5, 55] 2 (fun gg v5 v55 wr => ∃ (kk : Nat) (xs : List Int), kk ≤ 2 ∧ 2 - kk ≤ gg ∧ v55 = .int .i64 kk ∧ xs.length = kk + 1 ∧ Aside0 (Kd.R (Kd.int .u8) 5 wr w.heap.size (fun _ => True) v5 xs) ∧ Aside0 (Below w.heap.size w wr))
  case atStart => exact ⟨0, [85], by omega, by omega, rfl, rfl, HR5, HB3⟩
  case round =>
    obtain ⟨kk, xs, hkk, hg, rfl, hxs, HR, HB⟩ := hrel
    have hk3 : kk = 0 ∨ kk = 1 ∨ kk = 2 := by omega
    rcases hk3 with rfl | rfl | rfl
    · have q := (HB.out.cell (World.block_lt_of_cell? w _ Q2.out)).trans Q2.out
      go_wp2_with fail
      refine (ints_arc.calls 2 4 [4] _ arc4).mono ?_
      rintro e w4 ⟨v6, rfl, hR6, hb4⟩
      obtain ⟨A6, c6, rfl, -, hC6⟩ := Kd.R_reads hR6
      have HR4 := Aside0.mk (Kd.R_below HR.out hb4)
      have HB4 := Aside0.mk (below_then HB.out HB.out.size hb4)
      have HC6 := Aside0.mk hC6
      clear hR6 hb4 hC6 HR HB
      go_wp2_with (at_builtin; refine Kd.R_append_rows (Kd.int .u8) (Rr := (Kd.int .u8).K w4) (w0 := w) w.heap.size rfl _ _ 28 5 (.int .u8 0) 1 rfl Tryd.underlying28 info5 rfl (show 0 < 1 by decide) (by decide) _ xs [4] A6 1 c6 (fun _ => True) (fun _ => False) rfl rfl ?aO ?aR ?aM ?aP ?aF ?aB ?aS ?aL ?_)
      case aO => exact HR4.out
      case aR => exact HC6.out
      case aM => exact fun _ _ h => h
      case aP => exact fun _ h => h.elim
      case aF => exact fun _ _ => trivial
      case aB => exact HB4.out
      case aS => exact HB4.out.size
      case aL => omega
      intro v7 w5 hR5 hB5 _ _
      have HR5 := Aside0.mk hR5
      have HB5 := Aside0.mk hB5
      clear hR5 hB5
      go_wp2_with fail
      go_roundg 1
      case measure => omega
      case rel => exact ⟨1, xs ++ [4], by omega, by omega, rfl, by simp [hxs], HR5, HB5⟩
    · have q := (HB.out.cell (World.block_lt_of_cell? w _ Q3.out)).trans Q3.out
      go_wp2_with fail
      refine (ints_arc.calls 2 3 [3] _ arc3).mono ?_
      rintro e w4 ⟨v6, rfl, hR6, hb4⟩
      obtain ⟨A6, c6, rfl, -, hC6⟩ := Kd.R_reads hR6
      have HR4 := Aside0.mk (Kd.R_below HR.out hb4)
      have HB4 := Aside0.mk (below_then HB.out HB.out.size hb4)
      have HC6 := Aside0.mk hC6
      clear hR6 hb4 hC6 HR HB
      go_wp2_with (at_builtin; refine Kd.R_append_rows (Kd.int .u8) (Rr := (Kd.int .u8).K w4) (w0 := w) w.heap.size rfl _ _ 28 5 (.int .u8 0) 1 rfl Tryd.underlying28 info5 rfl (show 0 < 1 by decide) (by decide) _ xs [3] A6 1 c6 (fun _ => True) (fun _ => False) rfl rfl ?aO ?aR ?aM ?aP ?aF ?aB ?aS ?aL ?_)
      case aO => exact HR4.out
      case aR => exact HC6.out
      case aM => exact fun _ _ h => h
      case aP => exact fun _ h => h.elim
      case aF => exact fun _ _ => trivial
      case aB => exact HB4.out
      case aS => exact HB4.out.size
      case aL => omega
      intro v7 w5 hR5 hB5 _ _
      have HR5 := Aside0.mk hR5
      have HB5 := Aside0.mk hB5
      clear hR5 hB5
      go_wp2_with fail
      go_roundg 0
      case measure => omega
      case rel => exact ⟨2, xs ++ [3], by omega, by omega, rfl, by simp [hxs], HR5, HB5⟩
    · obtain ⟨A7, c7, rfl⟩ := Kd.R_slice HR.out
      go_wp2
      go_ret2
      exact ⟨⟨_, _, _, rfl⟩, HB.out⟩
end H9
end Go.Proofs.YtpbbcjkbeodeiaaDoor
