/- The row of PrincsTell, in the second form. No condition but the form's own bound. Printed by rowg.py. -/
import Derived.Test.YtalcfnhcenpniaaOpnT
import Derived.Test.YtalcfnhcenpniaaLTell
import Derived.WalkKit
import Derived.ProofKit
import Derived.OpenShut
import Derived.ShutString
import Derived.ChangeOld
import Derived.Below
import Derived.SizedLaws
import Derived.JoinedCond
set_option linter.unusedVariables false
set_option linter.unusedSimpArgs false
namespace Go.Proofs.Ytalcfnhcenpniaa.princsTellUptoR
open Go.ChangeShapes Go.WideShapes Go.ChangeAt Go.RowKit Go.Proofs.Ytalcfnhcenpniaa.XT Go.Proofs.Ytalcfnhcenpniaa.OpT Go.Proofs.YtalcfnhcenpniaaW.PrintWords
open Go.ChangeMaps (open_string shut_string)
theorem own : ownKnob Try.prog.godebug = none := by kernel_rfl
theorem laidOut : laidOutB Try.prog = true := by kernel_rfl
set_option maxRecDepth 100000 in
theorem contract (H : Type) (enc : TypeId × Value → H) (W : World) (base : Nat) (args : Array Value) (ds gs : List (DataW H)) (before : List MemPlace)
    (hval0 : ∀ (j : Nat) t v, Try.f8.params[j]? = some t → args[j]? = some v → Value.okWide Try.prog W .any base t v)
    (hW : DataW.Whole enc Try.prog Try.f8.params.toList Rows.princsTellSpec.vars false W args.toList ds gs before) (hsmall : Rows.uptoSmall H (ds ++ gs) = true) :
    Calls Try.prog 8 args W fun e W' => ∃ v, e = .returned v ∧ Rows.princsTellSpec.post enc Try.prog Try.f8 false true false false W args v W' := by
  have hval : ∀ (j : Nat) t v, Try.f8.params[j]? = some t → args[j]? = some v → Value.okWide Try.prog W .any base t v := hval0
  have hW' := hW
  obtain ⟨p, q, hA0, hV, rfl, hfz, hnd⟩ := hW
  have hA : DataW.TrodAll enc Try.prog W 0 (fun _ => true) true Try.f8.params.toList args.toList ds p := hA0
  rw [Try.params8] at hA hval
  obtain ⟨v0, vs0, d0, ds0, p0, q0, hargs, rfl, rfl, h0, r0⟩ := trodAll_cons hA
  obtain ⟨v1, vs1, d1, ds1, p1, q1, rfl, rfl, rfl, h1, r1⟩ := trodAll_cons r0
  obtain ⟨v2, vs2, d2, ds2, p2, q2, rfl, rfl, rfl, h2, r2⟩ := trodAll_cons r1
  obtain ⟨v3, vs3, d3, ds3, p3, q3, rfl, rfl, rfl, h3, r3⟩ := trodAll_cons r2
  obtain ⟨rfl, rfl, rfl⟩ := trodAll_nil r3
  obtain rfl : args = #[v0, v1, v2, v3] := by cases args; simp_all
  obtain ⟨rfl, rfl⟩ := trodVars_none hV
  have k0 := h0
  have lt0 : ∀ x ∈ p0, x.block < W.heap.size := by obtain ⟨m, hm⟩ := k0; exact DataW.trod_lt m _ _ _ hm
  obtain ⟨A0, n0, c0, rfl⟩ := okWide_slice Try.underlying49 (hval 0 49 v0 rfl rfl)
  obtain ⟨l0, rfl, hc0, hr0, hb0⟩ := Op2.arg (Op2.slice (d := k65) (b := b65) Try.underlying49 (by kernel_rfl) op65) k0
  have k1 := h1
  have lt1 : ∀ x ∈ p1, x.block < W.heap.size := by obtain ⟨m, hm⟩ := k1; exact DataW.trod_lt m _ _ _ hm
  obtain ⟨A1, n1, c1, rfl⟩ := okWide_slice Try.underlying40 (hval 1 40 v1 rfl rfl)
  obtain ⟨l1, rfl, hc1, hr1, hb1⟩ := Op2.arg (Op2.slice (d := k45) (b := b45) Try.underlying40 (by kernel_rfl) op45) k1
  have k2 := h2
  have lt2 : ∀ x ∈ p2, x.block < W.heap.size := by obtain ⟨m, hm⟩ := k2; exact DataW.trod_lt m _ _ _ hm
  obtain ⟨cs2, rfl⟩ := Op2.okAgg Try.underlying57 (hval 2 57 v2 rfl rfl)
  obtain ⟨x2, hK2, hb2⟩ := Op2.argS op57 k2
  obtain ⟨A2_1, c2_1, A2_4, c2_4, A2_10, c2_10, A2_11, c2_11, A2_12, c2_12, A2_13, c2_13, A2_14, c2_14, he2, hc2_1, hr2_1, hc2_4, hr2_4, hc2_10, hr2_10, hc2_11, hr2_11, hc2_12, hr2_12, hc2_13, hr2_13, hc2_14, hr2_14⟩ := k57_open hK2
  obtain rfl : cs2 = #[.int .i64 x2.f0, .slice A2_1 x2.f1.length c2_1, .int .i64 x2.f2, .int .i64 x2.f3, .slice A2_4 x2.f4.length c2_4, .int .i64 x2.f5, .bool x2.f6.f0, .bool x2.f6.f1, .int .i64 x2.f6.f2, .int .u16 x2.f6.f3, .slice A2_10 x2.f6.f4.length c2_10, .slice A2_11 x2.f6.f5.length c2_11, .slice A2_12 x2.f6.f6.length c2_12, .slice A2_13 x2.f6.f7.length c2_13, .slice A2_14 x2.f6.f8.length c2_14, .int .i64 x2.f7] := by cases cs2; simpa using he2
  have k3 := h3
  have lt3 : ∀ x ∈ p3, x.block < W.heap.size := by obtain ⟨m, hm⟩ := k3; exact DataW.trod_lt m _ _ _ hm
  obtain ⟨cs3, rfl⟩ := Op2.okAgg Try.underlying43 (hval 3 43 v3 rfl rfl)
  obtain ⟨x3, hK3, hb3⟩ := Op2.argS op43 k3
  obtain ⟨A3_1, c3_1, he3, hc3_1, hr3_1⟩ := k43_open hK3
  obtain rfl : cs3 = #[.string x3.f0, .slice A3_1 x3.f1.length c3_1] := by cases cs3; simpa using he3
  have hsm : Rows.uptoBulkAll ([d0, d1, d2, d3] ++ ([] : List (DataW H))) ≤ 1048576 := of_decide_eq_true hsmall
  simp only [Rows.uptoBulkAll, Rows.uptoBulk, List.append_nil, List.cons_append, List.nil_append, Array.length_toList, ByteArray.size_data] at hsm
  have s0 : Rows.uptoBulk d0 ≤ 1048576 := by omega
  have s1 : Rows.uptoBulk d1 ≤ 1048576 := by omega
  have s2 : Rows.uptoBulk d2 ≤ 1048576 := by omega
  have s3 : Rows.uptoBulk d3 ≤ 1048576 := by omega
  clear hA0 hval0 hsmall
  refine (princsTell.law W A0 c0 l0 A1 c1 l1 x2 A2_1 c2_1 A2_4 c2_4 A2_10 c2_10 A2_11 c2_11 A2_12 c2_12 A2_13 c2_13 A2_14 c2_14 x3 A3_1 c3_1 hr0 hc0 (Nat.le_trans hb0 s0) hr1 hc1 (Nat.le_trans hb1 s1) hr2_1 hc2_1 hr2_4 hc2_4 hr2_10 hc2_10 hr2_11 hc2_11 hr2_12 hc2_12 hr2_13 hc2_13 hr2_14 hc2_14 (Nat.le_trans hb2 s2) hr3_1 hc3_1 (Nat.le_trans hb3 s3)).mono fun e W' ⟨he, bel⟩ => ?_
  subst he
  exact ⟨_, rfl, _, _, _, [], _, [], hW', trodAll_mk1 (shut_bool Try.underlying4 _), (trodAll_cons_mk (Below.trod laidOut (by kernel_rfl) (of_decide_eq_true (by kernel_rfl)) k0 bel lt0) (trodAll_cons_mk (Below.trod laidOut (by kernel_rfl) (of_decide_eq_true (by kernel_rfl)) k1 bel lt1) (trodAll_cons_mk (Below.trod laidOut (by kernel_rfl) (of_decide_eq_true (by kernel_rfl)) k2 bel lt2) (trodAll_cons_mk (Below.trod laidOut (by kernel_rfl) (of_decide_eq_true (by kernel_rfl)) k3 bel lt3) trodAll_mk0)))), rfl, bel.frame _, fun h => by cases h⟩
set_option maxRecDepth 100000 in
theorem lifted (os : Os) (started : os.Started) (H : Type) (enc : TypeId × Value → H) (F : Stop.Interp) :
    ReturnsInHanded {} Try.checked os 8 .any ((Rows.OpenSpec.upto Rows.princsTellSpec).pre6 enc Try.prog Try.f8 Rows.princsTellUptoRow.domain false) (((Rows.OpenSpec.upto Rows.princsTellSpec).at F).post enc Try.prog Try.f8 false true false false) := by
  refine returnsInHanded_of_cond (C := Try.checked) (s := (Rows.OpenSpec.upto Rows.princsTellSpec)) (k := Rows.uptoSmall) rfl own started (by kernel_rfl) Try.func8
    (OpenSpec.witness (enc := enc) (C := Try.checked) (s := (Rows.OpenSpec.upto Rows.princsTellSpec)) (k := Rows.uptoSmall) rfl false ⟨#[], #[.slice none 0 0, .slice none 0 0, .agg #[.int .i64 0, .slice none 0 0, .int .i64 0, .int .i64 0, .slice none 0 0, .int .i64 0, .bool false, .bool false, .int .i64 0, .int .u16 0, .slice none 0 0, .slice none 0 0, .slice none 0 0, .slice none 0 0, .slice none 0 0, .int .i64 0], .agg #[.string ByteArray.empty, .slice none 0 0]], []⟩ 8 (by kernel_rfl) (by kernel_rfl) (by kernel_rfl)
      (x := ([.nil, .nil, .agg [.lit (.int .i64 0), .nil, .lit (.int .i64 0), .lit (.int .i64 0), .nil, .lit (.int .i64 0), .agg [.lit (.bool false), .lit (.bool false), .lit (.int .i64 0), .lit (.int .u16 0), .nil, .nil, .nil, .nil, .nil], .lit (.int .i64 0)], .agg [.lit (.string []), .nil]], [], [])) (by kernel_rfl) rfl (by kernel_rfl)) ?_
  intro W base args ds gs before hval hW _ hk _
  exact contract H enc W base args ds gs before hval hW hk
theorem said : Rows.PrincsTellUptoSaid :=
  OpenClaim.holds_of_cond 8 Try.f8 rfl rfl rfl rfl rfl rfl rfl ⟨rfl, rfl, rfl, rfl, rfl⟩ rfl rfl rfl rfl rfl (by kernel_rfl) Try.func8 (by kernel_rfl)
    (of_decide_eq_true (by kernel_rfl)) (by unfold Func.isWrapper; first | (rw [if_pos (by decide +kernel)]; kernel_rfl) | (rw [if_neg (by decide +kernel)]; exact ⟨rfl, rfl⟩))
    (fun os started H enc _ F => lifted os started H enc F)
end Go.Proofs.Ytalcfnhcenpniaa.princsTellUptoR
namespace Go.Proofs.Ytalcfnhcenpniaa
theorem princsTellUpto_said : Rows.PrincsTellUptoSaid := princsTellUptoR.said
end Go.Proofs.Ytalcfnhcenpniaa
