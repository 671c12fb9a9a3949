/- The law PrincsKnown, walked. No condition. -/
import Derived.Test.YtalcfnhcenpniaaXK5
import Derived.Test.YtalcfnhcenpniaaNx
set_option linter.unusedVariables false
set_option linter.unusedSimpArgs false
namespace Go.Proofs.Ytalcfnhcenpniaa
open Go.RowKit Go.Proofs.YtalcfnhcenpniaaW.PrintWords Go.Proofs.Ytalcfnhcenpniaa.XK
namespace Lkn
theorem alike_refl (r : ByteArray) (n : List ByteArray) : alikeP r n r n = true := by simp [alikeP]
theorem plain (l0 : List S45) (r : ByteArray) (n : List ByteArray) (a : Int) : warderlaw21_PrincsKnown.f l0 r n a = some true := by
  unfold warderlaw21_PrincsKnown.f warderlaw21_head.f princs_Lookup.f
  simp only [Option.bind_some]
  by_cases h : (l0.length : Int) > 500
  · rw [if_pos h]
  · rw [if_neg h, if_pos (by simp; omega), if_pos (by simp; omega), if_pos (by simp; omega)]
    have e1 : lookup ([(⟨⟨r, n⟩, a⟩ : S45)] ++ l0) r n = (a, true) := by
      unfold lookup
      simp [alike_refl]
    have e2 : lookup ([] : List S45) r n = (-1, false) := rfl
    rw [e1, e2]
    have e3 : lookup (([] : List S45) ++ l0 ++ [(⟨⟨r, n⟩, a⟩ : S45)]) r n = if (lookup l0 r n).2 = true then lookup l0 r n else (a, true) := by
      unfold lookup
      rw [List.nil_append, List.find?_append]
      cases h3 : l0.find? (fun u => alikeP u.f0.f0 u.f0.f1 r n) with
      | some u => simp
      | none => simp [alike_refl]
    have e4 : (lookup l0 r n).2 = false → (lookup l0 r n).1 = -1 := by
      unfold lookup
      cases h3 : l0.find? (fun u => alikeP u.f0.f0 u.f0.f1 r n) with
      | some u => simp
      | none => simp
    rw [e3]
    generalize lookup l0 r n = q at *
    obtain ⟨q1, q2⟩ := q
    cases q2 with
    | true => simp
    | false =>
      have := e4 rfl
      simp only at this
      simp [this]
theorem h43 : Kd.Heap k43 := Kd.heap_iso _ (Kd.heap_pair Kd.heap_string (Kd.heap_slice 9 Kd.heap_string))
theorem h45 : Kd.Heap k45 := Kd.heap_iso _ (Kd.heap_pair h43 (Kd.heap_int .i64))
end Lkn
theorem princsKnown.law (W : World) (A0 : Option Addr) (c0 : Nat) (l0 : List S45) (x1 : S43) (A1 : Option Addr) (c1 : Nat) (a2 : Int) (hr0 : Kd.C k45 W A0 l0.length l0) (hc0 : l0.length ≤ c0) (hr1 : Kd.C Kd.string W A1 x1.f1.length x1.f1) (hc1 : x1.f1.length ≤ c1) :
    Calls Try.prog 7 #[.slice A0 l0.length c0, .agg #[.string x1.f0, .slice A1 x1.f1.length c1], .int .i64 a2] W fun e w' => e = .returned (.bool true) ∧ Below W.heap.size W w' :=
  warderlaw21_PrincsKnown.calls (fun k => k < W.heap.size) A0 c0 l0 x1.f0 (fun k => k < W.heap.size) A1 c1 x1.f1 a2 true W (Kd.V_mk hc0 (Kd.F_of_C Lkn.h45 hr0)) (Kd.V_mk hc1 (Kd.F_of_C Kd.heap_string hr1)) rfl (Lkn.plain l0 x1.f0 x1.f1 a2)
end Go.Proofs.Ytalcfnhcenpniaa
