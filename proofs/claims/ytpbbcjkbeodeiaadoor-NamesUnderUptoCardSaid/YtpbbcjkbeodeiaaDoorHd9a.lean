/- The head of chapter 9's laws: the small functions. No condition. -/
import Derived.Test.YtpbbcjkbeodeiaaDoorProg
import Derived.Test.YtpbbcjkbeodeiaaDoorNx
import Derived.Test.YtpbbcjkbeodeiaaDoorShelf
import Derived.Deep.RegionHeld3
import Derived.Deep.DeepMust
import Derived.BigQuiet
import Derived.BigCall
set_option linter.unusedVariables false
set_option linter.unusedSimpArgs false
namespace Go.Proofs.YtpbbcjkbeodeiaaDoor
open Go.RowKit Go.Proofs.YtpbbcjkbeodeiaaDoorW.PrintWords
namespace H9
set_option maxHeartbeats 4000000 in
set_option maxRecDepth 100000 in
theorem odd1 (n : Int) (w : World) (h0 : 0 ≤ n) (h1 : n ≤ 268435455) : Calls Tryd.prog 79 #[.int .i64 n] w fun e w' => e = .returned (.bool false) ∧ Below w.heap.size w w' := by
  have e0 : decide (n < 0) = false := by simp; omega
  have e1 : decide (n > 268435455) = false := by simp; omega
  go_enter Tryd.func79, Tryd.ntmps79
  go_wp2
  go_ret
  exact ⟨rfl, Below.refl _ _⟩
set_option maxHeartbeats 4000000 in
set_option maxRecDepth 100000 in
theorem odd1q (n : Int) (w : World) (h0 : 0 ≤ n) (h1 : n ≤ 268435455) : Calls Tryd.prog 79 #[.int .i64 n] w fun e w' => e = .returned (.bool false) ∧ w' = w := by
  have e0 : decide (n < 0) = false := by simp; omega
  have e1 : decide (n > 268435455) = false := by simp; omega
  go_enter Tryd.func79, Tryd.ntmps79
  go_wp2
  go_ret
  exact ⟨rfl, rfl⟩
set_option maxHeartbeats 4000000 in
set_option maxRecDepth 100000 in
theorem valid_Ann (w : World) : Calls Tryd.prog 54 #[.string ⟨#[65, 110, 110]⟩] w fun e w' => e = .returned (.bool true) ∧ Below w.heap.size w w' := by
  go_enter Tryd.func54, Tryd.ntmps54
  go_wp2
  go_loopg [0] 3 (fun gg v0 wr => ((v0 = .string ⟨#[65, 110, 110]⟩ ∧ gg = 3) ∨ (v0 = .string ⟨#[110, 110]⟩ ∧ gg = 2) ∨ (v0 = .string ⟨#[110]⟩ ∧ gg = 1) ∨ (v0 = .string ⟨#[]⟩ ∧ gg = 0)) ∧ wr = w)
  case atStart => exact ⟨.inl ⟨rfl, rfl⟩, rfl⟩
  case round =>
    obtain ⟨h, rfl⟩ := hrel
    rcases h with ⟨rfl, rfl⟩ | ⟨rfl, rfl⟩ | ⟨rfl, rfl⟩ | ⟨rfl, rfl⟩
    · go_wp2
      go_roundg 2
      case measure => omega
      case rel => exact ⟨.inr (.inl ⟨congrArg Value.string (by decide), rfl⟩), rfl⟩
    · go_wp2
      go_roundg 1
      case measure => omega
      case rel => exact ⟨.inr (.inr (.inl ⟨congrArg Value.string (by decide), rfl⟩)), rfl⟩
    · go_wp2
      go_roundg 0
      case measure => omega
      case rel => exact ⟨.inr (.inr (.inr ⟨congrArg Value.string (by decide), rfl⟩)), rfl⟩
    · go_wp2
      go_ret
      exact ⟨rfl, Below.refl _ _⟩
end H9
end Go.Proofs.YtpbbcjkbeodeiaaDoor
