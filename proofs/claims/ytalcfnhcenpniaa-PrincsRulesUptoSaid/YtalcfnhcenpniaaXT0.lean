-- printed by wip/xprint.py (a scratch copy of the kit's print, with contracts by hand)
import Derived.Test.YtalcfnhcenpniaaProg
import Derived.Below
import Derived.Deep.Draws
import Derived.Deep.AppendLies
import Derived.Maps.AppendAt
import Derived.OwnWalk
import Derived.Laws.BytesArg
import Derived.Laws.MakeOwn
import Derived.Laws.OwnMore
import Derived.Deep.OwnRows
import Derived.Tactics
import Derived.Lib.ConvBytes
import Derived.Laws.Slices
import Derived.WalkKit
import Derived.KernelRfl
import Derived.RowKit3
import Derived.Deep.LoopGhost
import Derived.Deep.QuietTactic
import Derived.BigQuiet
import Derived.WideLaws
import Derived.Deep.DeepCutAuto
import Derived.Deep.CutBlock
import Derived.Deep.RegionHeld3
import Derived.Laws.Rows
import Derived.Lib.AppendStr
import Derived.ArgAppend
import Derived.Laws.IdiomCopy
import Derived.OrdersHeld
import Derived.Laws.BitsLemmas
import Derived.RowKit
import Derived.Test.YtalcfnhcenpniaaPl
import Derived.Test.YtalcfnhcenpniaaRunes
import Derived.Outline
import Derived.Laws.EntriesVeiled
import Derived.Lib.SliceRun
import Derived.Test.YtalcfnhcenpniaaPrep
import Derived.Test.YtalcfnhcenpniaaRefPrep
import Derived.Lib.SlBytesConst
import Derived.Test.YtalcfnhcenpniaaNx
import Derived.Test.YtalcfnhcenpniaaWWords
import Derived.Test.YtalcfnhcenpniaaWLast
import Derived.Test.YtalcfnhcenpniaaWTab
import Derived.Test.YtalcfnhcenpniaaWFour
import Derived.Test.YtalcfnhcenpniaaWQPut
import Derived.Test.YtalcfnhcenpniaaWApart
import Derived.Test.YtalcfnhcenpniaaWArr
import Derived.Test.YtalcfnhcenpniaaWZeros
import Derived.Test.YtalcfnhcenpniaaWFoot
import Derived.Test.YtalcfnhcenpniaaWKept
import Derived.Test.YtalcfnhcenpniaaWShare
import Derived.Test.YtalcfnhcenpniaaWN
import Derived.Test.YtalcfnhcenpniaaWFootNe
import Derived.Test.YtalcfnhcenpniaaWAt
import Derived.Test.YtalcfnhcenpniaaWEqStruct
import Derived.Test.YtalcfnhcenpniaaWRepsOne
import Derived.Test.YtalcfnhcenpniaaWInv
import Derived.Test.YtalcfnhcenpniaaWInvWords
import Derived.Test.YtalcfnhcenpniaaWGuard
import Derived.Test.YtalcfnhcenpniaaWNEv
import Derived.Test.YtalcfnhcenpniaaWMore
namespace Go.Proofs.Ytalcfnhcenpniaa.XT
open Go.RowKit Go.Proofs.YtalcfnhcenpniaaW.PrintWords Go.Proofs.YtalcfnhcenpniaaW.PrintLast Go.Proofs.YtalcfnhcenpniaaW.PrintMore
attribute [local go_sem] max2_int min2_int max_two min_two max_three min_three max_four min_four   -- for this text's walks alone
set_option linter.unusedVariables false
set_option linter.unusedSimpArgs false



def errW : Option Int → Value
  | none => .nilIface
  | some c => .iface 0 (.int .i64 c)
theorem errW_none : errW none = .nilIface := rfl
theorem errW_some (c : Int) : errW (some c) = .iface 0 (.int .i64 c) := rfl

theorem info3 : (Try.prog.info? 3).map (fun i => (i.zero, i.size, i.bytes)) = some (some (.int .i64 0), 1, 8) := by kernel_rfl
theorem info9 : (Try.prog.info? 9).map (fun i => (i.zero, i.size, i.bytes)) = some (some (.string ⟨#[]⟩), 1, 16) := by kernel_rfl
theorem info65 : (Try.prog.info? 65).map (fun i => (i.zero, i.size, i.bytes)) = some (some (.agg #[(.slice none 0 0), (.slice none 0 0), (.string ⟨#[]⟩), (.slice none 0 0)]), 4, 88) := by kernel_rfl
-- the values' own types
def rd_L1 (xs : List (List ByteArray)) (i : Int) : (List ByteArray) := xs.getD i.toNat ([] : List ByteArray)
theorem at_L1 {w : World} {A : Option Addr} {n : Nat} {xs : List (List ByteArray)} (h : Kd.C (Kd.slice 9 Kd.string) w A n xs) (i : Int) (h0 : 0 ≤ i) (h1 : i < n) : ∃ ad A0 c0, A = some ad ∧ w.cell? (ad.add i.toNat) = some (.slice A0 (rd_L1 xs i).length c0) ∧ (rd_L1 xs i).length ≤ c0 ∧ Kd.string.C w A0 (rd_L1 xs i).length (rd_L1 xs i) := by
  obtain ⟨ad, c, e, _, hK, hc0⟩ := Kd.C_get h ([] : List ByteArray) i h0 h1
  have hc : ∀ j u, c[j]? = some u → w.cell? (ad.add (i.toNat * 1 + j)) = some u := hc0
  obtain ⟨A0, c0, rfl, l0, g0⟩ := hK
  exact ⟨ad, A0, c0, e, by have hq := hc 0 _ rfl; rwa [Nat.mul_one, Nat.add_zero] at hq, l0, g0⟩

/-! #### struct type 43 -/
structure S43 where
  f0 : ByteArray
  f1 : (List ByteArray)
def z43 : S43 := ⟨(⟨#[]⟩ : ByteArray), ([] : List ByteArray)⟩
def k43 : Kd S43 := Kd.iso (Kd.pair Kd.string (Kd.slice 9 Kd.string)) (fun x : S43 => (x.f0, x.f1))
theorem k43_heap : Kd.Heap k43 := Kd.heap_iso _ (Kd.heap_pair Kd.heap_string (Kd.heap_slice 9 Kd.heap_string))
theorem k43_open {w : World} {x : S43} {cs : List Value} (h : k43.K w x cs) : ∃ A1 c1, cs = [.string x.f0, .slice A1 x.f1.length c1] ∧ x.f1.length ≤ c1 ∧ Kd.string.C w A1 x.f1.length x.f1 := by
  obtain ⟨_, _, rfl, rfl, ⟨A1, c1, rfl, l1, g1⟩⟩ := h
  exact ⟨A1, c1, rfl, l1, g1⟩
theorem k43_openM {w : World} {base : Nat} {ok : Nat → Prop} {x : S43} {cs : List Value} (h : k43.M w base ok x cs) : ∃ v1, cs = [.string x.f0, v1] ∧ Kd.string.R 9 w base ok v1 x.f1 := by
  obtain ⟨_, _, rfl, rfl, ⟨v1, rfl, g1⟩⟩ := h
  exact ⟨v1, rfl, g1⟩
theorem k43_mk (w : World) (x : S43) {A1 : Option Addr} {c1 : Nat} (l1 : x.f1.length ≤ c1) (g1 : Kd.string.C w A1 x.f1.length x.f1) : k43.K w x [.string x.f0, .slice A1 x.f1.length c1] := ⟨[.string x.f0], [.slice A1 x.f1.length c1], rfl, rfl, ⟨A1, c1, rfl, l1, g1⟩⟩
theorem k43_mkM (w : World) (base : Nat) (ok : Nat → Prop) (x : S43) {v1 : Value} (g1 : Kd.string.R 9 w base ok v1 x.f1) : k43.M w base ok x [.string x.f0, v1] := ⟨[.string x.f0], [v1], rfl, rfl, ⟨v1, rfl, g1⟩⟩
theorem k43_openF {W : World} {ok : Nat → Prop} {x : S43} {cs : List Value} (h : Kd.FK k43 W ok x cs) : ∃ A1 c1, cs = [.string x.f0, .slice A1 x.f1.length c1] ∧ x.f1.length ≤ c1 ∧ Kd.F Kd.string W ok A1 x.f1.length x.f1 := by
  obtain ⟨A1, c1, rfl, l1, _⟩ := k43_open (Kd.FK_now h)
  exact ⟨A1, c1, rfl, l1, (fun W' hW => by obtain ⟨A1_, c1_, he, l1_, g1_⟩ := k43_open (h W' hW); injection (Option.some.inj (show some (Value.slice A1 x.f1.length c1) = some (Value.slice A1_ x.f1.length c1_) from congrArg (fun l => l[1]?) he)) with ha_ _ _; rw [ha_]; exact g1_)⟩
theorem k43_mkF (W : World) (ok : Nat → Prop) (x : S43) {A1 : Option Addr} {c1 : Nat} (l1 : x.f1.length ≤ c1) (g1 : Kd.F Kd.string W ok A1 x.f1.length x.f1) : Kd.FK k43 W ok x [.string x.f0, .slice A1 x.f1.length c1] := fun W2 hW => k43_mk W2 x l1 (g1 W2 hW)
def rd_T43 (xs : List S43) (i : Int) : S43 := xs.getD i.toNat z43
theorem at_T43 {w : World} {A : Option Addr} {n : Nat} {xs : List S43} (h : Kd.C k43 w A n xs) (i : Int) (h0 : 0 ≤ i) (h1 : i < n) : ∃ ad A1 c1, A = some ad ∧ w.cell? (ad.add (i.toNat * 2)) = some (.string (rd_T43 xs i).f0) ∧ w.cell? ⟨(ad.add (i.toNat * 2)).block, (ad.add (i.toNat * 2)).off + 1, none⟩ = some (.slice A1 (rd_T43 xs i).f1.length c1) ∧ (rd_T43 xs i).f1.length ≤ c1 ∧ Kd.string.C w A1 (rd_T43 xs i).f1.length (rd_T43 xs i).f1 := by
  obtain ⟨ad, c, e, _, hK, hc0⟩ := Kd.C_get h z43 i h0 h1
  have hc : ∀ j u, c[j]? = some u → w.cell? (ad.add (i.toNat * 2 + j)) = some u := hc0
  obtain ⟨A1, c1, rfl, l1, g1⟩ := k43_open hK
  exact ⟨ad, A1, c1, e, hc 0 _ rfl, by rw [← add_field _ _ 1 (by omega)]; exact hc 1 _ rfl, l1, g1⟩

/-! #### struct type 45 -/
structure S45 where
  f0 : S43
  f1 : Int
def z45 : S45 := ⟨z43, (0 : Int)⟩
def k45 : Kd S45 := Kd.iso (Kd.pair k43 (Kd.int .i64)) (fun x : S45 => (x.f0, x.f1))
theorem k45_heap : Kd.Heap k45 := Kd.heap_iso _ (Kd.heap_pair k43_heap (Kd.heap_int .i64))
theorem k45_open {w : World} {x : S45} {cs : List Value} (h : k45.K w x cs) : ∃ A1 c1, cs = [.string x.f0.f0, .slice A1 x.f0.f1.length c1, .int .i64 x.f1] ∧ x.f0.f1.length ≤ c1 ∧ Kd.string.C w A1 x.f0.f1.length x.f0.f1 := by
  obtain ⟨_, _, rfl, s0, rfl⟩ := h
  obtain ⟨A1, c1, rfl, l1, g1⟩ := k43_open s0
  exact ⟨A1, c1, rfl, l1, g1⟩
theorem k45_openM {w : World} {base : Nat} {ok : Nat → Prop} {x : S45} {cs : List Value} (h : k45.M w base ok x cs) : ∃ v1, cs = [.string x.f0.f0, v1, .int .i64 x.f1] ∧ Kd.string.R 9 w base ok v1 x.f0.f1 := by
  obtain ⟨_, _, rfl, s0, rfl⟩ := h
  obtain ⟨v1, rfl, g1⟩ := k43_openM s0
  exact ⟨v1, rfl, g1⟩
theorem k45_mk (w : World) (x : S45) {A1 : Option Addr} {c1 : Nat} (l1 : x.f0.f1.length ≤ c1) (g1 : Kd.string.C w A1 x.f0.f1.length x.f0.f1) : k45.K w x [.string x.f0.f0, .slice A1 x.f0.f1.length c1, .int .i64 x.f1] := ⟨[.string x.f0.f0, .slice A1 x.f0.f1.length c1], [.int .i64 x.f1], rfl, (k43_mk w x.f0 l1 g1), rfl⟩
theorem k45_mkM (w : World) (base : Nat) (ok : Nat → Prop) (x : S45) {v1 : Value} (g1 : Kd.string.R 9 w base ok v1 x.f0.f1) : k45.M w base ok x [.string x.f0.f0, v1, .int .i64 x.f1] := ⟨[.string x.f0.f0, v1], [.int .i64 x.f1], rfl, (k43_mkM w base ok x.f0 g1), rfl⟩
theorem k45_openF {W : World} {ok : Nat → Prop} {x : S45} {cs : List Value} (h : Kd.FK k45 W ok x cs) : ∃ A1 c1, cs = [.string x.f0.f0, .slice A1 x.f0.f1.length c1, .int .i64 x.f1] ∧ x.f0.f1.length ≤ c1 ∧ Kd.F Kd.string W ok A1 x.f0.f1.length x.f0.f1 := by
  obtain ⟨A1, c1, rfl, l1, _⟩ := k45_open (Kd.FK_now h)
  exact ⟨A1, c1, rfl, l1, (fun W' hW => by obtain ⟨A1_, c1_, he, l1_, g1_⟩ := k45_open (h W' hW); injection (Option.some.inj (show some (Value.slice A1 x.f0.f1.length c1) = some (Value.slice A1_ x.f0.f1.length c1_) from congrArg (fun l => l[1]?) he)) with ha_ _ _; rw [ha_]; exact g1_)⟩
theorem k45_mkF (W : World) (ok : Nat → Prop) (x : S45) {A1 : Option Addr} {c1 : Nat} (l1 : x.f0.f1.length ≤ c1) (g1 : Kd.F Kd.string W ok A1 x.f0.f1.length x.f0.f1) : Kd.FK k45 W ok x [.string x.f0.f0, .slice A1 x.f0.f1.length c1, .int .i64 x.f1] := fun W2 hW => k45_mk W2 x l1 (g1 W2 hW)
def rd_T45 (xs : List S45) (i : Int) : S45 := xs.getD i.toNat z45
theorem at_T45 {w : World} {A : Option Addr} {n : Nat} {xs : List S45} (h : Kd.C k45 w A n xs) (i : Int) (h0 : 0 ≤ i) (h1 : i < n) : ∃ ad A1 c1, A = some ad ∧ w.cell? (ad.add (i.toNat * 3)) = some (.string (rd_T45 xs i).f0.f0) ∧ w.cell? ⟨(ad.add (i.toNat * 3)).block, (ad.add (i.toNat * 3)).off + 1, none⟩ = some (.slice A1 (rd_T45 xs i).f0.f1.length c1) ∧ w.cell? ⟨(ad.add (i.toNat * 3)).block, (ad.add (i.toNat * 3)).off + 2, none⟩ = some (.int .i64 (rd_T45 xs i).f1) ∧ (rd_T45 xs i).f0.f1.length ≤ c1 ∧ Kd.string.C w A1 (rd_T45 xs i).f0.f1.length (rd_T45 xs i).f0.f1 := by
  obtain ⟨ad, c, e, _, hK, hc0⟩ := Kd.C_get h z45 i h0 h1
  have hc : ∀ j u, c[j]? = some u → w.cell? (ad.add (i.toNat * 3 + j)) = some u := hc0
  obtain ⟨A1, c1, rfl, l1, g1⟩ := k45_open hK
  exact ⟨ad, A1, c1, e, hc 0 _ rfl, by rw [← add_field _ _ 1 (by omega)]; exact hc 1 _ rfl, by rw [← add_field _ _ 2 (by omega)]; exact hc 2 _ rfl, l1, g1⟩

def rd_L5 (xs : List (List S45)) (i : Int) : (List S45) := xs.getD i.toNat ([] : List S45)
theorem at_L5 {w : World} {A : Option Addr} {n : Nat} {xs : List (List S45)} (h : Kd.C (Kd.slice 45 k45) w A n xs) (i : Int) (h0 : 0 ≤ i) (h1 : i < n) : ∃ ad A0 c0, A = some ad ∧ w.cell? (ad.add i.toNat) = some (.slice A0 (rd_L5 xs i).length c0) ∧ (rd_L5 xs i).length ≤ c0 ∧ k45.C w A0 (rd_L5 xs i).length (rd_L5 xs i) := by
  obtain ⟨ad, c, e, _, hK, hc0⟩ := Kd.C_get h ([] : List S45) i h0 h1
  have hc : ∀ j u, c[j]? = some u → w.cell? (ad.add (i.toNat * 1 + j)) = some u := hc0
  obtain ⟨A0, c0, rfl, l0, g0⟩ := hK
  exact ⟨ad, A0, c0, e, by have hq := hc 0 _ rfl; rwa [Nat.mul_one, Nat.add_zero] at hq, l0, g0⟩

def rd_L6 (xs : List (List S43)) (i : Int) : (List S43) := xs.getD i.toNat ([] : List S43)
theorem at_L6 {w : World} {A : Option Addr} {n : Nat} {xs : List (List S43)} (h : Kd.C (Kd.slice 43 k43) w A n xs) (i : Int) (h0 : 0 ≤ i) (h1 : i < n) : ∃ ad A0 c0, A = some ad ∧ w.cell? (ad.add i.toNat) = some (.slice A0 (rd_L6 xs i).length c0) ∧ (rd_L6 xs i).length ≤ c0 ∧ k43.C w A0 (rd_L6 xs i).length (rd_L6 xs i) := by
  obtain ⟨ad, c, e, _, hK, hc0⟩ := Kd.C_get h ([] : List S43) i h0 h1
  have hc : ∀ j u, c[j]? = some u → w.cell? (ad.add (i.toNat * 1 + j)) = some u := hc0
  obtain ⟨A0, c0, rfl, l0, g0⟩ := hK
  exact ⟨ad, A0, c0, e, by have hq := hc 0 _ rfl; rwa [Nat.mul_one, Nat.add_zero] at hq, l0, g0⟩

def rd_L8 (xs : List (List Int)) (i : Int) : (List Int) := xs.getD i.toNat ([] : List Int)
theorem at_L8 {w : World} {A : Option Addr} {n : Nat} {xs : List (List Int)} (h : Kd.C (Kd.slice 3 (Kd.int .i64)) w A n xs) (i : Int) (h0 : 0 ≤ i) (h1 : i < n) : ∃ ad A0 c0, A = some ad ∧ w.cell? (ad.add i.toNat) = some (.slice A0 (rd_L8 xs i).length c0) ∧ (rd_L8 xs i).length ≤ c0 ∧ (Kd.int .i64).C w A0 (rd_L8 xs i).length (rd_L8 xs i) := by
  obtain ⟨ad, c, e, _, hK, hc0⟩ := Kd.C_get h ([] : List Int) i h0 h1
  have hc : ∀ j u, c[j]? = some u → w.cell? (ad.add (i.toNat * 1 + j)) = some u := hc0
  obtain ⟨A0, c0, rfl, l0, g0⟩ := hK
  exact ⟨ad, A0, c0, e, by have hq := hc 0 _ rfl; rwa [Nat.mul_one, Nat.add_zero] at hq, l0, g0⟩

/-! #### struct type 35 -/
structure S35 where
  f0 : (List Int)
  f1 : ByteArray
def z35 : S35 := ⟨([] : List Int), (⟨#[]⟩ : ByteArray)⟩
def k35 : Kd S35 := Kd.iso (Kd.pair (Kd.slice 3 (Kd.int .i64)) Kd.string) (fun x : S35 => (x.f0, x.f1))
theorem k35_heap : Kd.Heap k35 := Kd.heap_iso _ (Kd.heap_pair (Kd.heap_slice 3 (Kd.heap_int .i64)) Kd.heap_string)
theorem k35_open {w : World} {x : S35} {cs : List Value} (h : k35.K w x cs) : ∃ A0 c0, cs = [.slice A0 x.f0.length c0, .string x.f1] ∧ x.f0.length ≤ c0 ∧ (Kd.int .i64).C w A0 x.f0.length x.f0 := by
  obtain ⟨_, _, rfl, ⟨A0, c0, rfl, l0, g0⟩, rfl⟩ := h
  exact ⟨A0, c0, rfl, l0, g0⟩
theorem k35_openM {w : World} {base : Nat} {ok : Nat → Prop} {x : S35} {cs : List Value} (h : k35.M w base ok x cs) : ∃ v0, cs = [v0, .string x.f1] ∧ (Kd.int .i64).R 3 w base ok v0 x.f0 := by
  obtain ⟨_, _, rfl, ⟨v0, rfl, g0⟩, rfl⟩ := h
  exact ⟨v0, rfl, g0⟩
theorem k35_mk (w : World) (x : S35) {A0 : Option Addr} {c0 : Nat} (l0 : x.f0.length ≤ c0) (g0 : (Kd.int .i64).C w A0 x.f0.length x.f0) : k35.K w x [.slice A0 x.f0.length c0, .string x.f1] := ⟨[.slice A0 x.f0.length c0], [.string x.f1], rfl, ⟨A0, c0, rfl, l0, g0⟩, rfl⟩
theorem k35_mkM (w : World) (base : Nat) (ok : Nat → Prop) (x : S35) {v0 : Value} (g0 : (Kd.int .i64).R 3 w base ok v0 x.f0) : k35.M w base ok x [v0, .string x.f1] := ⟨[v0], [.string x.f1], rfl, ⟨v0, rfl, g0⟩, rfl⟩
theorem k35_openF {W : World} {ok : Nat → Prop} {x : S35} {cs : List Value} (h : Kd.FK k35 W ok x cs) : ∃ A0 c0, cs = [.slice A0 x.f0.length c0, .string x.f1] ∧ x.f0.length ≤ c0 ∧ Kd.F (Kd.int .i64) W ok A0 x.f0.length x.f0 := by
  obtain ⟨A0, c0, rfl, l0, _⟩ := k35_open (Kd.FK_now h)
  exact ⟨A0, c0, rfl, l0, (fun W' hW => by obtain ⟨A0_, c0_, he, l0_, g0_⟩ := k35_open (h W' hW); injection (Option.some.inj (show some (Value.slice A0 x.f0.length c0) = some (Value.slice A0_ x.f0.length c0_) from congrArg (fun l => l[0]?) he)) with ha_ _ _; rw [ha_]; exact g0_)⟩
theorem k35_mkF (W : World) (ok : Nat → Prop) (x : S35) {A0 : Option Addr} {c0 : Nat} (l0 : x.f0.length ≤ c0) (g0 : Kd.F (Kd.int .i64) W ok A0 x.f0.length x.f0) : Kd.FK k35 W ok x [.slice A0 x.f0.length c0, .string x.f1] := fun W2 hW => k35_mk W2 x l0 (g0 W2 hW)
def rd_T35 (xs : List S35) (i : Int) : S35 := xs.getD i.toNat z35
theorem at_T35 {w : World} {A : Option Addr} {n : Nat} {xs : List S35} (h : Kd.C k35 w A n xs) (i : Int) (h0 : 0 ≤ i) (h1 : i < n) : ∃ ad A0 c0, A = some ad ∧ w.cell? (ad.add (i.toNat * 2)) = some (.slice A0 (rd_T35 xs i).f0.length c0) ∧ w.cell? ⟨(ad.add (i.toNat * 2)).block, (ad.add (i.toNat * 2)).off + 1, none⟩ = some (.string (rd_T35 xs i).f1) ∧ (rd_T35 xs i).f0.length ≤ c0 ∧ (Kd.int .i64).C w A0 (rd_T35 xs i).f0.length (rd_T35 xs i).f0 := by
  obtain ⟨ad, c, e, _, hK, hc0⟩ := Kd.C_get h z35 i h0 h1
  have hc : ∀ j u, c[j]? = some u → w.cell? (ad.add (i.toNat * 2 + j)) = some u := hc0
  obtain ⟨A0, c0, rfl, l0, g0⟩ := k35_open hK
  exact ⟨ad, A0, c0, e, hc 0 _ rfl, by rw [← add_field _ _ 1 (by omega)]; exact hc 1 _ rfl, l0, g0⟩

def rd_L10 (xs : List (List S35)) (i : Int) : (List S35) := xs.getD i.toNat ([] : List S35)
theorem at_L10 {w : World} {A : Option Addr} {n : Nat} {xs : List (List S35)} (h : Kd.C (Kd.slice 35 k35) w A n xs) (i : Int) (h0 : 0 ≤ i) (h1 : i < n) : ∃ ad A0 c0, A = some ad ∧ w.cell? (ad.add i.toNat) = some (.slice A0 (rd_L10 xs i).length c0) ∧ (rd_L10 xs i).length ≤ c0 ∧ k35.C w A0 (rd_L10 xs i).length (rd_L10 xs i) := by
  obtain ⟨ad, c, e, _, hK, hc0⟩ := Kd.C_get h ([] : List S35) i h0 h1
  have hc : ∀ j u, c[j]? = some u → w.cell? (ad.add (i.toNat * 1 + j)) = some u := hc0
  obtain ⟨A0, c0, rfl, l0, g0⟩ := hK
  exact ⟨ad, A0, c0, e, by have hq := hc 0 _ rfl; rwa [Nat.mul_one, Nat.add_zero] at hq, l0, g0⟩

def rd_L12 (xs : List (List (List Int))) (i : Int) : (List (List Int)) := xs.getD i.toNat ([] : List (List Int))
theorem at_L12 {w : World} {A : Option Addr} {n : Nat} {xs : List (List (List Int))} (h : Kd.C (Kd.slice 33 (Kd.slice 3 (Kd.int .i64))) w A n xs) (i : Int) (h0 : 0 ≤ i) (h1 : i < n) : ∃ ad A0 c0, A = some ad ∧ w.cell? (ad.add i.toNat) = some (.slice A0 (rd_L12 xs i).length c0) ∧ (rd_L12 xs i).length ≤ c0 ∧ (Kd.slice 3 (Kd.int .i64)).C w A0 (rd_L12 xs i).length (rd_L12 xs i) := by
  obtain ⟨ad, c, e, _, hK, hc0⟩ := Kd.C_get h ([] : List (List Int)) i h0 h1
  have hc : ∀ j u, c[j]? = some u → w.cell? (ad.add (i.toNat * 1 + j)) = some u := hc0
  obtain ⟨A0, c0, rfl, l0, g0⟩ := hK
  exact ⟨ad, A0, c0, e, by have hq := hc 0 _ rfl; rwa [Nat.mul_one, Nat.add_zero] at hq, l0, g0⟩

def rd_L13 (xs : List (List (List S35))) (i : Int) : (List (List S35)) := xs.getD i.toNat ([] : List (List S35))
theorem at_L13 {w : World} {A : Option Addr} {n : Nat} {xs : List (List (List S35))} (h : Kd.C (Kd.slice 27 (Kd.slice 35 k35)) w A n xs) (i : Int) (h0 : 0 ≤ i) (h1 : i < n) : ∃ ad A0 c0, A = some ad ∧ w.cell? (ad.add i.toNat) = some (.slice A0 (rd_L13 xs i).length c0) ∧ (rd_L13 xs i).length ≤ c0 ∧ (Kd.slice 35 k35).C w A0 (rd_L13 xs i).length (rd_L13 xs i) := by
  obtain ⟨ad, c, e, _, hK, hc0⟩ := Kd.C_get h ([] : List (List S35)) i h0 h1
  have hc : ∀ j u, c[j]? = some u → w.cell? (ad.add (i.toNat * 1 + j)) = some u := hc0
  obtain ⟨A0, c0, rfl, l0, g0⟩ := hK
  exact ⟨ad, A0, c0, e, by have hq := hc 0 _ rfl; rwa [Nat.mul_one, Nat.add_zero] at hq, l0, g0⟩

def rd_L15 (xs : List (List Int)) (i : Int) : (List Int) := xs.getD i.toNat ([] : List Int)
theorem at_L15 {w : World} {A : Option Addr} {n : Nat} {xs : List (List Int)} (h : Kd.C (Kd.slice 5 (Kd.int .u8)) w A n xs) (i : Int) (h0 : 0 ≤ i) (h1 : i < n) : ∃ ad A0 c0, A = some ad ∧ w.cell? (ad.add i.toNat) = some (.slice A0 (rd_L15 xs i).length c0) ∧ (rd_L15 xs i).length ≤ c0 ∧ (Kd.int .u8).C w A0 (rd_L15 xs i).length (rd_L15 xs i) := by
  obtain ⟨ad, c, e, _, hK, hc0⟩ := Kd.C_get h ([] : List Int) i h0 h1
  have hc : ∀ j u, c[j]? = some u → w.cell? (ad.add (i.toNat * 1 + j)) = some u := hc0
  obtain ⟨A0, c0, rfl, l0, g0⟩ := hK
  exact ⟨ad, A0, c0, e, by have hq := hc 0 _ rfl; rwa [Nat.mul_one, Nat.add_zero] at hq, l0, g0⟩

/-! #### struct type 134 -/
structure S134 where
  f0 : (List Int)
  f1 : Bool
  f2 : (List Int)
def z134 : S134 := ⟨([] : List Int), false, ([] : List Int)⟩
def k134 : Kd S134 := Kd.iso (Kd.pair (Kd.slice 3 (Kd.int .i64)) (Kd.pair Kd.bool (Kd.slice 5 (Kd.int .u8)))) (fun x : S134 => (x.f0, x.f1, x.f2))
theorem k134_heap : Kd.Heap k134 := Kd.heap_iso _ (Kd.heap_pair (Kd.heap_slice 3 (Kd.heap_int .i64)) (Kd.heap_pair Kd.heap_bool (Kd.heap_slice 5 (Kd.heap_int .u8))))
theorem k134_open {w : World} {x : S134} {cs : List Value} (h : k134.K w x cs) : ∃ A0 c0 A2 c2, cs = [.slice A0 x.f0.length c0, .bool x.f1, .slice A2 x.f2.length c2] ∧ x.f0.length ≤ c0 ∧ (Kd.int .i64).C w A0 x.f0.length x.f0 ∧ x.f2.length ≤ c2 ∧ (Kd.int .u8).C w A2 x.f2.length x.f2 := by
  obtain ⟨_, _, rfl, ⟨A0, c0, rfl, l0, g0⟩, ⟨_, _, rfl, rfl, ⟨A2, c2, rfl, l2, g2⟩⟩⟩ := h
  exact ⟨A0, c0, A2, c2, rfl, l0, g0, l2, g2⟩
theorem k134_openM {w : World} {base : Nat} {ok : Nat → Prop} {x : S134} {cs : List Value} (h : k134.M w base ok x cs) : ∃ v0 v2, cs = [v0, .bool x.f1, v2] ∧ (Kd.int .i64).R 3 w base ok v0 x.f0 ∧ (Kd.int .u8).R 5 w base ok v2 x.f2 := by
  obtain ⟨_, _, rfl, ⟨v0, rfl, g0⟩, ⟨_, _, rfl, rfl, ⟨v2, rfl, g2⟩⟩⟩ := h
  exact ⟨v0, v2, rfl, g0, g2⟩
theorem k134_mk (w : World) (x : S134) {A0 : Option Addr} {c0 : Nat} (l0 : x.f0.length ≤ c0) (g0 : (Kd.int .i64).C w A0 x.f0.length x.f0) {A2 : Option Addr} {c2 : Nat} (l2 : x.f2.length ≤ c2) (g2 : (Kd.int .u8).C w A2 x.f2.length x.f2) : k134.K w x [.slice A0 x.f0.length c0, .bool x.f1, .slice A2 x.f2.length c2] := ⟨[.slice A0 x.f0.length c0], [.bool x.f1, .slice A2 x.f2.length c2], rfl, ⟨A0, c0, rfl, l0, g0⟩, ⟨[.bool x.f1], [.slice A2 x.f2.length c2], rfl, rfl, ⟨A2, c2, rfl, l2, g2⟩⟩⟩
theorem k134_mkM (w : World) (base : Nat) (ok : Nat → Prop) (x : S134) {v0 : Value} (g0 : (Kd.int .i64).R 3 w base ok v0 x.f0) {v2 : Value} (g2 : (Kd.int .u8).R 5 w base ok v2 x.f2) : k134.M w base ok x [v0, .bool x.f1, v2] := ⟨[v0], [.bool x.f1, v2], rfl, ⟨v0, rfl, g0⟩, ⟨[.bool x.f1], [v2], rfl, rfl, ⟨v2, rfl, g2⟩⟩⟩
theorem k134_openF {W : World} {ok : Nat → Prop} {x : S134} {cs : List Value} (h : Kd.FK k134 W ok x cs) : ∃ A0 c0 A2 c2, cs = [.slice A0 x.f0.length c0, .bool x.f1, .slice A2 x.f2.length c2] ∧ x.f0.length ≤ c0 ∧ Kd.F (Kd.int .i64) W ok A0 x.f0.length x.f0 ∧ x.f2.length ≤ c2 ∧ Kd.F (Kd.int .u8) W ok A2 x.f2.length x.f2 := by
  obtain ⟨A0, c0, A2, c2, rfl, l0, _, l2, _⟩ := k134_open (Kd.FK_now h)
  exact ⟨A0, c0, A2, c2, rfl, l0, (fun W' hW => by obtain ⟨A0_, c0_, A2_, c2_, he, l0_, g0_, l2_, g2_⟩ := k134_open (h W' hW); injection (Option.some.inj (show some (Value.slice A0 x.f0.length c0) = some (Value.slice A0_ x.f0.length c0_) from congrArg (fun l => l[0]?) he)) with ha_ _ _; rw [ha_]; exact g0_), l2, (fun W' hW => by obtain ⟨A0_, c0_, A2_, c2_, he, l0_, g0_, l2_, g2_⟩ := k134_open (h W' hW); injection (Option.some.inj (show some (Value.slice A2 x.f2.length c2) = some (Value.slice A2_ x.f2.length c2_) from congrArg (fun l => l[2]?) he)) with ha_ _ _; rw [ha_]; exact g2_)⟩
theorem k134_mkF (W : World) (ok : Nat → Prop) (x : S134) {A0 : Option Addr} {c0 : Nat} (l0 : x.f0.length ≤ c0) (g0 : Kd.F (Kd.int .i64) W ok A0 x.f0.length x.f0) {A2 : Option Addr} {c2 : Nat} (l2 : x.f2.length ≤ c2) (g2 : Kd.F (Kd.int .u8) W ok A2 x.f2.length x.f2) : Kd.FK k134 W ok x [.slice A0 x.f0.length c0, .bool x.f1, .slice A2 x.f2.length c2] := fun W2 hW => k134_mk W2 x l0 (g0 W2 hW) l2 (g2 W2 hW)
def rd_T134 (xs : List S134) (i : Int) : S134 := xs.getD i.toNat z134
theorem at_T134 {w : World} {A : Option Addr} {n : Nat} {xs : List S134} (h : Kd.C k134 w A n xs) (i : Int) (h0 : 0 ≤ i) (h1 : i < n) : ∃ ad A0 c0 A2 c2, A = some ad ∧ w.cell? (ad.add (i.toNat * 3)) = some (.slice A0 (rd_T134 xs i).f0.length c0) ∧ w.cell? ⟨(ad.add (i.toNat * 3)).block, (ad.add (i.toNat * 3)).off + 1, none⟩ = some (.bool (rd_T134 xs i).f1) ∧ w.cell? ⟨(ad.add (i.toNat * 3)).block, (ad.add (i.toNat * 3)).off + 2, none⟩ = some (.slice A2 (rd_T134 xs i).f2.length c2) ∧ (rd_T134 xs i).f0.length ≤ c0 ∧ (Kd.int .i64).C w A0 (rd_T134 xs i).f0.length (rd_T134 xs i).f0 ∧ (rd_T134 xs i).f2.length ≤ c2 ∧ (Kd.int .u8).C w A2 (rd_T134 xs i).f2.length (rd_T134 xs i).f2 := by
  obtain ⟨ad, c, e, _, hK, hc0⟩ := Kd.C_get h z134 i h0 h1
  have hc : ∀ j u, c[j]? = some u → w.cell? (ad.add (i.toNat * 3 + j)) = some u := hc0
  obtain ⟨A0, c0, A2, c2, rfl, l0, g0, l2, g2⟩ := k134_open hK
  exact ⟨ad, A0, c0, A2, c2, e, hc 0 _ rfl, by rw [← add_field _ _ 1 (by omega)]; exact hc 1 _ rfl, by rw [← add_field _ _ 2 (by omega)]; exact hc 2 _ rfl, l0, g0, l2, g2⟩

def rd_L17 (xs : List (List S134)) (i : Int) : (List S134) := xs.getD i.toNat ([] : List S134)
theorem at_L17 {w : World} {A : Option Addr} {n : Nat} {xs : List (List S134)} (h : Kd.C (Kd.slice 134 k134) w A n xs) (i : Int) (h0 : 0 ≤ i) (h1 : i < n) : ∃ ad A0 c0, A = some ad ∧ w.cell? (ad.add i.toNat) = some (.slice A0 (rd_L17 xs i).length c0) ∧ (rd_L17 xs i).length ≤ c0 ∧ k134.C w A0 (rd_L17 xs i).length (rd_L17 xs i) := by
  obtain ⟨ad, c, e, _, hK, hc0⟩ := Kd.C_get h ([] : List S134) i h0 h1
  have hc : ∀ j u, c[j]? = some u → w.cell? (ad.add (i.toNat * 1 + j)) = some u := hc0
  obtain ⟨A0, c0, rfl, l0, g0⟩ := hK
  exact ⟨ad, A0, c0, e, by have hq := hc 0 _ rfl; rwa [Nat.mul_one, Nat.add_zero] at hq, l0, g0⟩

/-! #### struct type 55 -/
structure S55 where
  f0 : Bool
  f1 : Bool
  f2 : Int
  f3 : Int
  f4 : (List (List Int))
  f5 : (List S43)
  f6 : (List (List S35))
  f7 : (List (List S35))
  f8 : (List S134)
def z55 : S55 := ⟨false, false, (0 : Int), (0 : Int), ([] : List (List Int)), ([] : List S43), ([] : List (List S35)), ([] : List (List S35)), ([] : List S134)⟩
def k55 : Kd S55 := Kd.iso (Kd.pair Kd.bool (Kd.pair Kd.bool (Kd.pair (Kd.int .i64) (Kd.pair (Kd.int .u16) (Kd.pair (Kd.slice 33 (Kd.slice 3 (Kd.int .i64))) (Kd.pair (Kd.slice 43 k43) (Kd.pair (Kd.slice 27 (Kd.slice 35 k35)) (Kd.pair (Kd.slice 27 (Kd.slice 35 k35)) (Kd.slice 134 k134))))))))) (fun x : S55 => (x.f0, x.f1, x.f2, x.f3, x.f4, x.f5, x.f6, x.f7, x.f8))
theorem k55_heap : Kd.Heap k55 := Kd.heap_iso _ (Kd.heap_pair Kd.heap_bool (Kd.heap_pair Kd.heap_bool (Kd.heap_pair (Kd.heap_int .i64) (Kd.heap_pair (Kd.heap_int .u16) (Kd.heap_pair (Kd.heap_slice 33 (Kd.heap_slice 3 (Kd.heap_int .i64))) (Kd.heap_pair (Kd.heap_slice 43 k43_heap) (Kd.heap_pair (Kd.heap_slice 27 (Kd.heap_slice 35 k35_heap)) (Kd.heap_pair (Kd.heap_slice 27 (Kd.heap_slice 35 k35_heap)) (Kd.heap_slice 134 k134_heap)))))))))
theorem k55_open {w : World} {x : S55} {cs : List Value} (h : k55.K w x cs) : ∃ A4 c4 A5 c5 A6 c6 A7 c7 A8 c8, cs = [.bool x.f0, .bool x.f1, .int .i64 x.f2, .int .u16 x.f3, .slice A4 x.f4.length c4, .slice A5 x.f5.length c5, .slice A6 x.f6.length c6, .slice A7 x.f7.length c7, .slice A8 x.f8.length c8] ∧ x.f4.length ≤ c4 ∧ (Kd.slice 3 (Kd.int .i64)).C w A4 x.f4.length x.f4 ∧ x.f5.length ≤ c5 ∧ k43.C w A5 x.f5.length x.f5 ∧ x.f6.length ≤ c6 ∧ (Kd.slice 35 k35).C w A6 x.f6.length x.f6 ∧ x.f7.length ≤ c7 ∧ (Kd.slice 35 k35).C w A7 x.f7.length x.f7 ∧ x.f8.length ≤ c8 ∧ k134.C w A8 x.f8.length x.f8 := by
  obtain ⟨_, _, rfl, rfl, ⟨_, _, rfl, rfl, ⟨_, _, rfl, rfl, ⟨_, _, rfl, rfl, ⟨_, _, rfl, ⟨A4, c4, rfl, l4, g4⟩, ⟨_, _, rfl, ⟨A5, c5, rfl, l5, g5⟩, ⟨_, _, rfl, ⟨A6, c6, rfl, l6, g6⟩, ⟨_, _, rfl, ⟨A7, c7, rfl, l7, g7⟩, ⟨A8, c8, rfl, l8, g8⟩⟩⟩⟩⟩⟩⟩⟩⟩ := h
  exact ⟨A4, c4, A5, c5, A6, c6, A7, c7, A8, c8, rfl, l4, g4, l5, g5, l6, g6, l7, g7, l8, g8⟩
theorem k55_openM {w : World} {base : Nat} {ok : Nat → Prop} {x : S55} {cs : List Value} (h : k55.M w base ok x cs) : ∃ v4 v5 v6 v7 v8, cs = [.bool x.f0, .bool x.f1, .int .i64 x.f2, .int .u16 x.f3, v4, v5, v6, v7, v8] ∧ (Kd.slice 3 (Kd.int .i64)).R 33 w base ok v4 x.f4 ∧ k43.R 43 w base ok v5 x.f5 ∧ (Kd.slice 35 k35).R 27 w base ok v6 x.f6 ∧ (Kd.slice 35 k35).R 27 w base ok v7 x.f7 ∧ k134.R 134 w base ok v8 x.f8 := by
  obtain ⟨_, _, rfl, rfl, ⟨_, _, rfl, rfl, ⟨_, _, rfl, rfl, ⟨_, _, rfl, rfl, ⟨_, _, rfl, ⟨v4, rfl, g4⟩, ⟨_, _, rfl, ⟨v5, rfl, g5⟩, ⟨_, _, rfl, ⟨v6, rfl, g6⟩, ⟨_, _, rfl, ⟨v7, rfl, g7⟩, ⟨v8, rfl, g8⟩⟩⟩⟩⟩⟩⟩⟩⟩ := h
  exact ⟨v4, v5, v6, v7, v8, rfl, g4, g5, g6, g7, g8⟩
theorem k55_mk (w : World) (x : S55) {A4 : Option Addr} {c4 : Nat} (l4 : x.f4.length ≤ c4) (g4 : (Kd.slice 3 (Kd.int .i64)).C w A4 x.f4.length x.f4) {A5 : Option Addr} {c5 : Nat} (l5 : x.f5.length ≤ c5) (g5 : k43.C w A5 x.f5.length x.f5) {A6 : Option Addr} {c6 : Nat} (l6 : x.f6.length ≤ c6) (g6 : (Kd.slice 35 k35).C w A6 x.f6.length x.f6) {A7 : Option Addr} {c7 : Nat} (l7 : x.f7.length ≤ c7) (g7 : (Kd.slice 35 k35).C w A7 x.f7.length x.f7) {A8 : Option Addr} {c8 : Nat} (l8 : x.f8.length ≤ c8) (g8 : k134.C w A8 x.f8.length x.f8) : k55.K w x [.bool x.f0, .bool x.f1, .int .i64 x.f2, .int .u16 x.f3, .slice A4 x.f4.length c4, .slice A5 x.f5.length c5, .slice A6 x.f6.length c6, .slice A7 x.f7.length c7, .slice A8 x.f8.length c8] := ⟨[.bool x.f0], [.bool x.f1, .int .i64 x.f2, .int .u16 x.f3, .slice A4 x.f4.length c4, .slice A5 x.f5.length c5, .slice A6 x.f6.length c6, .slice A7 x.f7.length c7, .slice A8 x.f8.length c8], rfl, rfl, ⟨[.bool x.f1], [.int .i64 x.f2, .int .u16 x.f3, .slice A4 x.f4.length c4, .slice A5 x.f5.length c5, .slice A6 x.f6.length c6, .slice A7 x.f7.length c7, .slice A8 x.f8.length c8], rfl, rfl, ⟨[.int .i64 x.f2], [.int .u16 x.f3, .slice A4 x.f4.length c4, .slice A5 x.f5.length c5, .slice A6 x.f6.length c6, .slice A7 x.f7.length c7, .slice A8 x.f8.length c8], rfl, rfl, ⟨[.int .u16 x.f3], [.slice A4 x.f4.length c4, .slice A5 x.f5.length c5, .slice A6 x.f6.length c6, .slice A7 x.f7.length c7, .slice A8 x.f8.length c8], rfl, rfl, ⟨[.slice A4 x.f4.length c4], [.slice A5 x.f5.length c5, .slice A6 x.f6.length c6, .slice A7 x.f7.length c7, .slice A8 x.f8.length c8], rfl, ⟨A4, c4, rfl, l4, g4⟩, ⟨[.slice A5 x.f5.length c5], [.slice A6 x.f6.length c6, .slice A7 x.f7.length c7, .slice A8 x.f8.length c8], rfl, ⟨A5, c5, rfl, l5, g5⟩, ⟨[.slice A6 x.f6.length c6], [.slice A7 x.f7.length c7, .slice A8 x.f8.length c8], rfl, ⟨A6, c6, rfl, l6, g6⟩, ⟨[.slice A7 x.f7.length c7], [.slice A8 x.f8.length c8], rfl, ⟨A7, c7, rfl, l7, g7⟩, ⟨A8, c8, rfl, l8, g8⟩⟩⟩⟩⟩⟩⟩⟩⟩
theorem k55_mkM (w : World) (base : Nat) (ok : Nat → Prop) (x : S55) {v4 : Value} (g4 : (Kd.slice 3 (Kd.int .i64)).R 33 w base ok v4 x.f4) {v5 : Value} (g5 : k43.R 43 w base ok v5 x.f5) {v6 : Value} (g6 : (Kd.slice 35 k35).R 27 w base ok v6 x.f6) {v7 : Value} (g7 : (Kd.slice 35 k35).R 27 w base ok v7 x.f7) {v8 : Value} (g8 : k134.R 134 w base ok v8 x.f8) : k55.M w base ok x [.bool x.f0, .bool x.f1, .int .i64 x.f2, .int .u16 x.f3, v4, v5, v6, v7, v8] := ⟨[.bool x.f0], [.bool x.f1, .int .i64 x.f2, .int .u16 x.f3, v4, v5, v6, v7, v8], rfl, rfl, ⟨[.bool x.f1], [.int .i64 x.f2, .int .u16 x.f3, v4, v5, v6, v7, v8], rfl, rfl, ⟨[.int .i64 x.f2], [.int .u16 x.f3, v4, v5, v6, v7, v8], rfl, rfl, ⟨[.int .u16 x.f3], [v4, v5, v6, v7, v8], rfl, rfl, ⟨[v4], [v5, v6, v7, v8], rfl, ⟨v4, rfl, g4⟩, ⟨[v5], [v6, v7, v8], rfl, ⟨v5, rfl, g5⟩, ⟨[v6], [v7, v8], rfl, ⟨v6, rfl, g6⟩, ⟨[v7], [v8], rfl, ⟨v7, rfl, g7⟩, ⟨v8, rfl, g8⟩⟩⟩⟩⟩⟩⟩⟩⟩
theorem k55_openF {W : World} {ok : Nat → Prop} {x : S55} {cs : List Value} (h : Kd.FK k55 W ok x cs) : ∃ A4 c4 A5 c5 A6 c6 A7 c7 A8 c8, cs = [.bool x.f0, .bool x.f1, .int .i64 x.f2, .int .u16 x.f3, .slice A4 x.f4.length c4, .slice A5 x.f5.length c5, .slice A6 x.f6.length c6, .slice A7 x.f7.length c7, .slice A8 x.f8.length c8] ∧ x.f4.length ≤ c4 ∧ Kd.F (Kd.slice 3 (Kd.int .i64)) W ok A4 x.f4.length x.f4 ∧ x.f5.length ≤ c5 ∧ Kd.F k43 W ok A5 x.f5.length x.f5 ∧ x.f6.length ≤ c6 ∧ Kd.F (Kd.slice 35 k35) W ok A6 x.f6.length x.f6 ∧ x.f7.length ≤ c7 ∧ Kd.F (Kd.slice 35 k35) W ok A7 x.f7.length x.f7 ∧ x.f8.length ≤ c8 ∧ Kd.F k134 W ok A8 x.f8.length x.f8 := by
  obtain ⟨A4, c4, A5, c5, A6, c6, A7, c7, A8, c8, rfl, l4, _, l5, _, l6, _, l7, _, l8, _⟩ := k55_open (Kd.FK_now h)
  exact ⟨A4, c4, A5, c5, A6, c6, A7, c7, A8, c8, rfl, l4, (fun W' hW => by obtain ⟨A4_, c4_, A5_, c5_, A6_, c6_, A7_, c7_, A8_, c8_, he, l4_, g4_, l5_, g5_, l6_, g6_, l7_, g7_, l8_, g8_⟩ := k55_open (h W' hW); injection (Option.some.inj (show some (Value.slice A4 x.f4.length c4) = some (Value.slice A4_ x.f4.length c4_) from congrArg (fun l => l[4]?) he)) with ha_ _ _; rw [ha_]; exact g4_), l5, (fun W' hW => by obtain ⟨A4_, c4_, A5_, c5_, A6_, c6_, A7_, c7_, A8_, c8_, he, l4_, g4_, l5_, g5_, l6_, g6_, l7_, g7_, l8_, g8_⟩ := k55_open (h W' hW); injection (Option.some.inj (show some (Value.slice A5 x.f5.length c5) = some (Value.slice A5_ x.f5.length c5_) from congrArg (fun l => l[5]?) he)) with ha_ _ _; rw [ha_]; exact g5_), l6, (fun W' hW => by obtain ⟨A4_, c4_, A5_, c5_, A6_, c6_, A7_, c7_, A8_, c8_, he, l4_, g4_, l5_, g5_, l6_, g6_, l7_, g7_, l8_, g8_⟩ := k55_open (h W' hW); injection (Option.some.inj (show some (Value.slice A6 x.f6.length c6) = some (Value.slice A6_ x.f6.length c6_) from congrArg (fun l => l[6]?) he)) with ha_ _ _; rw [ha_]; exact g6_), l7, (fun W' hW => by obtain ⟨A4_, c4_, A5_, c5_, A6_, c6_, A7_, c7_, A8_, c8_, he, l4_, g4_, l5_, g5_, l6_, g6_, l7_, g7_, l8_, g8_⟩ := k55_open (h W' hW); injection (Option.some.inj (show some (Value.slice A7 x.f7.length c7) = some (Value.slice A7_ x.f7.length c7_) from congrArg (fun l => l[7]?) he)) with ha_ _ _; rw [ha_]; exact g7_), l8, (fun W' hW => by obtain ⟨A4_, c4_, A5_, c5_, A6_, c6_, A7_, c7_, A8_, c8_, he, l4_, g4_, l5_, g5_, l6_, g6_, l7_, g7_, l8_, g8_⟩ := k55_open (h W' hW); injection (Option.some.inj (show some (Value.slice A8 x.f8.length c8) = some (Value.slice A8_ x.f8.length c8_) from congrArg (fun l => l[8]?) he)) with ha_ _ _; rw [ha_]; exact g8_)⟩
theorem k55_mkF (W : World) (ok : Nat → Prop) (x : S55) {A4 : Option Addr} {c4 : Nat} (l4 : x.f4.length ≤ c4) (g4 : Kd.F (Kd.slice 3 (Kd.int .i64)) W ok A4 x.f4.length x.f4) {A5 : Option Addr} {c5 : Nat} (l5 : x.f5.length ≤ c5) (g5 : Kd.F k43 W ok A5 x.f5.length x.f5) {A6 : Option Addr} {c6 : Nat} (l6 : x.f6.length ≤ c6) (g6 : Kd.F (Kd.slice 35 k35) W ok A6 x.f6.length x.f6) {A7 : Option Addr} {c7 : Nat} (l7 : x.f7.length ≤ c7) (g7 : Kd.F (Kd.slice 35 k35) W ok A7 x.f7.length x.f7) {A8 : Option Addr} {c8 : Nat} (l8 : x.f8.length ≤ c8) (g8 : Kd.F k134 W ok A8 x.f8.length x.f8) : Kd.FK k55 W ok x [.bool x.f0, .bool x.f1, .int .i64 x.f2, .int .u16 x.f3, .slice A4 x.f4.length c4, .slice A5 x.f5.length c5, .slice A6 x.f6.length c6, .slice A7 x.f7.length c7, .slice A8 x.f8.length c8] := fun W2 hW => k55_mk W2 x l4 (g4 W2 hW) l5 (g5 W2 hW) l6 (g6 W2 hW) l7 (g7 W2 hW) l8 (g8 W2 hW)
def rd_T55 (xs : List S55) (i : Int) : S55 := xs.getD i.toNat z55
theorem at_T55 {w : World} {A : Option Addr} {n : Nat} {xs : List S55} (h : Kd.C k55 w A n xs) (i : Int) (h0 : 0 ≤ i) (h1 : i < n) : ∃ ad A4 c4 A5 c5 A6 c6 A7 c7 A8 c8, A = some ad ∧ w.cell? (ad.add (i.toNat * 9)) = some (.bool (rd_T55 xs i).f0) ∧ w.cell? ⟨(ad.add (i.toNat * 9)).block, (ad.add (i.toNat * 9)).off + 1, none⟩ = some (.bool (rd_T55 xs i).f1) ∧ w.cell? ⟨(ad.add (i.toNat * 9)).block, (ad.add (i.toNat * 9)).off + 2, none⟩ = some (.int .i64 (rd_T55 xs i).f2) ∧ w.cell? ⟨(ad.add (i.toNat * 9)).block, (ad.add (i.toNat * 9)).off + 3, none⟩ = some (.int .u16 (rd_T55 xs i).f3) ∧ w.cell? ⟨(ad.add (i.toNat * 9)).block, (ad.add (i.toNat * 9)).off + 4, none⟩ = some (.slice A4 (rd_T55 xs i).f4.length c4) ∧ w.cell? ⟨(ad.add (i.toNat * 9)).block, (ad.add (i.toNat * 9)).off + 5, none⟩ = some (.slice A5 (rd_T55 xs i).f5.length c5) ∧ w.cell? ⟨(ad.add (i.toNat * 9)).block, (ad.add (i.toNat * 9)).off + 6, none⟩ = some (.slice A6 (rd_T55 xs i).f6.length c6) ∧ w.cell? ⟨(ad.add (i.toNat * 9)).block, (ad.add (i.toNat * 9)).off + 7, none⟩ = some (.slice A7 (rd_T55 xs i).f7.length c7) ∧ w.cell? ⟨(ad.add (i.toNat * 9)).block, (ad.add (i.toNat * 9)).off + 8, none⟩ = some (.slice A8 (rd_T55 xs i).f8.length c8) ∧ (rd_T55 xs i).f4.length ≤ c4 ∧ (Kd.slice 3 (Kd.int .i64)).C w A4 (rd_T55 xs i).f4.length (rd_T55 xs i).f4 ∧ (rd_T55 xs i).f5.length ≤ c5 ∧ k43.C w A5 (rd_T55 xs i).f5.length (rd_T55 xs i).f5 ∧ (rd_T55 xs i).f6.length ≤ c6 ∧ (Kd.slice 35 k35).C w A6 (rd_T55 xs i).f6.length (rd_T55 xs i).f6 ∧ (rd_T55 xs i).f7.length ≤ c7 ∧ (Kd.slice 35 k35).C w A7 (rd_T55 xs i).f7.length (rd_T55 xs i).f7 ∧ (rd_T55 xs i).f8.length ≤ c8 ∧ k134.C w A8 (rd_T55 xs i).f8.length (rd_T55 xs i).f8 := by
  obtain ⟨ad, c, e, _, hK, hc0⟩ := Kd.C_get h z55 i h0 h1
  have hc : ∀ j u, c[j]? = some u → w.cell? (ad.add (i.toNat * 9 + j)) = some u := hc0
  obtain ⟨A4, c4, A5, c5, A6, c6, A7, c7, A8, c8, rfl, l4, g4, l5, g5, l6, g6, l7, g7, l8, g8⟩ := k55_open hK
  exact ⟨ad, A4, c4, A5, c5, A6, c6, A7, c7, A8, c8, e, hc 0 _ rfl, by rw [← add_field _ _ 1 (by omega)]; exact hc 1 _ rfl, by rw [← add_field _ _ 2 (by omega)]; exact hc 2 _ rfl, by rw [← add_field _ _ 3 (by omega)]; exact hc 3 _ rfl, by rw [← add_field _ _ 4 (by omega)]; exact hc 4 _ rfl, by rw [← add_field _ _ 5 (by omega)]; exact hc 5 _ rfl, by rw [← add_field _ _ 6 (by omega)]; exact hc 6 _ rfl, by rw [← add_field _ _ 7 (by omega)]; exact hc 7 _ rfl, by rw [← add_field _ _ 8 (by omega)]; exact hc 8 _ rfl, l4, g4, l5, g5, l6, g6, l7, g7, l8, g8⟩

/-! #### struct type 57 -/
structure S57 where
  f0 : Int
  f1 : (List S35)
  f2 : Int
  f3 : Int
  f4 : (List S35)
  f5 : Int
  f6 : S55
  f7 : Int
def z57 : S57 := ⟨(0 : Int), ([] : List S35), (0 : Int), (0 : Int), ([] : List S35), (0 : Int), z55, (0 : Int)⟩
def k57 : Kd S57 := Kd.iso (Kd.pair (Kd.int .i64) (Kd.pair (Kd.slice 35 k35) (Kd.pair (Kd.int .i64) (Kd.pair (Kd.int .i64) (Kd.pair (Kd.slice 35 k35) (Kd.pair (Kd.int .i64) (Kd.pair k55 (Kd.int .i64)))))))) (fun x : S57 => (x.f0, x.f1, x.f2, x.f3, x.f4, x.f5, x.f6, x.f7))
theorem k57_heap : Kd.Heap k57 := Kd.heap_iso _ (Kd.heap_pair (Kd.heap_int .i64) (Kd.heap_pair (Kd.heap_slice 35 k35_heap) (Kd.heap_pair (Kd.heap_int .i64) (Kd.heap_pair (Kd.heap_int .i64) (Kd.heap_pair (Kd.heap_slice 35 k35_heap) (Kd.heap_pair (Kd.heap_int .i64) (Kd.heap_pair k55_heap (Kd.heap_int .i64))))))))
theorem k57_open {w : World} {x : S57} {cs : List Value} (h : k57.K w x cs) : ∃ A1 c1 A4 c4 A10 c10 A11 c11 A12 c12 A13 c13 A14 c14, cs = [.int .i64 x.f0, .slice A1 x.f1.length c1, .int .i64 x.f2, .int .i64 x.f3, .slice A4 x.f4.length c4, .int .i64 x.f5, .bool x.f6.f0, .bool x.f6.f1, .int .i64 x.f6.f2, .int .u16 x.f6.f3, .slice A10 x.f6.f4.length c10, .slice A11 x.f6.f5.length c11, .slice A12 x.f6.f6.length c12, .slice A13 x.f6.f7.length c13, .slice A14 x.f6.f8.length c14, .int .i64 x.f7] ∧ x.f1.length ≤ c1 ∧ k35.C w A1 x.f1.length x.f1 ∧ x.f4.length ≤ c4 ∧ k35.C w A4 x.f4.length x.f4 ∧ x.f6.f4.length ≤ c10 ∧ (Kd.slice 3 (Kd.int .i64)).C w A10 x.f6.f4.length x.f6.f4 ∧ x.f6.f5.length ≤ c11 ∧ k43.C w A11 x.f6.f5.length x.f6.f5 ∧ x.f6.f6.length ≤ c12 ∧ (Kd.slice 35 k35).C w A12 x.f6.f6.length x.f6.f6 ∧ x.f6.f7.length ≤ c13 ∧ (Kd.slice 35 k35).C w A13 x.f6.f7.length x.f6.f7 ∧ x.f6.f8.length ≤ c14 ∧ k134.C w A14 x.f6.f8.length x.f6.f8 := by
  obtain ⟨_, _, rfl, rfl, ⟨_, _, rfl, ⟨A1, c1, rfl, l1, g1⟩, ⟨_, _, rfl, rfl, ⟨_, _, rfl, rfl, ⟨_, _, rfl, ⟨A4, c4, rfl, l4, g4⟩, ⟨_, _, rfl, rfl, ⟨_, _, rfl, s6, rfl⟩⟩⟩⟩⟩⟩⟩ := h
  obtain ⟨A10, c10, A11, c11, A12, c12, A13, c13, A14, c14, rfl, l10, g10, l11, g11, l12, g12, l13, g13, l14, g14⟩ := k55_open s6
  exact ⟨A1, c1, A4, c4, A10, c10, A11, c11, A12, c12, A13, c13, A14, c14, rfl, l1, g1, l4, g4, l10, g10, l11, g11, l12, g12, l13, g13, l14, g14⟩
theorem k57_openM {w : World} {base : Nat} {ok : Nat → Prop} {x : S57} {cs : List Value} (h : k57.M w base ok x cs) : ∃ v1 v4 v10 v11 v12 v13 v14, cs = [.int .i64 x.f0, v1, .int .i64 x.f2, .int .i64 x.f3, v4, .int .i64 x.f5, .bool x.f6.f0, .bool x.f6.f1, .int .i64 x.f6.f2, .int .u16 x.f6.f3, v10, v11, v12, v13, v14, .int .i64 x.f7] ∧ k35.R 35 w base ok v1 x.f1 ∧ k35.R 35 w base ok v4 x.f4 ∧ (Kd.slice 3 (Kd.int .i64)).R 33 w base ok v10 x.f6.f4 ∧ k43.R 43 w base ok v11 x.f6.f5 ∧ (Kd.slice 35 k35).R 27 w base ok v12 x.f6.f6 ∧ (Kd.slice 35 k35).R 27 w base ok v13 x.f6.f7 ∧ k134.R 134 w base ok v14 x.f6.f8 := by
  obtain ⟨_, _, rfl, rfl, ⟨_, _, rfl, ⟨v1, rfl, g1⟩, ⟨_, _, rfl, rfl, ⟨_, _, rfl, rfl, ⟨_, _, rfl, ⟨v4, rfl, g4⟩, ⟨_, _, rfl, rfl, ⟨_, _, rfl, s6, rfl⟩⟩⟩⟩⟩⟩⟩ := h
  obtain ⟨v10, v11, v12, v13, v14, rfl, g10, g11, g12, g13, g14⟩ := k55_openM s6
  exact ⟨v1, v4, v10, v11, v12, v13, v14, rfl, g1, g4, g10, g11, g12, g13, g14⟩
theorem k57_mk (w : World) (x : S57) {A1 : Option Addr} {c1 : Nat} (l1 : x.f1.length ≤ c1) (g1 : k35.C w A1 x.f1.length x.f1) {A4 : Option Addr} {c4 : Nat} (l4 : x.f4.length ≤ c4) (g4 : k35.C w A4 x.f4.length x.f4) {A10 : Option Addr} {c10 : Nat} (l10 : x.f6.f4.length ≤ c10) (g10 : (Kd.slice 3 (Kd.int .i64)).C w A10 x.f6.f4.length x.f6.f4) {A11 : Option Addr} {c11 : Nat} (l11 : x.f6.f5.length ≤ c11) (g11 : k43.C w A11 x.f6.f5.length x.f6.f5) {A12 : Option Addr} {c12 : Nat} (l12 : x.f6.f6.length ≤ c12) (g12 : (Kd.slice 35 k35).C w A12 x.f6.f6.length x.f6.f6) {A13 : Option Addr} {c13 : Nat} (l13 : x.f6.f7.length ≤ c13) (g13 : (Kd.slice 35 k35).C w A13 x.f6.f7.length x.f6.f7) {A14 : Option Addr} {c14 : Nat} (l14 : x.f6.f8.length ≤ c14) (g14 : k134.C w A14 x.f6.f8.length x.f6.f8) : k57.K w x [.int .i64 x.f0, .slice A1 x.f1.length c1, .int .i64 x.f2, .int .i64 x.f3, .slice A4 x.f4.length c4, .int .i64 x.f5, .bool x.f6.f0, .bool x.f6.f1, .int .i64 x.f6.f2, .int .u16 x.f6.f3, .slice A10 x.f6.f4.length c10, .slice A11 x.f6.f5.length c11, .slice A12 x.f6.f6.length c12, .slice A13 x.f6.f7.length c13, .slice A14 x.f6.f8.length c14, .int .i64 x.f7] := ⟨[.int .i64 x.f0], [.slice A1 x.f1.length c1, .int .i64 x.f2, .int .i64 x.f3, .slice A4 x.f4.length c4, .int .i64 x.f5, .bool x.f6.f0, .bool x.f6.f1, .int .i64 x.f6.f2, .int .u16 x.f6.f3, .slice A10 x.f6.f4.length c10, .slice A11 x.f6.f5.length c11, .slice A12 x.f6.f6.length c12, .slice A13 x.f6.f7.length c13, .slice A14 x.f6.f8.length c14, .int .i64 x.f7], rfl, rfl, ⟨[.slice A1 x.f1.length c1], [.int .i64 x.f2, .int .i64 x.f3, .slice A4 x.f4.length c4, .int .i64 x.f5, .bool x.f6.f0, .bool x.f6.f1, .int .i64 x.f6.f2, .int .u16 x.f6.f3, .slice A10 x.f6.f4.length c10, .slice A11 x.f6.f5.length c11, .slice A12 x.f6.f6.length c12, .slice A13 x.f6.f7.length c13, .slice A14 x.f6.f8.length c14, .int .i64 x.f7], rfl, ⟨A1, c1, rfl, l1, g1⟩, ⟨[.int .i64 x.f2], [.int .i64 x.f3, .slice A4 x.f4.length c4, .int .i64 x.f5, .bool x.f6.f0, .bool x.f6.f1, .int .i64 x.f6.f2, .int .u16 x.f6.f3, .slice A10 x.f6.f4.length c10, .slice A11 x.f6.f5.length c11, .slice A12 x.f6.f6.length c12, .slice A13 x.f6.f7.length c13, .slice A14 x.f6.f8.length c14, .int .i64 x.f7], rfl, rfl, ⟨[.int .i64 x.f3], [.slice A4 x.f4.length c4, .int .i64 x.f5, .bool x.f6.f0, .bool x.f6.f1, .int .i64 x.f6.f2, .int .u16 x.f6.f3, .slice A10 x.f6.f4.length c10, .slice A11 x.f6.f5.length c11, .slice A12 x.f6.f6.length c12, .slice A13 x.f6.f7.length c13, .slice A14 x.f6.f8.length c14, .int .i64 x.f7], rfl, rfl, ⟨[.slice A4 x.f4.length c4], [.int .i64 x.f5, .bool x.f6.f0, .bool x.f6.f1, .int .i64 x.f6.f2, .int .u16 x.f6.f3, .slice A10 x.f6.f4.length c10, .slice A11 x.f6.f5.length c11, .slice A12 x.f6.f6.length c12, .slice A13 x.f6.f7.length c13, .slice A14 x.f6.f8.length c14, .int .i64 x.f7], rfl, ⟨A4, c4, rfl, l4, g4⟩, ⟨[.int .i64 x.f5], [.bool x.f6.f0, .bool x.f6.f1, .int .i64 x.f6.f2, .int .u16 x.f6.f3, .slice A10 x.f6.f4.length c10, .slice A11 x.f6.f5.length c11, .slice A12 x.f6.f6.length c12, .slice A13 x.f6.f7.length c13, .slice A14 x.f6.f8.length c14, .int .i64 x.f7], rfl, rfl, ⟨[.bool x.f6.f0, .bool x.f6.f1, .int .i64 x.f6.f2, .int .u16 x.f6.f3, .slice A10 x.f6.f4.length c10, .slice A11 x.f6.f5.length c11, .slice A12 x.f6.f6.length c12, .slice A13 x.f6.f7.length c13, .slice A14 x.f6.f8.length c14], [.int .i64 x.f7], rfl, (k55_mk w x.f6 l10 g10 l11 g11 l12 g12 l13 g13 l14 g14), rfl⟩⟩⟩⟩⟩⟩⟩
theorem k57_mkM (w : World) (base : Nat) (ok : Nat → Prop) (x : S57) {v1 : Value} (g1 : k35.R 35 w base ok v1 x.f1) {v4 : Value} (g4 : k35.R 35 w base ok v4 x.f4) {v10 : Value} (g10 : (Kd.slice 3 (Kd.int .i64)).R 33 w base ok v10 x.f6.f4) {v11 : Value} (g11 : k43.R 43 w base ok v11 x.f6.f5) {v12 : Value} (g12 : (Kd.slice 35 k35).R 27 w base ok v12 x.f6.f6) {v13 : Value} (g13 : (Kd.slice 35 k35).R 27 w base ok v13 x.f6.f7) {v14 : Value} (g14 : k134.R 134 w base ok v14 x.f6.f8) : k57.M w base ok x [.int .i64 x.f0, v1, .int .i64 x.f2, .int .i64 x.f3, v4, .int .i64 x.f5, .bool x.f6.f0, .bool x.f6.f1, .int .i64 x.f6.f2, .int .u16 x.f6.f3, v10, v11, v12, v13, v14, .int .i64 x.f7] := ⟨[.int .i64 x.f0], [v1, .int .i64 x.f2, .int .i64 x.f3, v4, .int .i64 x.f5, .bool x.f6.f0, .bool x.f6.f1, .int .i64 x.f6.f2, .int .u16 x.f6.f3, v10, v11, v12, v13, v14, .int .i64 x.f7], rfl, rfl, ⟨[v1], [.int .i64 x.f2, .int .i64 x.f3, v4, .int .i64 x.f5, .bool x.f6.f0, .bool x.f6.f1, .int .i64 x.f6.f2, .int .u16 x.f6.f3, v10, v11, v12, v13, v14, .int .i64 x.f7], rfl, ⟨v1, rfl, g1⟩, ⟨[.int .i64 x.f2], [.int .i64 x.f3, v4, .int .i64 x.f5, .bool x.f6.f0, .bool x.f6.f1, .int .i64 x.f6.f2, .int .u16 x.f6.f3, v10, v11, v12, v13, v14, .int .i64 x.f7], rfl, rfl, ⟨[.int .i64 x.f3], [v4, .int .i64 x.f5, .bool x.f6.f0, .bool x.f6.f1, .int .i64 x.f6.f2, .int .u16 x.f6.f3, v10, v11, v12, v13, v14, .int .i64 x.f7], rfl, rfl, ⟨[v4], [.int .i64 x.f5, .bool x.f6.f0, .bool x.f6.f1, .int .i64 x.f6.f2, .int .u16 x.f6.f3, v10, v11, v12, v13, v14, .int .i64 x.f7], rfl, ⟨v4, rfl, g4⟩, ⟨[.int .i64 x.f5], [.bool x.f6.f0, .bool x.f6.f1, .int .i64 x.f6.f2, .int .u16 x.f6.f3, v10, v11, v12, v13, v14, .int .i64 x.f7], rfl, rfl, ⟨[.bool x.f6.f0, .bool x.f6.f1, .int .i64 x.f6.f2, .int .u16 x.f6.f3, v10, v11, v12, v13, v14], [.int .i64 x.f7], rfl, (k55_mkM w base ok x.f6 g10 g11 g12 g13 g14), rfl⟩⟩⟩⟩⟩⟩⟩
theorem k57_openF {W : World} {ok : Nat → Prop} {x : S57} {cs : List Value} (h : Kd.FK k57 W ok x cs) : ∃ A1 c1 A4 c4 A10 c10 A11 c11 A12 c12 A13 c13 A14 c14, cs = [.int .i64 x.f0, .slice A1 x.f1.length c1, .int .i64 x.f2, .int .i64 x.f3, .slice A4 x.f4.length c4, .int .i64 x.f5, .bool x.f6.f0, .bool x.f6.f1, .int .i64 x.f6.f2, .int .u16 x.f6.f3, .slice A10 x.f6.f4.length c10, .slice A11 x.f6.f5.length c11, .slice A12 x.f6.f6.length c12, .slice A13 x.f6.f7.length c13, .slice A14 x.f6.f8.length c14, .int .i64 x.f7] ∧ x.f1.length ≤ c1 ∧ Kd.F k35 W ok A1 x.f1.length x.f1 ∧ x.f4.length ≤ c4 ∧ Kd.F k35 W ok A4 x.f4.length x.f4 ∧ x.f6.f4.length ≤ c10 ∧ Kd.F (Kd.slice 3 (Kd.int .i64)) W ok A10 x.f6.f4.length x.f6.f4 ∧ x.f6.f5.length ≤ c11 ∧ Kd.F k43 W ok A11 x.f6.f5.length x.f6.f5 ∧ x.f6.f6.length ≤ c12 ∧ Kd.F (Kd.slice 35 k35) W ok A12 x.f6.f6.length x.f6.f6 ∧ x.f6.f7.length ≤ c13 ∧ Kd.F (Kd.slice 35 k35) W ok A13 x.f6.f7.length x.f6.f7 ∧ x.f6.f8.length ≤ c14 ∧ Kd.F k134 W ok A14 x.f6.f8.length x.f6.f8 := by
  obtain ⟨A1, c1, A4, c4, A10, c10, A11, c11, A12, c12, A13, c13, A14, c14, rfl, l1, _, l4, _, l10, _, l11, _, l12, _, l13, _, l14, _⟩ := k57_open (Kd.FK_now h)
  exact ⟨A1, c1, A4, c4, A10, c10, A11, c11, A12, c12, A13, c13, A14, c14, rfl, l1, (fun W' hW => by obtain ⟨A1_, c1_, A4_, c4_, A10_, c10_, A11_, c11_, A12_, c12_, A13_, c13_, A14_, c14_, he, l1_, g1_, l4_, g4_, l10_, g10_, l11_, g11_, l12_, g12_, l13_, g13_, l14_, g14_⟩ := k57_open (h W' hW); injection (Option.some.inj (show some (Value.slice A1 x.f1.length c1) = some (Value.slice A1_ x.f1.length c1_) from congrArg (fun l => l[1]?) he)) with ha_ _ _; rw [ha_]; exact g1_), l4, (fun W' hW => by obtain ⟨A1_, c1_, A4_, c4_, A10_, c10_, A11_, c11_, A12_, c12_, A13_, c13_, A14_, c14_, he, l1_, g1_, l4_, g4_, l10_, g10_, l11_, g11_, l12_, g12_, l13_, g13_, l14_, g14_⟩ := k57_open (h W' hW); injection (Option.some.inj (show some (Value.slice A4 x.f4.length c4) = some (Value.slice A4_ x.f4.length c4_) from congrArg (fun l => l[4]?) he)) with ha_ _ _; rw [ha_]; exact g4_), l10, (fun W' hW => by obtain ⟨A1_, c1_, A4_, c4_, A10_, c10_, A11_, c11_, A12_, c12_, A13_, c13_, A14_, c14_, he, l1_, g1_, l4_, g4_, l10_, g10_, l11_, g11_, l12_, g12_, l13_, g13_, l14_, g14_⟩ := k57_open (h W' hW); injection (Option.some.inj (show some (Value.slice A10 x.f6.f4.length c10) = some (Value.slice A10_ x.f6.f4.length c10_) from congrArg (fun l => l[10]?) he)) with ha_ _ _; rw [ha_]; exact g10_), l11, (fun W' hW => by obtain ⟨A1_, c1_, A4_, c4_, A10_, c10_, A11_, c11_, A12_, c12_, A13_, c13_, A14_, c14_, he, l1_, g1_, l4_, g4_, l10_, g10_, l11_, g11_, l12_, g12_, l13_, g13_, l14_, g14_⟩ := k57_open (h W' hW); injection (Option.some.inj (show some (Value.slice A11 x.f6.f5.length c11) = some (Value.slice A11_ x.f6.f5.length c11_) from congrArg (fun l => l[11]?) he)) with ha_ _ _; rw [ha_]; exact g11_), l12, (fun W' hW => by obtain ⟨A1_, c1_, A4_, c4_, A10_, c10_, A11_, c11_, A12_, c12_, A13_, c13_, A14_, c14_, he, l1_, g1_, l4_, g4_, l10_, g10_, l11_, g11_, l12_, g12_, l13_, g13_, l14_, g14_⟩ := k57_open (h W' hW); injection (Option.some.inj (show some (Value.slice A12 x.f6.f6.length c12) = some (Value.slice A12_ x.f6.f6.length c12_) from congrArg (fun l => l[12]?) he)) with ha_ _ _; rw [ha_]; exact g12_), l13, (fun W' hW => by obtain ⟨A1_, c1_, A4_, c4_, A10_, c10_, A11_, c11_, A12_, c12_, A13_, c13_, A14_, c14_, he, l1_, g1_, l4_, g4_, l10_, g10_, l11_, g11_, l12_, g12_, l13_, g13_, l14_, g14_⟩ := k57_open (h W' hW); injection (Option.some.inj (show some (Value.slice A13 x.f6.f7.length c13) = some (Value.slice A13_ x.f6.f7.length c13_) from congrArg (fun l => l[13]?) he)) with ha_ _ _; rw [ha_]; exact g13_), l14, (fun W' hW => by obtain ⟨A1_, c1_, A4_, c4_, A10_, c10_, A11_, c11_, A12_, c12_, A13_, c13_, A14_, c14_, he, l1_, g1_, l4_, g4_, l10_, g10_, l11_, g11_, l12_, g12_, l13_, g13_, l14_, g14_⟩ := k57_open (h W' hW); injection (Option.some.inj (show some (Value.slice A14 x.f6.f8.length c14) = some (Value.slice A14_ x.f6.f8.length c14_) from congrArg (fun l => l[14]?) he)) with ha_ _ _; rw [ha_]; exact g14_)⟩
theorem k57_mkF (W : World) (ok : Nat → Prop) (x : S57) {A1 : Option Addr} {c1 : Nat} (l1 : x.f1.length ≤ c1) (g1 : Kd.F k35 W ok A1 x.f1.length x.f1) {A4 : Option Addr} {c4 : Nat} (l4 : x.f4.length ≤ c4) (g4 : Kd.F k35 W ok A4 x.f4.length x.f4) {A10 : Option Addr} {c10 : Nat} (l10 : x.f6.f4.length ≤ c10) (g10 : Kd.F (Kd.slice 3 (Kd.int .i64)) W ok A10 x.f6.f4.length x.f6.f4) {A11 : Option Addr} {c11 : Nat} (l11 : x.f6.f5.length ≤ c11) (g11 : Kd.F k43 W ok A11 x.f6.f5.length x.f6.f5) {A12 : Option Addr} {c12 : Nat} (l12 : x.f6.f6.length ≤ c12) (g12 : Kd.F (Kd.slice 35 k35) W ok A12 x.f6.f6.length x.f6.f6) {A13 : Option Addr} {c13 : Nat} (l13 : x.f6.f7.length ≤ c13) (g13 : Kd.F (Kd.slice 35 k35) W ok A13 x.f6.f7.length x.f6.f7) {A14 : Option Addr} {c14 : Nat} (l14 : x.f6.f8.length ≤ c14) (g14 : Kd.F k134 W ok A14 x.f6.f8.length x.f6.f8) : Kd.FK k57 W ok x [.int .i64 x.f0, .slice A1 x.f1.length c1, .int .i64 x.f2, .int .i64 x.f3, .slice A4 x.f4.length c4, .int .i64 x.f5, .bool x.f6.f0, .bool x.f6.f1, .int .i64 x.f6.f2, .int .u16 x.f6.f3, .slice A10 x.f6.f4.length c10, .slice A11 x.f6.f5.length c11, .slice A12 x.f6.f6.length c12, .slice A13 x.f6.f7.length c13, .slice A14 x.f6.f8.length c14, .int .i64 x.f7] := fun W2 hW => k57_mk W2 x l1 (g1 W2 hW) l4 (g4 W2 hW) l10 (g10 W2 hW) l11 (g11 W2 hW) l12 (g12 W2 hW) l13 (g13 W2 hW) l14 (g14 W2 hW)
def rd_T57 (xs : List S57) (i : Int) : S57 := xs.getD i.toNat z57
theorem at_T57 {w : World} {A : Option Addr} {n : Nat} {xs : List S57} (h : Kd.C k57 w A n xs) (i : Int) (h0 : 0 ≤ i) (h1 : i < n) : ∃ ad A1 c1 A4 c4 A10 c10 A11 c11 A12 c12 A13 c13 A14 c14, A = some ad ∧ w.cell? (ad.add (i.toNat * 16)) = some (.int .i64 (rd_T57 xs i).f0) ∧ w.cell? ⟨(ad.add (i.toNat * 16)).block, (ad.add (i.toNat * 16)).off + 1, none⟩ = some (.slice A1 (rd_T57 xs i).f1.length c1) ∧ w.cell? ⟨(ad.add (i.toNat * 16)).block, (ad.add (i.toNat * 16)).off + 2, none⟩ = some (.int .i64 (rd_T57 xs i).f2) ∧ w.cell? ⟨(ad.add (i.toNat * 16)).block, (ad.add (i.toNat * 16)).off + 3, none⟩ = some (.int .i64 (rd_T57 xs i).f3) ∧ w.cell? ⟨(ad.add (i.toNat * 16)).block, (ad.add (i.toNat * 16)).off + 4, none⟩ = some (.slice A4 (rd_T57 xs i).f4.length c4) ∧ w.cell? ⟨(ad.add (i.toNat * 16)).block, (ad.add (i.toNat * 16)).off + 5, none⟩ = some (.int .i64 (rd_T57 xs i).f5) ∧ w.cell? ⟨(ad.add (i.toNat * 16)).block, (ad.add (i.toNat * 16)).off + 6, none⟩ = some (.bool (rd_T57 xs i).f6.f0) ∧ w.cell? ⟨(ad.add (i.toNat * 16)).block, (ad.add (i.toNat * 16)).off + 7, none⟩ = some (.bool (rd_T57 xs i).f6.f1) ∧ w.cell? ⟨(ad.add (i.toNat * 16)).block, (ad.add (i.toNat * 16)).off + 8, none⟩ = some (.int .i64 (rd_T57 xs i).f6.f2) ∧ w.cell? ⟨(ad.add (i.toNat * 16)).block, (ad.add (i.toNat * 16)).off + 9, none⟩ = some (.int .u16 (rd_T57 xs i).f6.f3) ∧ w.cell? ⟨(ad.add (i.toNat * 16)).block, (ad.add (i.toNat * 16)).off + 10, none⟩ = some (.slice A10 (rd_T57 xs i).f6.f4.length c10) ∧ w.cell? ⟨(ad.add (i.toNat * 16)).block, (ad.add (i.toNat * 16)).off + 11, none⟩ = some (.slice A11 (rd_T57 xs i).f6.f5.length c11) ∧ w.cell? ⟨(ad.add (i.toNat * 16)).block, (ad.add (i.toNat * 16)).off + 12, none⟩ = some (.slice A12 (rd_T57 xs i).f6.f6.length c12) ∧ w.cell? ⟨(ad.add (i.toNat * 16)).block, (ad.add (i.toNat * 16)).off + 13, none⟩ = some (.slice A13 (rd_T57 xs i).f6.f7.length c13) ∧ w.cell? ⟨(ad.add (i.toNat * 16)).block, (ad.add (i.toNat * 16)).off + 14, none⟩ = some (.slice A14 (rd_T57 xs i).f6.f8.length c14) ∧ w.cell? ⟨(ad.add (i.toNat * 16)).block, (ad.add (i.toNat * 16)).off + 15, none⟩ = some (.int .i64 (rd_T57 xs i).f7) ∧ (rd_T57 xs i).f1.length ≤ c1 ∧ k35.C w A1 (rd_T57 xs i).f1.length (rd_T57 xs i).f1 ∧ (rd_T57 xs i).f4.length ≤ c4 ∧ k35.C w A4 (rd_T57 xs i).f4.length (rd_T57 xs i).f4 ∧ (rd_T57 xs i).f6.f4.length ≤ c10 ∧ (Kd.slice 3 (Kd.int .i64)).C w A10 (rd_T57 xs i).f6.f4.length (rd_T57 xs i).f6.f4 ∧ (rd_T57 xs i).f6.f5.length ≤ c11 ∧ k43.C w A11 (rd_T57 xs i).f6.f5.length (rd_T57 xs i).f6.f5 ∧ (rd_T57 xs i).f6.f6.length ≤ c12 ∧ (Kd.slice 35 k35).C w A12 (rd_T57 xs i).f6.f6.length (rd_T57 xs i).f6.f6 ∧ (rd_T57 xs i).f6.f7.length ≤ c13 ∧ (Kd.slice 35 k35).C w A13 (rd_T57 xs i).f6.f7.length (rd_T57 xs i).f6.f7 ∧ (rd_T57 xs i).f6.f8.length ≤ c14 ∧ k134.C w A14 (rd_T57 xs i).f6.f8.length (rd_T57 xs i).f6.f8 := by
  obtain ⟨ad, c, e, _, hK, hc0⟩ := Kd.C_get h z57 i h0 h1
  have hc : ∀ j u, c[j]? = some u → w.cell? (ad.add (i.toNat * 16 + j)) = some u := hc0
  obtain ⟨A1, c1, A4, c4, A10, c10, A11, c11, A12, c12, A13, c13, A14, c14, rfl, l1, g1, l4, g4, l10, g10, l11, g11, l12, g12, l13, g13, l14, g14⟩ := k57_open hK
  exact ⟨ad, A1, c1, A4, c4, A10, c10, A11, c11, A12, c12, A13, c13, A14, c14, e, hc 0 _ rfl, by rw [← add_field _ _ 1 (by omega)]; exact hc 1 _ rfl, by rw [← add_field _ _ 2 (by omega)]; exact hc 2 _ rfl, by rw [← add_field _ _ 3 (by omega)]; exact hc 3 _ rfl, by rw [← add_field _ _ 4 (by omega)]; exact hc 4 _ rfl, by rw [← add_field _ _ 5 (by omega)]; exact hc 5 _ rfl, by rw [← add_field _ _ 6 (by omega)]; exact hc 6 _ rfl, by rw [← add_field _ _ 7 (by omega)]; exact hc 7 _ rfl, by rw [← add_field _ _ 8 (by omega)]; exact hc 8 _ rfl, by rw [← add_field _ _ 9 (by omega)]; exact hc 9 _ rfl, by rw [← add_field _ _ 10 (by omega)]; exact hc 10 _ rfl, by rw [← add_field _ _ 11 (by omega)]; exact hc 11 _ rfl, by rw [← add_field _ _ 12 (by omega)]; exact hc 12 _ rfl, by rw [← add_field _ _ 13 (by omega)]; exact hc 13 _ rfl, by rw [← add_field _ _ 14 (by omega)]; exact hc 14 _ rfl, by rw [← add_field _ _ 15 (by omega)]; exact hc 15 _ rfl, l1, g1, l4, g4, l10, g10, l11, g11, l12, g12, l13, g13, l14, g14⟩

/-! #### struct type 65 -/
structure S65 where
  f0 : (List S35)
  f1 : (List S35)
  f2 : S43
def z65 : S65 := ⟨([] : List S35), ([] : List S35), z43⟩
def k65 : Kd S65 := Kd.iso (Kd.pair (Kd.slice 35 k35) (Kd.pair (Kd.slice 35 k35) k43)) (fun x : S65 => (x.f0, x.f1, x.f2))
theorem k65_heap : Kd.Heap k65 := Kd.heap_iso _ (Kd.heap_pair (Kd.heap_slice 35 k35_heap) (Kd.heap_pair (Kd.heap_slice 35 k35_heap) k43_heap))
theorem k65_open {w : World} {x : S65} {cs : List Value} (h : k65.K w x cs) : ∃ A0 c0 A1 c1 A3 c3, cs = [.slice A0 x.f0.length c0, .slice A1 x.f1.length c1, .string x.f2.f0, .slice A3 x.f2.f1.length c3] ∧ x.f0.length ≤ c0 ∧ k35.C w A0 x.f0.length x.f0 ∧ x.f1.length ≤ c1 ∧ k35.C w A1 x.f1.length x.f1 ∧ x.f2.f1.length ≤ c3 ∧ Kd.string.C w A3 x.f2.f1.length x.f2.f1 := by
  obtain ⟨_, _, rfl, ⟨A0, c0, rfl, l0, g0⟩, ⟨_, _, rfl, ⟨A1, c1, rfl, l1, g1⟩, s2⟩⟩ := h
  obtain ⟨A3, c3, rfl, l3, g3⟩ := k43_open s2
  exact ⟨A0, c0, A1, c1, A3, c3, rfl, l0, g0, l1, g1, l3, g3⟩
theorem k65_openM {w : World} {base : Nat} {ok : Nat → Prop} {x : S65} {cs : List Value} (h : k65.M w base ok x cs) : ∃ v0 v1 v3, cs = [v0, v1, .string x.f2.f0, v3] ∧ k35.R 35 w base ok v0 x.f0 ∧ k35.R 35 w base ok v1 x.f1 ∧ Kd.string.R 9 w base ok v3 x.f2.f1 := by
  obtain ⟨_, _, rfl, ⟨v0, rfl, g0⟩, ⟨_, _, rfl, ⟨v1, rfl, g1⟩, s2⟩⟩ := h
  obtain ⟨v3, rfl, g3⟩ := k43_openM s2
  exact ⟨v0, v1, v3, rfl, g0, g1, g3⟩
theorem k65_mk (w : World) (x : S65) {A0 : Option Addr} {c0 : Nat} (l0 : x.f0.length ≤ c0) (g0 : k35.C w A0 x.f0.length x.f0) {A1 : Option Addr} {c1 : Nat} (l1 : x.f1.length ≤ c1) (g1 : k35.C w A1 x.f1.length x.f1) {A3 : Option Addr} {c3 : Nat} (l3 : x.f2.f1.length ≤ c3) (g3 : Kd.string.C w A3 x.f2.f1.length x.f2.f1) : k65.K w x [.slice A0 x.f0.length c0, .slice A1 x.f1.length c1, .string x.f2.f0, .slice A3 x.f2.f1.length c3] := ⟨[.slice A0 x.f0.length c0], [.slice A1 x.f1.length c1, .string x.f2.f0, .slice A3 x.f2.f1.length c3], rfl, ⟨A0, c0, rfl, l0, g0⟩, ⟨[.slice A1 x.f1.length c1], [.string x.f2.f0, .slice A3 x.f2.f1.length c3], rfl, ⟨A1, c1, rfl, l1, g1⟩, (k43_mk w x.f2 l3 g3)⟩⟩
theorem k65_mkM (w : World) (base : Nat) (ok : Nat → Prop) (x : S65) {v0 : Value} (g0 : k35.R 35 w base ok v0 x.f0) {v1 : Value} (g1 : k35.R 35 w base ok v1 x.f1) {v3 : Value} (g3 : Kd.string.R 9 w base ok v3 x.f2.f1) : k65.M w base ok x [v0, v1, .string x.f2.f0, v3] := ⟨[v0], [v1, .string x.f2.f0, v3], rfl, ⟨v0, rfl, g0⟩, ⟨[v1], [.string x.f2.f0, v3], rfl, ⟨v1, rfl, g1⟩, (k43_mkM w base ok x.f2 g3)⟩⟩
theorem k65_openF {W : World} {ok : Nat → Prop} {x : S65} {cs : List Value} (h : Kd.FK k65 W ok x cs) : ∃ A0 c0 A1 c1 A3 c3, cs = [.slice A0 x.f0.length c0, .slice A1 x.f1.length c1, .string x.f2.f0, .slice A3 x.f2.f1.length c3] ∧ x.f0.length ≤ c0 ∧ Kd.F k35 W ok A0 x.f0.length x.f0 ∧ x.f1.length ≤ c1 ∧ Kd.F k35 W ok A1 x.f1.length x.f1 ∧ x.f2.f1.length ≤ c3 ∧ Kd.F Kd.string W ok A3 x.f2.f1.length x.f2.f1 := by
  obtain ⟨A0, c0, A1, c1, A3, c3, rfl, l0, _, l1, _, l3, _⟩ := k65_open (Kd.FK_now h)
  exact ⟨A0, c0, A1, c1, A3, c3, rfl, l0, (fun W' hW => by obtain ⟨A0_, c0_, A1_, c1_, A3_, c3_, he, l0_, g0_, l1_, g1_, l3_, g3_⟩ := k65_open (h W' hW); injection (Option.some.inj (show some (Value.slice A0 x.f0.length c0) = some (Value.slice A0_ x.f0.length c0_) from congrArg (fun l => l[0]?) he)) with ha_ _ _; rw [ha_]; exact g0_), l1, (fun W' hW => by obtain ⟨A0_, c0_, A1_, c1_, A3_, c3_, he, l0_, g0_, l1_, g1_, l3_, g3_⟩ := k65_open (h W' hW); injection (Option.some.inj (show some (Value.slice A1 x.f1.length c1) = some (Value.slice A1_ x.f1.length c1_) from congrArg (fun l => l[1]?) he)) with ha_ _ _; rw [ha_]; exact g1_), l3, (fun W' hW => by obtain ⟨A0_, c0_, A1_, c1_, A3_, c3_, he, l0_, g0_, l1_, g1_, l3_, g3_⟩ := k65_open (h W' hW); injection (Option.some.inj (show some (Value.slice A3 x.f2.f1.length c3) = some (Value.slice A3_ x.f2.f1.length c3_) from congrArg (fun l => l[3]?) he)) with ha_ _ _; rw [ha_]; exact g3_)⟩
theorem k65_mkF (W : World) (ok : Nat → Prop) (x : S65) {A0 : Option Addr} {c0 : Nat} (l0 : x.f0.length ≤ c0) (g0 : Kd.F k35 W ok A0 x.f0.length x.f0) {A1 : Option Addr} {c1 : Nat} (l1 : x.f1.length ≤ c1) (g1 : Kd.F k35 W ok A1 x.f1.length x.f1) {A3 : Option Addr} {c3 : Nat} (l3 : x.f2.f1.length ≤ c3) (g3 : Kd.F Kd.string W ok A3 x.f2.f1.length x.f2.f1) : Kd.FK k65 W ok x [.slice A0 x.f0.length c0, .slice A1 x.f1.length c1, .string x.f2.f0, .slice A3 x.f2.f1.length c3] := fun W2 hW => k65_mk W2 x l0 (g0 W2 hW) l1 (g1 W2 hW) l3 (g3 W2 hW)
def rd_T65 (xs : List S65) (i : Int) : S65 := xs.getD i.toNat z65
theorem at_T65 {w : World} {A : Option Addr} {n : Nat} {xs : List S65} (h : Kd.C k65 w A n xs) (i : Int) (h0 : 0 ≤ i) (h1 : i < n) : ∃ ad A0 c0 A1 c1 A3 c3, A = some ad ∧ w.cell? (ad.add (i.toNat * 4)) = some (.slice A0 (rd_T65 xs i).f0.length c0) ∧ w.cell? ⟨(ad.add (i.toNat * 4)).block, (ad.add (i.toNat * 4)).off + 1, none⟩ = some (.slice A1 (rd_T65 xs i).f1.length c1) ∧ w.cell? ⟨(ad.add (i.toNat * 4)).block, (ad.add (i.toNat * 4)).off + 2, none⟩ = some (.string (rd_T65 xs i).f2.f0) ∧ w.cell? ⟨(ad.add (i.toNat * 4)).block, (ad.add (i.toNat * 4)).off + 3, none⟩ = some (.slice A3 (rd_T65 xs i).f2.f1.length c3) ∧ (rd_T65 xs i).f0.length ≤ c0 ∧ k35.C w A0 (rd_T65 xs i).f0.length (rd_T65 xs i).f0 ∧ (rd_T65 xs i).f1.length ≤ c1 ∧ k35.C w A1 (rd_T65 xs i).f1.length (rd_T65 xs i).f1 ∧ (rd_T65 xs i).f2.f1.length ≤ c3 ∧ Kd.string.C w A3 (rd_T65 xs i).f2.f1.length (rd_T65 xs i).f2.f1 := by
  obtain ⟨ad, c, e, _, hK, hc0⟩ := Kd.C_get h z65 i h0 h1
  have hc : ∀ j u, c[j]? = some u → w.cell? (ad.add (i.toNat * 4 + j)) = some u := hc0
  obtain ⟨A0, c0, A1, c1, A3, c3, rfl, l0, g0, l1, g1, l3, g3⟩ := k65_open hK
  exact ⟨ad, A0, c0, A1, c1, A3, c3, e, hc 0 _ rfl, by rw [← add_field _ _ 1 (by omega)]; exact hc 1 _ rfl, by rw [← add_field _ _ 2 (by omega)]; exact hc 2 _ rfl, by rw [← add_field _ _ 3 (by omega)]; exact hc 3 _ rfl, l0, g0, l1, g1, l3, g3⟩

def rd_L21 (xs : List (List S65)) (i : Int) : (List S65) := xs.getD i.toNat ([] : List S65)
theorem at_L21 {w : World} {A : Option Addr} {n : Nat} {xs : List (List S65)} (h : Kd.C (Kd.slice 65 k65) w A n xs) (i : Int) (h0 : 0 ≤ i) (h1 : i < n) : ∃ ad A0 c0, A = some ad ∧ w.cell? (ad.add i.toNat) = some (.slice A0 (rd_L21 xs i).length c0) ∧ (rd_L21 xs i).length ≤ c0 ∧ k65.C w A0 (rd_L21 xs i).length (rd_L21 xs i) := by
  obtain ⟨ad, c, e, _, hK, hc0⟩ := Kd.C_get h ([] : List S65) i h0 h1
  have hc : ∀ j u, c[j]? = some u → w.cell? (ad.add (i.toNat * 1 + j)) = some u := hc0
  obtain ⟨A0, c0, rfl, l0, g0⟩ := hK
  exact ⟨ad, A0, c0, e, by have hq := hc 0 _ rfl; rwa [Nat.mul_one, Nat.add_zero] at hq, l0, g0⟩

end Go.Proofs.Ytalcfnhcenpniaa.XT
