-- printed by wip/xprint.py (a scratch copy of the kit's print, with contracts by hand)
import Derived.Test.YtalcfnhcenpniaaProg
import Derived.Below
import Derived.Deep.Draws
import Derived.Deep.AppendLies
import Derived.Maps.AppendAt
import Derived.OwnWalk
import Derived.Laws.BytesArg
import Derived.Laws.MakeOwn
import Derived.Laws.OwnMore
import Derived.Deep.OwnRows
import Derived.Tactics
import Derived.Lib.ConvBytes
import Derived.Laws.Slices
import Derived.WalkKit
import Derived.KernelRfl
import Derived.RowKit3
import Derived.Deep.LoopGhost
import Derived.Deep.QuietTactic
import Derived.BigQuiet
import Derived.WideLaws
import Derived.Deep.DeepCutAuto
import Derived.Deep.CutBlock
import Derived.Deep.RegionHeld3
import Derived.Laws.Rows
import Derived.Lib.AppendStr
import Derived.ArgAppend
import Derived.Laws.IdiomCopy
import Derived.OrdersHeld
import Derived.Laws.BitsLemmas
import Derived.RowKit
import Derived.Test.YtalcfnhcenpniaaPl
import Derived.Test.YtalcfnhcenpniaaRunes
import Derived.Outline
import Derived.Laws.EntriesVeiled
import Derived.Lib.SliceRun
import Derived.Test.YtalcfnhcenpniaaPrep
import Derived.Test.YtalcfnhcenpniaaRefPrep
import Derived.Lib.SlBytesConst
import Derived.Test.YtalcfnhcenpniaaNx
import Derived.Test.YtalcfnhcenpniaaWWords
import Derived.Test.YtalcfnhcenpniaaWLast
import Derived.Test.YtalcfnhcenpniaaWTab
import Derived.Test.YtalcfnhcenpniaaWFour
import Derived.Test.YtalcfnhcenpniaaWQPut
import Derived.Test.YtalcfnhcenpniaaWApart
import Derived.Test.YtalcfnhcenpniaaWArr
import Derived.Test.YtalcfnhcenpniaaWZeros
import Derived.Test.YtalcfnhcenpniaaWFoot
import Derived.Test.YtalcfnhcenpniaaWKept
import Derived.Test.YtalcfnhcenpniaaWShare
import Derived.Test.YtalcfnhcenpniaaWN
import Derived.Test.YtalcfnhcenpniaaWFootNe
import Derived.Test.YtalcfnhcenpniaaWAt
import Derived.Test.YtalcfnhcenpniaaWEqStruct
import Derived.Test.YtalcfnhcenpniaaWRepsOne
import Derived.Test.YtalcfnhcenpniaaWInv
import Derived.Test.YtalcfnhcenpniaaWInvWords
import Derived.Test.YtalcfnhcenpniaaWGuard
import Derived.Test.YtalcfnhcenpniaaWNEv
import Derived.Test.YtalcfnhcenpniaaWMore
namespace Go.Proofs.Ytalcfnhcenpniaa.XT
open Go.RowKit Go.Proofs.YtalcfnhcenpniaaW.PrintWords Go.Proofs.YtalcfnhcenpniaaW.PrintLast Go.Proofs.YtalcfnhcenpniaaW.PrintMore
attribute [local go_sem] max2_int min2_int max_two min_two max_three min_three max_four min_four   -- for this text's walks alone
set_option linter.unusedVariables false
set_option linter.unusedSimpArgs false



def errW : Option Int → Value
 | none => .nilIface
 | some c => .iface 0 (.int .i64 c)
theorem errW_none : errW none = .nilIface := rfl
theorem errW_some (c : Int) : errW (some c) = .iface 0 (.int .i64 c) := rfl

theorem info9 : (Try.prog.info? 9).map (fun i => (i.zero, i.size, i.bytes)) = some (some (.string ⟨#[]⟩), 1, 16) := by kernel_rfl
-- the values' own types
def rd_L1 (xs : List (List ByteArray)) (i : Int) : (List ByteArray) := xs.getD i.toNat ([] : List ByteArray)
/-! #### struct type 43 -/
structure S43 where
 f0 : ByteArray
 f1 : (List ByteArray)
def z43 : S43 := ⟨(⟨#[]⟩ : ByteArray), ([] : List ByteArray)⟩
def k43 : Kd S43 := Kd.iso (Kd.pair Kd.string (Kd.slice 9 Kd.string)) (fun x : S43 => (x.f0, x.f1))
theorem k43_heap : Kd.Heap k43 := Kd.heap_iso _ (Kd.heap_pair Kd.heap_string (Kd.heap_slice 9 Kd.heap_string))
theorem k43_open {w : World} {x : S43} {cs : List Value} (h : k43.K w x cs) : ∃ A1 c1, cs = [.string x.f0, .slice A1 x.f1.length c1] ∧ x.f1.length ≤ c1 ∧ Kd.string.C w A1 x.f1.length x.f1 := by
 obtain ⟨_, _, rfl, rfl, ⟨A1, c1, rfl, l1, g1⟩⟩ := h
 exact ⟨A1, c1, rfl, l1, g1⟩
theorem k43_mk (w : World) (x : S43) {A1 : Option Addr} {c1 : Nat} (l1 : x.f1.length ≤ c1) (g1 : Kd.string.C w A1 x.f1.length x.f1) : k43.K w x [.string x.f0, .slice A1 x.f1.length c1] := ⟨[.string x.f0], [.slice A1 x.f1.length c1], rfl, rfl, ⟨A1, c1, rfl, l1, g1⟩⟩
theorem k43_openF {W : World} {ok : Nat → Prop} {x : S43} {cs : List Value} (h : Kd.FK k43 W ok x cs) : ∃ A1 c1, cs = [.string x.f0, .slice A1 x.f1.length c1] ∧ x.f1.length ≤ c1 ∧ Kd.F Kd.string W ok A1 x.f1.length x.f1 := by
 obtain ⟨A1, c1, rfl, l1, _⟩ := k43_open (Kd.FK_now h)
 exact ⟨A1, c1, rfl, l1, (fun W' hW => by obtain ⟨A1_, c1_, he, l1_, g1_⟩ := k43_open (h W' hW); injection (Option.some.inj (show some (Value.slice A1 x.f1.length c1) = some (Value.slice A1_ x.f1.length c1_) from congrArg (fun l => l[1]?) he)) with ha_ _ _; rw [ha_]; exact g1_)⟩
def rd_T43 (xs : List S43) (i : Int) : S43 := xs.getD i.toNat z43
theorem at_T43 {w : World} {A : Option Addr} {n : Nat} {xs : List S43} (h : Kd.C k43 w A n xs) (i : Int) (h0 : 0 ≤ i) (h1 : i < n) : ∃ ad A1 c1, A = some ad ∧ w.cell? (ad.add (i.toNat * 2)) = some (.string (rd_T43 xs i).f0) ∧ w.cell? ⟨(ad.add (i.toNat * 2)).block, (ad.add (i.toNat * 2)).off + 1, none⟩ = some (.slice A1 (rd_T43 xs i).f1.length c1) ∧ (rd_T43 xs i).f1.length ≤ c1 ∧ Kd.string.C w A1 (rd_T43 xs i).f1.length (rd_T43 xs i).f1 := by
 obtain ⟨ad, c, e, _, hK, hc0⟩ := Kd.C_get h z43 i h0 h1
 have hc : ∀ j u, c[j]? = some u → w.cell? (ad.add (i.toNat * 2 + j)) = some u := hc0
 obtain ⟨A1, c1, rfl, l1, g1⟩ := k43_open hK
 exact ⟨ad, A1, c1, e, hc 0 _ rfl, by rw [← add_field _ _ 1 (by omega)]; exact hc 1 _ rfl, l1, g1⟩

/-! #### struct type 45 -/
structure S45 where
 f0 : S43
 f1 : Int
def z45 : S45 := ⟨z43, (0 : Int)⟩
def k45 : Kd S45 := Kd.iso (Kd.pair k43 (Kd.int .i64)) (fun x : S45 => (x.f0, x.f1))
theorem k45_open {w : World} {x : S45} {cs : List Value} (h : k45.K w x cs) : ∃ A1 c1, cs = [.string x.f0.f0, .slice A1 x.f0.f1.length c1, .int .i64 x.f1] ∧ x.f0.f1.length ≤ c1 ∧ Kd.string.C w A1 x.f0.f1.length x.f0.f1 := by
 obtain ⟨_, _, rfl, s0, rfl⟩ := h
 obtain ⟨A1, c1, rfl, l1, g1⟩ := k43_open s0
 exact ⟨A1, c1, rfl, l1, g1⟩
theorem k45_mk (w : World) (x : S45) {A1 : Option Addr} {c1 : Nat} (l1 : x.f0.f1.length ≤ c1) (g1 : Kd.string.C w A1 x.f0.f1.length x.f0.f1) : k45.K w x [.string x.f0.f0, .slice A1 x.f0.f1.length c1, .int .i64 x.f1] := ⟨[.string x.f0.f0, .slice A1 x.f0.f1.length c1], [.int .i64 x.f1], rfl, (k43_mk w x.f0 l1 g1), rfl⟩
def rd_T45 (xs : List S45) (i : Int) : S45 := xs.getD i.toNat z45
theorem at_T45 {w : World} {A : Option Addr} {n : Nat} {xs : List S45} (h : Kd.C k45 w A n xs) (i : Int) (h0 : 0 ≤ i) (h1 : i < n) : ∃ ad A1 c1, A = some ad ∧ w.cell? (ad.add (i.toNat * 3)) = some (.string (rd_T45 xs i).f0.f0) ∧ w.cell? ⟨(ad.add (i.toNat * 3)).block, (ad.add (i.toNat * 3)).off + 1, none⟩ = some (.slice A1 (rd_T45 xs i).f0.f1.length c1) ∧ w.cell? ⟨(ad.add (i.toNat * 3)).block, (ad.add (i.toNat * 3)).off + 2, none⟩ = some (.int .i64 (rd_T45 xs i).f1) ∧ (rd_T45 xs i).f0.f1.length ≤ c1 ∧ Kd.string.C w A1 (rd_T45 xs i).f0.f1.length (rd_T45 xs i).f0.f1 := by
 obtain ⟨ad, c, e, _, hK, hc0⟩ := Kd.C_get h z45 i h0 h1
 have hc : ∀ j u, c[j]? = some u → w.cell? (ad.add (i.toNat * 3 + j)) = some u := hc0
 obtain ⟨A1, c1, rfl, l1, g1⟩ := k45_open hK
 exact ⟨ad, A1, c1, e, hc 0 _ rfl, by rw [← add_field _ _ 1 (by omega)]; exact hc 1 _ rfl, by rw [← add_field _ _ 2 (by omega)]; exact hc 2 _ rfl, l1, g1⟩

def rd_L5 (xs : List (List S45)) (i : Int) : (List S45) := xs.getD i.toNat ([] : List S45)
def rd_L6 (xs : List (List S43)) (i : Int) : (List S43) := xs.getD i.toNat ([] : List S43)
def rd_L8 (xs : List (List Int)) (i : Int) : (List Int) := xs.getD i.toNat ([] : List Int)
theorem at_L8 {w : World} {A : Option Addr} {n : Nat} {xs : List (List Int)} (h : Kd.C (Kd.slice 3 (Kd.int .i64)) w A n xs) (i : Int) (h0 : 0 ≤ i) (h1 : i < n) : ∃ ad A0 c0, A = some ad ∧ w.cell? (ad.add i.toNat) = some (.slice A0 (rd_L8 xs i).length c0) ∧ (rd_L8 xs i).length ≤ c0 ∧ (Kd.int .i64).C w A0 (rd_L8 xs i).length (rd_L8 xs i) := by
 obtain ⟨ad, c, e, _, hK, hc0⟩ := Kd.C_get h ([] : List Int) i h0 h1
 have hc : ∀ j u, c[j]? = some u → w.cell? (ad.add (i.toNat * 1 + j)) = some u := hc0
 obtain ⟨A0, c0, rfl, l0, g0⟩ := hK
 exact ⟨ad, A0, c0, e, by have hq := hc 0 _ rfl; rwa [Nat.mul_one, Nat.add_zero] at hq, l0, g0⟩

/-! #### struct type 35 -/
structure S35 where
 f0 : (List Int)
 f1 : ByteArray
def z35 : S35 := ⟨([] : List Int), (⟨#[]⟩ : ByteArray)⟩
def k35 : Kd S35 := Kd.iso (Kd.pair (Kd.slice 3 (Kd.int .i64)) Kd.string) (fun x : S35 => (x.f0, x.f1))
theorem k35_heap : Kd.Heap k35 := Kd.heap_iso _ (Kd.heap_pair (Kd.heap_slice 3 (Kd.heap_int .i64)) Kd.heap_string)
theorem k35_open {w : World} {x : S35} {cs : List Value} (h : k35.K w x cs) : ∃ A0 c0, cs = [.slice A0 x.f0.length c0, .string x.f1] ∧ x.f0.length ≤ c0 ∧ (Kd.int .i64).C w A0 x.f0.length x.f0 := by
 obtain ⟨_, _, rfl, ⟨A0, c0, rfl, l0, g0⟩, rfl⟩ := h
 exact ⟨A0, c0, rfl, l0, g0⟩
def rd_T35 (xs : List S35) (i : Int) : S35 := xs.getD i.toNat z35
theorem at_T35 {w : World} {A : Option Addr} {n : Nat} {xs : List S35} (h : Kd.C k35 w A n xs) (i : Int) (h0 : 0 ≤ i) (h1 : i < n) : ∃ ad A0 c0, A = some ad ∧ w.cell? (ad.add (i.toNat * 2)) = some (.slice A0 (rd_T35 xs i).f0.length c0) ∧ w.cell? ⟨(ad.add (i.toNat * 2)).block, (ad.add (i.toNat * 2)).off + 1, none⟩ = some (.string (rd_T35 xs i).f1) ∧ (rd_T35 xs i).f0.length ≤ c0 ∧ (Kd.int .i64).C w A0 (rd_T35 xs i).f0.length (rd_T35 xs i).f0 := by
 obtain ⟨ad, c, e, _, hK, hc0⟩ := Kd.C_get h z35 i h0 h1
 have hc : ∀ j u, c[j]? = some u → w.cell? (ad.add (i.toNat * 2 + j)) = some u := hc0
 obtain ⟨A0, c0, rfl, l0, g0⟩ := k35_open hK
 exact ⟨ad, A0, c0, e, hc 0 _ rfl, by rw [← add_field _ _ 1 (by omega)]; exact hc 1 _ rfl, l0, g0⟩

def rd_L10 (xs : List (List S35)) (i : Int) : (List S35) := xs.getD i.toNat ([] : List S35)
def rd_L12 (xs : List (List (List Int))) (i : Int) : (List (List Int)) := xs.getD i.toNat ([] : List (List Int))
def rd_L13 (xs : List (List (List S35))) (i : Int) : (List (List S35)) := xs.getD i.toNat ([] : List (List S35))
def rd_L15 (xs : List (List Int)) (i : Int) : (List Int) := xs.getD i.toNat ([] : List Int)
/-! #### struct type 134 -/
structure S134 where
 f0 : (List Int)
 f1 : Bool
 f2 : (List Int)
def z134 : S134 := ⟨([] : List Int), false, ([] : List Int)⟩
def k134 : Kd S134 := Kd.iso (Kd.pair (Kd.slice 3 (Kd.int .i64)) (Kd.pair Kd.bool (Kd.slice 5 (Kd.int .u8)))) (fun x : S134 => (x.f0, x.f1, x.f2))
def rd_T134 (xs : List S134) (i : Int) : S134 := xs.getD i.toNat z134
def rd_L17 (xs : List (List S134)) (i : Int) : (List S134) := xs.getD i.toNat ([] : List S134)
/-! #### struct type 55 -/
structure S55 where
 f0 : Bool
 f1 : Bool
 f2 : Int
 f3 : Int
 f4 : (List (List Int))
 f5 : (List S43)
 f6 : (List (List S35))
 f7 : (List (List S35))
 f8 : (List S134)
def z55 : S55 := ⟨false, false, (0 : Int), (0 : Int), ([] : List (List Int)), ([] : List S43), ([] : List (List S35)), ([] : List (List S35)), ([] : List S134)⟩
def k55 : Kd S55 := Kd.iso (Kd.pair Kd.bool (Kd.pair Kd.bool (Kd.pair (Kd.int .i64) (Kd.pair (Kd.int .u16) (Kd.pair (Kd.slice 33 (Kd.slice 3 (Kd.int .i64))) (Kd.pair (Kd.slice 43 k43) (Kd.pair (Kd.slice 27 (Kd.slice 35 k35)) (Kd.pair (Kd.slice 27 (Kd.slice 35 k35)) (Kd.slice 134 k134))))))))) (fun x : S55 => (x.f0, x.f1, x.f2, x.f3, x.f4, x.f5, x.f6, x.f7, x.f8))
theorem k55_open {w : World} {x : S55} {cs : List Value} (h : k55.K w x cs) : ∃ A4 c4 A5 c5 A6 c6 A7 c7 A8 c8, cs = [.bool x.f0, .bool x.f1, .int .i64 x.f2, .int .u16 x.f3, .slice A4 x.f4.length c4, .slice A5 x.f5.length c5, .slice A6 x.f6.length c6, .slice A7 x.f7.length c7, .slice A8 x.f8.length c8] ∧ x.f4.length ≤ c4 ∧ (Kd.slice 3 (Kd.int .i64)).C w A4 x.f4.length x.f4 ∧ x.f5.length ≤ c5 ∧ k43.C w A5 x.f5.length x.f5 ∧ x.f6.length ≤ c6 ∧ (Kd.slice 35 k35).C w A6 x.f6.length x.f6 ∧ x.f7.length ≤ c7 ∧ (Kd.slice 35 k35).C w A7 x.f7.length x.f7 ∧ x.f8.length ≤ c8 ∧ k134.C w A8 x.f8.length x.f8 := by
 obtain ⟨_, _, rfl, rfl, ⟨_, _, rfl, rfl, ⟨_, _, rfl, rfl, ⟨_, _, rfl, rfl, ⟨_, _, rfl, ⟨A4, c4, rfl, l4, g4⟩, ⟨_, _, rfl, ⟨A5, c5, rfl, l5, g5⟩, ⟨_, _, rfl, ⟨A6, c6, rfl, l6, g6⟩, ⟨_, _, rfl, ⟨A7, c7, rfl, l7, g7⟩, ⟨A8, c8, rfl, l8, g8⟩⟩⟩⟩⟩⟩⟩⟩⟩ := h
 exact ⟨A4, c4, A5, c5, A6, c6, A7, c7, A8, c8, rfl, l4, g4, l5, g5, l6, g6, l7, g7, l8, g8⟩
def rd_T55 (xs : List S55) (i : Int) : S55 := xs.getD i.toNat z55
/-! #### struct type 57 -/
structure S57 where
 f0 : Int
 f1 : (List S35)
 f2 : Int
 f3 : Int
 f4 : (List S35)
 f5 : Int
 f6 : S55
 f7 : Int
def z57 : S57 := ⟨(0 : Int), ([] : List S35), (0 : Int), (0 : Int), ([] : List S35), (0 : Int), z55, (0 : Int)⟩
def k57 : Kd S57 := Kd.iso (Kd.pair (Kd.int .i64) (Kd.pair (Kd.slice 35 k35) (Kd.pair (Kd.int .i64) (Kd.pair (Kd.int .i64) (Kd.pair (Kd.slice 35 k35) (Kd.pair (Kd.int .i64) (Kd.pair k55 (Kd.int .i64)))))))) (fun x : S57 => (x.f0, x.f1, x.f2, x.f3, x.f4, x.f5, x.f6, x.f7))
theorem k57_open {w : World} {x : S57} {cs : List Value} (h : k57.K w x cs) : ∃ A1 c1 A4 c4 A10 c10 A11 c11 A12 c12 A13 c13 A14 c14, cs = [.int .i64 x.f0, .slice A1 x.f1.length c1, .int .i64 x.f2, .int .i64 x.f3, .slice A4 x.f4.length c4, .int .i64 x.f5, .bool x.f6.f0, .bool x.f6.f1, .int .i64 x.f6.f2, .int .u16 x.f6.f3, .slice A10 x.f6.f4.length c10, .slice A11 x.f6.f5.length c11, .slice A12 x.f6.f6.length c12, .slice A13 x.f6.f7.length c13, .slice A14 x.f6.f8.length c14, .int .i64 x.f7] ∧ x.f1.length ≤ c1 ∧ k35.C w A1 x.f1.length x.f1 ∧ x.f4.length ≤ c4 ∧ k35.C w A4 x.f4.length x.f4 ∧ x.f6.f4.length ≤ c10 ∧ (Kd.slice 3 (Kd.int .i64)).C w A10 x.f6.f4.length x.f6.f4 ∧ x.f6.f5.length ≤ c11 ∧ k43.C w A11 x.f6.f5.length x.f6.f5 ∧ x.f6.f6.length ≤ c12 ∧ (Kd.slice 35 k35).C w A12 x.f6.f6.length x.f6.f6 ∧ x.f6.f7.length ≤ c13 ∧ (Kd.slice 35 k35).C w A13 x.f6.f7.length x.f6.f7 ∧ x.f6.f8.length ≤ c14 ∧ k134.C w A14 x.f6.f8.length x.f6.f8 := by
 obtain ⟨_, _, rfl, rfl, ⟨_, _, rfl, ⟨A1, c1, rfl, l1, g1⟩, ⟨_, _, rfl, rfl, ⟨_, _, rfl, rfl, ⟨_, _, rfl, ⟨A4, c4, rfl, l4, g4⟩, ⟨_, _, rfl, rfl, ⟨_, _, rfl, s6, rfl⟩⟩⟩⟩⟩⟩⟩ := h
 obtain ⟨A10, c10, A11, c11, A12, c12, A13, c13, A14, c14, rfl, l10, g10, l11, g11, l12, g12, l13, g13, l14, g14⟩ := k55_open s6
 exact ⟨A1, c1, A4, c4, A10, c10, A11, c11, A12, c12, A13, c13, A14, c14, rfl, l1, g1, l4, g4, l10, g10, l11, g11, l12, g12, l13, g13, l14, g14⟩
def rd_T57 (xs : List S57) (i : Int) : S57 := xs.getD i.toNat z57
/-! #### struct type 65 -/
structure S65 where
 f0 : (List S35)
 f1 : (List S35)
 f2 : S43
def z65 : S65 := ⟨([] : List S35), ([] : List S35), z43⟩
def k65 : Kd S65 := Kd.iso (Kd.pair (Kd.slice 35 k35) (Kd.pair (Kd.slice 35 k35) k43)) (fun x : S65 => (x.f0, x.f1, x.f2))
theorem k65_heap : Kd.Heap k65 := Kd.heap_iso _ (Kd.heap_pair (Kd.heap_slice 35 k35_heap) (Kd.heap_pair (Kd.heap_slice 35 k35_heap) k43_heap))
theorem k65_open {w : World} {x : S65} {cs : List Value} (h : k65.K w x cs) : ∃ A0 c0 A1 c1 A3 c3, cs = [.slice A0 x.f0.length c0, .slice A1 x.f1.length c1, .string x.f2.f0, .slice A3 x.f2.f1.length c3] ∧ x.f0.length ≤ c0 ∧ k35.C w A0 x.f0.length x.f0 ∧ x.f1.length ≤ c1 ∧ k35.C w A1 x.f1.length x.f1 ∧ x.f2.f1.length ≤ c3 ∧ Kd.string.C w A3 x.f2.f1.length x.f2.f1 := by
 obtain ⟨_, _, rfl, ⟨A0, c0, rfl, l0, g0⟩, ⟨_, _, rfl, ⟨A1, c1, rfl, l1, g1⟩, s2⟩⟩ := h
 obtain ⟨A3, c3, rfl, l3, g3⟩ := k43_open s2
 exact ⟨A0, c0, A1, c1, A3, c3, rfl, l0, g0, l1, g1, l3, g3⟩
theorem k65_openF {W : World} {ok : Nat → Prop} {x : S65} {cs : List Value} (h : Kd.FK k65 W ok x cs) : ∃ A0 c0 A1 c1 A3 c3, cs = [.slice A0 x.f0.length c0, .slice A1 x.f1.length c1, .string x.f2.f0, .slice A3 x.f2.f1.length c3] ∧ x.f0.length ≤ c0 ∧ Kd.F k35 W ok A0 x.f0.length x.f0 ∧ x.f1.length ≤ c1 ∧ Kd.F k35 W ok A1 x.f1.length x.f1 ∧ x.f2.f1.length ≤ c3 ∧ Kd.F Kd.string W ok A3 x.f2.f1.length x.f2.f1 := by
 obtain ⟨A0, c0, A1, c1, A3, c3, rfl, l0, _, l1, _, l3, _⟩ := k65_open (Kd.FK_now h)
 exact ⟨A0, c0, A1, c1, A3, c3, rfl, l0, (fun W' hW => by obtain ⟨A0_, c0_, A1_, c1_, A3_, c3_, he, l0_, g0_, l1_, g1_, l3_, g3_⟩ := k65_open (h W' hW); injection (Option.some.inj (show some (Value.slice A0 x.f0.length c0) = some (Value.slice A0_ x.f0.length c0_) from congrArg (fun l => l[0]?) he)) with ha_ _ _; rw [ha_]; exact g0_), l1, (fun W' hW => by obtain ⟨A0_, c0_, A1_, c1_, A3_, c3_, he, l0_, g0_, l1_, g1_, l3_, g3_⟩ := k65_open (h W' hW); injection (Option.some.inj (show some (Value.slice A1 x.f1.length c1) = some (Value.slice A1_ x.f1.length c1_) from congrArg (fun l => l[1]?) he)) with ha_ _ _; rw [ha_]; exact g1_), l3, (fun W' hW => by obtain ⟨A0_, c0_, A1_, c1_, A3_, c3_, he, l0_, g0_, l1_, g1_, l3_, g3_⟩ := k65_open (h W' hW); injection (Option.some.inj (show some (Value.slice A3 x.f2.f1.length c3) = some (Value.slice A3_ x.f2.f1.length c3_) from congrArg (fun l => l[3]?) he)) with ha_ _ _; rw [ha_]; exact g3_)⟩
def rd_T65 (xs : List S65) (i : Int) : S65 := xs.getD i.toNat z65
theorem at_T65 {w : World} {A : Option Addr} {n : Nat} {xs : List S65} (h : Kd.C k65 w A n xs) (i : Int) (h0 : 0 ≤ i) (h1 : i < n) : ∃ ad A0 c0 A1 c1 A3 c3, A = some ad ∧ w.cell? (ad.add (i.toNat * 4)) = some (.slice A0 (rd_T65 xs i).f0.length c0) ∧ w.cell? ⟨(ad.add (i.toNat * 4)).block, (ad.add (i.toNat * 4)).off + 1, none⟩ = some (.slice A1 (rd_T65 xs i).f1.length c1) ∧ w.cell? ⟨(ad.add (i.toNat * 4)).block, (ad.add (i.toNat * 4)).off + 2, none⟩ = some (.string (rd_T65 xs i).f2.f0) ∧ w.cell? ⟨(ad.add (i.toNat * 4)).block, (ad.add (i.toNat * 4)).off + 3, none⟩ = some (.slice A3 (rd_T65 xs i).f2.f1.length c3) ∧ (rd_T65 xs i).f0.length ≤ c0 ∧ k35.C w A0 (rd_T65 xs i).f0.length (rd_T65 xs i).f0 ∧ (rd_T65 xs i).f1.length ≤ c1 ∧ k35.C w A1 (rd_T65 xs i).f1.length (rd_T65 xs i).f1 ∧ (rd_T65 xs i).f2.f1.length ≤ c3 ∧ Kd.string.C w A3 (rd_T65 xs i).f2.f1.length (rd_T65 xs i).f2.f1 := by
 obtain ⟨ad, c, e, _, hK, hc0⟩ := Kd.C_get h z65 i h0 h1
 have hc : ∀ j u, c[j]? = some u → w.cell? (ad.add (i.toNat * 4 + j)) = some u := hc0
 obtain ⟨A0, c0, A1, c1, A3, c3, rfl, l0, g0, l1, g1, l3, g3⟩ := k65_open hK
 exact ⟨ad, A0, c0, A1, c1, A3, c3, e, hc 0 _ rfl, by rw [← add_field _ _ 1 (by omega)]; exact hc 1 _ rfl, by rw [← add_field _ _ 2 (by omega)]; exact hc 2 _ rfl, by rw [← add_field _ _ 3 (by omega)]; exact hc 3 _ rfl, l0, g0, l1, g1, l3, g3⟩

def rd_L21 (xs : List (List S65)) (i : Int) : (List S65) := xs.getD i.toNat ([] : List S65)
end Go.Proofs.Ytalcfnhcenpniaa.XT
