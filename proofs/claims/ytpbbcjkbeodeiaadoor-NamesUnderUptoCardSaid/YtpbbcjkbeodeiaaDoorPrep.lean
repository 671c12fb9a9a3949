/- texts.Prep at every text of at most 2^43 bytes: it hands back the text, prepared. -/
import Derived.Test.YtpbbcjkbeodeiaaDoorPl
import Derived.Test.YtpbbcjkbeodeiaaDoorProg
import Derived.Test.YtpbbcjkbeodeiaaDoorRunes
import Derived.Test.YtpbbcjkbeodeiaaDoorKind
import Derived.Test.YtpbbcjkbeodeiaaDoorBld
import Derived.Test.YtpbbcjkbeodeiaaDoorShelf
import Derived.WalkKit
import Derived.BigCall
import Derived.Deep.LoopGhost
set_option linter.unusedVariables false
set_option linter.unusedSimpArgs false
namespace Go.Proofs.YtpbbcjkbeodeiaaDoor
open Go.RowKit Go.Proofs.YtpbbcjkbeodeiaaDoorW.PrintWords

theorem decode_width (s : ByteArray) (pos : Nat) (h : pos < s.size) : 1 ≤ (Utf8.decode s pos).2 := by
  by_cases ha : (s[pos]'h).toNat < 128
  · rw [decode_ascii s pos h ha]
    exact Nat.le_refl _
  · exact (decode_high s pos h (by omega)).2
/-- What is left to write from place pos on. -/
def prepFrom (s : ByteArray) (pos : Nat) (a : List Int × Bool) : List Int := (Tx.pfold a (Tx.kinds (Tx.runes (s.data.toList.drop pos)))).1
theorem prepFrom_end (s : ByteArray) (pos : Nat) (h : ¬ pos < s.size) (a : List Int × Bool) : prepFrom s pos a = a.1 := by
  unfold prepFrom
  have : s.data.toList.drop pos = [] := List.drop_eq_nil_of_le (by simpa using h)
  rw [this]
  rfl
theorem prepFrom_step (s : ByteArray) (pos : Nat) (h : pos < s.size) (a : List Int × Bool) :
    prepFrom s pos a = prepFrom s (pos + (Utf8.decode s pos).2) (if 0 ≤ Tx.kind (Utf8.decode s pos).1 then Tx.pstep a (Tx.kind (Utf8.decode s pos).1) else a) := by
  unfold prepFrom
  have hne : s.data.toList.drop pos ≠ [] := by
    intro e
    have := congrArg List.length e
    simp at this
    omega
  rw [Tx.runes_step _ hne, Lib.decodeL_drop, List.drop_drop, Tx.kinds_cons]
  split <;> rfl

theorem cells_one (o : List Int) (k : Int) : Lib.byteCells (Tx.enc o) ++ Lib.runeCells k = Lib.byteCells (Tx.enc (o ++ [k])) := by
  rw [Tx.enc_append, Tx.enc_one, Lib.byteCells_append, Lib.byteCells_encodeRune]
theorem cells_two (o : List Int) (k : Int) : Lib.byteCells (Tx.enc o) ++ [.int .u8 32] ++ Lib.runeCells k = Lib.byteCells (Tx.enc (o ++ [32] ++ [k])) := by
  rw [← cells_one, ← cells_one]
  rfl
set_option maxHeartbeats 8000000 in
set_option maxRecDepth 1000000 in
theorem prep_any (s : ByteArray) (w : World) (hs : s.size ≤ 8796093022208) :
    Calls Tryd.prog 42 #[.string s] w fun e w' => e = .returned (.string ⟨(Tx.prep s.data.toList).toArray⟩) ∧ Below w.heap.size w w' := by
  go_enter Tryd.func42, Tryd.ntmps42
  go_wp2
  go_loopw [4, 6] (fun v4 v6 wr => ∃ (pos : Nat) (o : List Int) (b : Bool), v4 = .bool b ∧ Bld.Holds w.heap.size w.heap.size (Lib.byteCells (Tx.enc o)) wr ∧ wr.heap[w.heap.size + 1]? = some (.stringIter s pos) ∧ Below w.heap.size w wr ∧ Aside (prepFrom s pos (o, b) = Tx.norm (Tx.kinds (Tx.runes s.data.toList))) ∧ o.length ≤ 2 * pos) (fun _ _ wr => s.size - wr.iterPos (w.heap.size + 1))
  case atStart =>
    refine ⟨0, [], false, rfl, (Lib.IsBuilderF.of (Lib.fresh_isBuilder 73 5 w)).alloc _, ?_, ((Below.refl _ w).alloc (Nat.le_refl _) _).alloc (by simp) _, (show Aside _ from rfl), by simp⟩
    have := World.iter_heap (w.alloc (.cells #[.pointer none, .slice none 0 0] 73)) s 0
    simpa using this
  case round =>
    obtain ⟨pos, o, b, rfl, hI, hit, hbw, hacc, hol⟩ := hrel
    have hsz : w.heap.size + 1 < wr.heap.size := (Array.getElem?_eq_some_iff.1 hit).1
    by_cases hp : pos < s.size
    · have hnx : ∀ ty, (Instr.next (.pointer (some ⟨w.heap.size + 1, 0, none⟩)) true ty).run Tryd.prog wr = _ := fun ty => Lib.run_next_any_at wr (w.heap.size + 1) s pos ty hit hp
      have hwd := decode_width s pos hp
      have hok : Tx.Ok ((Utf8.decode s pos).1 : Int) := by rw [← Lib.decodeL_drop]; exact Tx.decodeL_ok _
      have hst := prepFrom_step s pos hp (o, b)
      have hI2 := hI.iterAt hit (pos + (Utf8.decode s pos).2)
      have hit2 := Lib.iterAt_heap wr (w.heap.size + 1) s pos (pos + (Utf8.decode s pos).2) hit
      have hbw2 := Lib.below_iterAt hbw (k := w.heap.size + 1) (by omega) s (pos + (Utf8.decode s pos).2)
      have hsz2 : w.heap.size ≤ (wr.iterAt (w.heap.size + 1) s (pos + (Utf8.decode s pos).2)).heap.size := by rw [Lib.iterAt_size]; omega
      generalize Utf8.decode s pos = d at hnx hwd hok hst hI2 hit2 hbw2 hsz2
      obtain ⟨r, wd⟩ := d
      simp only at hnx hwd hok hst hI2 hit2 hbw2 hsz2
      have hr0 : 0 ≤ (r : Int) := by omega
      have hr1 : (r : Int) ≤ 1114111 := by unfold Tx.Ok at hok; omega
      have hk0 : -1 ≤ Tx.kind r := by unfold Tx.kind; repeat' split; all_goals omega
      have hk1 : Tx.kind r ≤ 1114143 := by unfold Tx.kind; repeat' split; all_goals omega
      have hko := Aside0.mk (fun h => Tx.kind_ok hok h)
      have HKA := Aside0.mk (fun w => kind_any (r : Int) w hr0 hr1)
      clear hok hr0 hr1
      generalize Tx.kind (r : Int) = k at *
      rw [hst] at hacc
      clear hst
      by_cases h32 : k = 32
      · subst h32
        have hlen : (!o.isEmpty) = decide (0 < (Lib.byteCells (Tx.enc o)).length) := by
          rw [Lib.byteCells_length]
          cases o with
          | nil => rfl
          | cons x o =>
            have := Tx.encodeRune_length x
            rw [Tx.enc_cons, List.length_append]
            simp
            omega
        have HL := Aside0.mk hlen
        clear hlen
        have hnext := Aside0.mk (show prepFrom s (pos + wd) (o, !o.isEmpty) = Tx.norm (Tx.kinds (Tx.runes s.data.toList)) from hacc)
        clear hacc
        go_wp2_with (first | (go_at_call 66; refine (HKA.out _).mono ?_; rintro e w' ⟨rfl, rfl⟩) | (go_at_call 67; refine (Bld.len _ _ _ _ hI2).mono ?_; rintro e w' ⟨rfl, rfl⟩))
        go_roundw
        case rel => exact ⟨pos + wd, o, !o.isEmpty, by rw [HL.out], hI2, hit2, hbw2, hnext.out, by omega⟩
        case measure =>
          simp only [World.iterPos, hit2, hit]
          omega
      · have h32b : (k == 32) = false := beq_eq_false_iff_ne.2 h32
        by_cases hneg : k < 0
        · have hnext := Aside0.mk (show prepFrom s (pos + wd) (o, b) = Tx.norm (Tx.kinds (Tx.runes s.data.toList)) from by rw [if_neg (by omega)] at hacc; exact hacc)
          clear hacc
          go_wp2_with (first | (go_at_call 66; refine (HKA.out _).mono ?_; rintro e w' ⟨rfl, rfl⟩))
          go_roundw
          case rel => exact ⟨pos + wd, o, b, rfl, hI2, hit2, hbw2, hnext.out, by omega⟩
          case measure =>
            simp only [World.iterPos, hit2, hit]
            omega
        · have hk2 : 0 ≤ k := by omega
          have hrn := Aside0.mk (show Bld.OkRune k from by have := hko.out hk2; unfold Tx.Ok at this; unfold Bld.OkRune; exact this)
          have hel := Tx.enc_length o
          have hlb := Lib.byteCells_length (Tx.enc o)
          have HLB := Aside0.mk hlb
          clear hlb
          cases b with
          | true =>
            have hnext := Aside0.mk (show prepFrom s (pos + wd) (o ++ [32] ++ [k], false) = Tx.norm (Tx.kinds (Tx.runes s.data.toList)) from by
              rw [if_pos hk2] at hacc
              unfold Tx.pstep at hacc
              rw [if_neg h32] at hacc
              exact hacc)
            clear hacc
            have hcell := Aside0.mk (cells_two o k)
            go_wp2_with (first | (go_at_call 66; refine (HKA.out _).mono ?_; rintro e w' ⟨rfl, rfl⟩) | (go_at_call 47; refine (Bld.writeByte _ _ _ 32 _ hI2 (by rw [HLB.out]; omega) hsz2).mono ?_))
            rintro e w1 ⟨rfl, h1, L1⟩
            have hit3 := L1.kept.iter hit2 (by omega)
            have hbw3 := hbw2.trans L1.below
            have hsz3 := Nat.le_trans hsz2 L1.below.size
            clear L1
            go_wp2_with (go_at_call 51; refine (Bld.writeRune _ _ _ k hrn.out _ h1 (by rw [List.length_append, HLB.out]; simp; omega) hsz3).mono ?_)
            rintro e w2 ⟨⟨nr, rfl⟩, h2, L2⟩
            have hit4 := L2.kept.iter hit3 (by omega)
            have hbw4 := hbw3.trans L2.below
            rw [hcell.out] at h2
            clear L2
            go_wp2
            go_roundw
            case rel => exact ⟨pos + wd, o ++ [32] ++ [k], false, rfl, h2, hit4, hbw4, hnext.out, by simp; omega⟩
            case measure =>
              simp only [World.iterPos, hit4, hit]
              omega
          | false =>
            have hnext := Aside0.mk (show prepFrom s (pos + wd) (o ++ [k], false) = Tx.norm (Tx.kinds (Tx.runes s.data.toList)) from by
              rw [if_pos hk2] at hacc
              unfold Tx.pstep at hacc
              rw [if_neg h32] at hacc
              exact hacc)
            clear hacc
            have hcell := Aside0.mk (cells_one o k)
            go_wp2_with (first | (go_at_call 66; refine (HKA.out _).mono ?_; rintro e w' ⟨rfl, rfl⟩) | (go_at_call 51; refine (Bld.writeRune _ _ _ k hrn.out _ hI2 (by rw [HLB.out]; omega) hsz2).mono ?_))
            rintro e w2 ⟨⟨nr, rfl⟩, h2, L2⟩
            have hit4 := L2.kept.iter hit2 (by omega)
            have hbw4 := hbw2.trans L2.below
            rw [hcell.out] at h2
            clear L2
            go_wp2
            go_roundw
            case rel => exact ⟨pos + wd, o ++ [k], false, rfl, h2, hit4, hbw4, hnext.out, by simp; omega⟩
            case measure =>
              simp only [World.iterPos, hit4, hit]
              omega
    · have hnx : ∀ ty, (Instr.next (.pointer (some ⟨w.heap.size + 1, 0, none⟩)) true ty).run Tryd.prog wr = _ := fun ty => Lib.run_next_end_at wr (w.heap.size + 1) s pos ty hit hp
      rw [prepFrom_end s pos hp] at hacc
      have HA := Aside0.mk (show o = Tx.norm (Tx.kinds (Tx.runes s.data.toList)) from hacc)
      clear hacc
      go_wp2_with (go_at_call 49; refine (Tryd.Builder_String_any_k w.heap.size w.heap.size _ _ hI (by omega)).mono ?_)
      rintro e W1 ⟨rfl, _, b1, _⟩
      go_wp2
      go_ret
      exact ⟨by rw [HA.out]; rfl, hbw.trans b1⟩
end Go.Proofs.YtpbbcjkbeodeiaaDoor
