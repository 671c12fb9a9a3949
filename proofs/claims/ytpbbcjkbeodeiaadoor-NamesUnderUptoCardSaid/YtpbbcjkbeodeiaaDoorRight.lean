/- texts.Right of the tags 19, 22 and 27, and of no tag of the four, walked. No condition. Printed by right.py. -/
import Derived.Test.YtpbbcjkbeodeiaaDoorPl
import Derived.Test.YtpbbcjkbeodeiaaDoorProg
import Derived.Test.YtpbbcjkbeodeiaaDoorRunes
import Derived.Test.YtpbbcjkbeodeiaaDoorShelf
import Derived.WalkKit
import Derived.BigCall
import Derived.BigQuiet
import Derived.BigGuardPart
import Derived.Deep.LoopGhost
import Derived.Lib.DecodeN
import Derived.Lib.TrimUEq
import Derived.Lib.TrimAscii
import Derived.Outline
set_option linter.unusedVariables false
set_option linter.unusedSimpArgs false
namespace Go.Proofs.YtpbbcjkbeodeiaaDoor
open Go.RowKit Go.Proofs.YtpbbcjkbeodeiaaDoorW.PrintWords
namespace Rt
def pr (c : Int) : Bool := decide (65 ≤ c ∧ c ≤ 90) || decide (97 ≤ c ∧ c ≤ 122) || decide (32 = c ∨ 39 ≤ c ∧ c ≤ 41 ∨ 43 ≤ c ∧ c ≤ 58 ∨ c = 61 ∨ c = 63)
def ia (c : Int) : Bool := decide (0 ≤ c ∧ c < 128)
def ge (c : Int) : Bool := decide (32 ≤ c ∧ c < 127)
def allp (p : Int → Bool) (s : ByteArray) (pos : Nat) : Bool := (s.data.toList.drop pos).all fun b => p (b.toNat : Int)
theorem decodeL_high (b : UInt8) (l : List UInt8) (h : 128 ≤ b.toNat) : 128 ≤ (Lib.decodeL (b :: l)).1 := by
  rw [Lib.decodeL_N]
  unfold Lib.decodeN
  have h0 : ((b :: l).getD 0 0).toNat = b.toNat := rfl
  rw [h0]
  rw [if_neg (by omega)]
  repeat' split
  all_goals simp only
  all_goals omega
theorem step (p : Int → Bool) (hp : ∀ c, 128 ≤ c → p c = false) (s : ByteArray) (pos : Nat) (h : pos < s.size) :
    (p ((Utf8.decode s pos).1 : Int) = true → allp p s pos = allp p s (pos + 1) ∧ (Utf8.decode s pos).2 = 1) ∧ (p ((Utf8.decode s pos).1 : Int) = false → allp p s pos = false) := by
  have hl : pos < s.data.toList.length := by simpa using h
  have hd : s.data.toList.drop pos = s.data.toList[pos] :: s.data.toList.drop (pos + 1) := List.drop_eq_getElem_cons hl
  have hall : allp p s pos = (p (s.data.toList[pos].toNat : Int) && allp p s (pos + 1)) := by
    unfold allp
    rw [hd, List.all_cons]
  rw [← Lib.decodeL_drop, hd, hall]
  generalize s.data.toList[pos] = b at *
  by_cases hb : b.toNat < 128
  · rw [Lib.decodeL_ascii b _ hb]
    refine ⟨fun h1 => ⟨by rw [h1, Bool.true_and], rfl⟩, fun h1 => by rw [h1, Bool.false_and]⟩
  · have h1 := decodeL_high b (s.data.toList.drop (pos + 1)) (by omega)
    refine ⟨fun h2 => ?_, fun _ => by rw [hp _ (by omega), Bool.false_and]⟩
    rw [hp _ (by omega)] at h2
    cases h2
theorem allp_end (p : Int → Bool) (s : ByteArray) (pos : Nat) (h : s.size ≤ pos) : allp p s pos = true := by
  unfold allp
  rw [List.drop_eq_nil_of_le (by simpa using h)]
  rfl
theorem width (s : ByteArray) (pos : Nat) : 1 ≤ (Utf8.decode s pos).2 := by rw [← Lib.decodeL_drop]; exact Lib.decodeL_width _
theorem ia_high : ∀ c, 128 ≤ c → ia c = false := fun c h => by simp [ia]; omega
theorem ge_high : ∀ c, 128 ≤ c → ge c = false := fun c h => by simp [ge]; omega
theorem pr_high : ∀ c, 128 ≤ c → pr c = false := fun c h => by simp [pr]; omega
set_option maxHeartbeats 400000 in
set_option maxRecDepth 100000 in
theorem ia_any (c : Int) (w : World) (h0 : 0 ≤ c) : Calls Tryd.prog 77 #[.int .i32 c] w fun e w' => e = .returned (.bool (ia c)) ∧ w = w' := by
  go_enter Tryd.func77, Tryd.ntmps77
  go_wp2
  go_ret
  exact ⟨by simp [ia, h0], rfl⟩
set_option maxHeartbeats 400000 in
set_option maxRecDepth 100000 in
theorem ge_any (c : Int) (w : World) : Calls Tryd.prog 78 #[.int .i32 c] w fun e w' => e = .returned (.bool (ge c)) ∧ w = w' := by
  by_cases h1 : 32 ≤ c
  · go_enter Tryd.func78, Tryd.ntmps78
    go_wp2
    go_ret
    exact ⟨by simp [ge, h1], rfl⟩
  · go_enter Tryd.func78, Tryd.ntmps78
    go_wp2
    go_ret
    exact ⟨by simp [ge]; omega, rfl⟩
theorem below_iter0 (w : World) (s : ByteArray) : Below w.heap.size w (w.iter s 0) := by
  have := (Below.refl w.heap.size w).alloc (Nat.le_refl _) (.stringIter s 0)
  exact this
set_option maxHeartbeats 4000000 in
set_option maxRecDepth 1000000 in
theorem walk22 (A0 : Option Addr) (c0 : Nat) (l0 : List Int) (w : World) (hr0 : Kd.C (Kd.int .u8) w A0 l0.length l0) :
    Calls Tryd.prog 63 #[.int .u8 22, .slice A0 l0.length c0] w fun e w' => e = .returned (.bool (allp ia (strOfNums l0) 0)) ∧ Below w.heap.size w w' := by
  have HCV := Aside0.mk (fun W (hW : Kd.C (Kd.int .u8) W A0 l0.length l0) => Kd.C_string (P := Tryd.prog) (c := c0) Tryd.underlying28 Tryd.underlying5 Tryd.underlying9 hW)
  have hcv := HCV.out w hr0
  have HST := Aside0.mk (fun pos (h : pos < (strOfNums l0).size) => step ia ia_high (strOfNums l0) pos h)
  have HEND := Aside0.mk (fun pos (h : (strOfNums l0).size ≤ pos) => allp_end ia (strOfNums l0) pos h)
  generalize strOfNums l0 = s at *
  clear HCV hr0
  go_enter Tryd.func63, Tryd.ntmps63
  go_wp2
  go_loopw [7] (fun v7 wr => ∃ (pos : Nat), wr.heap[w.heap.size]? = some (.stringIter s pos) ∧ Below w.heap.size w wr ∧ Aside0 (allp ia s pos = allp ia s 0)) (fun _ wr => s.size - wr.iterPos (w.heap.size))
  case atStart => exact ⟨0, World.iter_heap w s 0, below_iter0 w s, ⟨rfl⟩⟩
  case round =>
    obtain ⟨pos, hit, hbw, hacc⟩ := hrel
    have HA := Aside0.mk hacc.out
    clear hacc
    by_cases hp : pos < s.size
    · have hnx : ∀ ty, (Instr.next (.pointer (some ⟨w.heap.size, 0, none⟩)) true ty).run Tryd.prog wr = _ := fun ty => Lib.run_next_any_at wr (w.heap.size) s pos ty hit hp
      have hwd := width s pos
      have hst := HST.out pos hp
      have hit2 := Lib.iterAt_heap wr (w.heap.size) s pos (pos + (Utf8.decode s pos).2) hit
      have hbw2 := Lib.below_iterAt hbw (k := w.heap.size) (by omega) s (pos + (Utf8.decode s pos).2)
      have HM := Aside0.mk (fun W => ia_any ((Utf8.decode s pos).1 : Int) W (by omega))
      generalize Utf8.decode s pos = d at hnx hwd hst hit2 hbw2 HM
      obtain ⟨r, wd⟩ := d
      simp only at hnx hwd hst hit2 hbw2 HM
      obtain ⟨hs1, hs2⟩ := hst
      cases hq : ia (r : Int) with
      | true =>
        obtain ⟨h1, rfl⟩ := hs1 hq
        rw [hq] at HM
        have HN := Aside0.mk (h1.symm.trans HA.out)
        clear hs1 hs2 hq h1 HA
        go_wp2_with (go_at_call 77; refine (HM.out _).mono ?_; rintro e w' ⟨rfl, rfl⟩)
        go_roundw
        case rel => exact ⟨pos + 1, hit2, hbw2, ⟨HN.out⟩⟩
        case measure =>
          simp only [World.iterPos, hit2, hit]
          omega
      | false =>
        have h1 := hs2 hq
        rw [hq] at HM
        have HN := Aside0.mk (h1.symm.trans HA.out)
        clear hs1 hs2 hq h1 HA
        go_wp2_with (go_at_call 77; refine (HM.out _).mono ?_; rintro e w' ⟨rfl, rfl⟩)
        go_ret
        exact ⟨congrArg (fun b => Ending.returned (.bool b)) HN.out, hbw2⟩
    · have hnx : ∀ ty, (Instr.next (.pointer (some ⟨w.heap.size, 0, none⟩)) true ty).run Tryd.prog wr = _ := fun ty => Lib.run_next_end_at wr (w.heap.size) s pos ty hit hp
      have HN := Aside0.mk ((HEND.out pos (by omega)).symm.trans HA.out)
      go_wp2
      go_ret
      exact ⟨congrArg (fun b => Ending.returned (.bool b)) HN.out, hbw⟩
set_option maxHeartbeats 4000000 in
set_option maxRecDepth 1000000 in
theorem walk27 (A0 : Option Addr) (c0 : Nat) (l0 : List Int) (w : World) (hr0 : Kd.C (Kd.int .u8) w A0 l0.length l0) :
    Calls Tryd.prog 63 #[.int .u8 27, .slice A0 l0.length c0] w fun e w' => e = .returned (.bool (allp ge (strOfNums l0) 0)) ∧ Below w.heap.size w w' := by
  have HCV := Aside0.mk (fun W (hW : Kd.C (Kd.int .u8) W A0 l0.length l0) => Kd.C_string (P := Tryd.prog) (c := c0) Tryd.underlying28 Tryd.underlying5 Tryd.underlying9 hW)
  have hcv := HCV.out w hr0
  have HST := Aside0.mk (fun pos (h : pos < (strOfNums l0).size) => step ge ge_high (strOfNums l0) pos h)
  have HEND := Aside0.mk (fun pos (h : (strOfNums l0).size ≤ pos) => allp_end ge (strOfNums l0) pos h)
  generalize strOfNums l0 = s at *
  clear HCV hr0
  go_enter Tryd.func63, Tryd.ntmps63
  go_wp2
  go_loopw [7] (fun v7 wr => ∃ (pos : Nat), wr.heap[w.heap.size]? = some (.stringIter s pos) ∧ Below w.heap.size w wr ∧ Aside0 (allp ge s pos = allp ge s 0)) (fun _ wr => s.size - wr.iterPos (w.heap.size))
  case atStart => exact ⟨0, World.iter_heap w s 0, below_iter0 w s, ⟨rfl⟩⟩
  case round =>
    obtain ⟨pos, hit, hbw, hacc⟩ := hrel
    have HA := Aside0.mk hacc.out
    clear hacc
    by_cases hp : pos < s.size
    · have hnx : ∀ ty, (Instr.next (.pointer (some ⟨w.heap.size, 0, none⟩)) true ty).run Tryd.prog wr = _ := fun ty => Lib.run_next_any_at wr (w.heap.size) s pos ty hit hp
      have hwd := width s pos
      have hst := HST.out pos hp
      have hit2 := Lib.iterAt_heap wr (w.heap.size) s pos (pos + (Utf8.decode s pos).2) hit
      have hbw2 := Lib.below_iterAt hbw (k := w.heap.size) (by omega) s (pos + (Utf8.decode s pos).2)
      have HM := Aside0.mk (fun W => ge_any ((Utf8.decode s pos).1 : Int) W )
      generalize Utf8.decode s pos = d at hnx hwd hst hit2 hbw2 HM
      obtain ⟨r, wd⟩ := d
      simp only at hnx hwd hst hit2 hbw2 HM
      obtain ⟨hs1, hs2⟩ := hst
      cases hq : ge (r : Int) with
      | true =>
        obtain ⟨h1, rfl⟩ := hs1 hq
        rw [hq] at HM
        have HN := Aside0.mk (h1.symm.trans HA.out)
        clear hs1 hs2 hq h1 HA
        go_wp2_with (go_at_call 78; refine (HM.out _).mono ?_; rintro e w' ⟨rfl, rfl⟩)
        go_roundw
        case rel => exact ⟨pos + 1, hit2, hbw2, ⟨HN.out⟩⟩
        case measure =>
          simp only [World.iterPos, hit2, hit]
          omega
      | false =>
        have h1 := hs2 hq
        rw [hq] at HM
        have HN := Aside0.mk (h1.symm.trans HA.out)
        clear hs1 hs2 hq h1 HA
        go_wp2_with (go_at_call 78; refine (HM.out _).mono ?_; rintro e w' ⟨rfl, rfl⟩)
        go_ret
        exact ⟨congrArg (fun b => Ending.returned (.bool b)) HN.out, hbw2⟩
    · have hnx : ∀ ty, (Instr.next (.pointer (some ⟨w.heap.size, 0, none⟩)) true ty).run Tryd.prog wr = _ := fun ty => Lib.run_next_end_at wr (w.heap.size) s pos ty hit hp
      have HN := Aside0.mk ((HEND.out pos (by omega)).symm.trans HA.out)
      go_wp2
      go_ret
      exact ⟨congrArg (fun b => Ending.returned (.bool b)) HN.out, hbw⟩
end Rt
end Go.Proofs.YtpbbcjkbeodeiaaDoor
