/- texts.Time, of two digits of a year, from 2000 on. No condition. Printed by timew.py. -/
import Derived.Test.YtgpghjmoapffcaaDoorTimeW
set_option linter.unusedVariables false
set_option linter.unusedSimpArgs false
namespace Go.Proofs.YtgpghjmoapffcaaDoor
open Go.RowKit Go.Proofs.YtgpghjmoapffcaaDoorW.PrintWords
namespace Tm
set_option maxHeartbeats 16000000 in
set_option maxRecDepth 1000000 in
theorem walk23a (pf : Int → Option (Int × List Int × Int)) (hpf : ∀ (a r1 : Int) (r2 : List Int) (r3 : Int) (W : World), pf a = some (r1, r2, r3) → Calls Tryd.prog 17 #[.int .i64 a] W fun e w' => ∃ v1_ : Value, e = .returned (.tuple #[.int .u8 r1, v1_, .int .i64 r3]) ∧ Kd.V (Kd.int .u8) 5 w' W.heap.size (fun k_ => W.heap.size ≤ k_) v1_ r2 ∧ Below W.heap.size W w')
    (A : Option Addr) (c : Nat) (l : List Int) (hc : 13 ≤ c) (hl : l.length = 13) (h53 : rd l 0 < 53) (r : Int × Int) (w : World) (hC : Kd.C (Kd.int .u8) w A l.length l) (h : tell pf 23 l (((⟨#[50, 48]⟩ : ByteArray) ++ strOfNums l).extract 0 14) = some r) :
    Calls Tryd.prog 19 #[.int .u8 23, .slice A 13 c] w fun e w' => e = .returned (.tuple #[.int .i64 r.1, .int .i64 r.2]) ∧ Below w.heap.size w w' := by
  have HCV := Aside0.mk (fun W (hW : Kd.C (Kd.int .u8) W A l.length l) => Kd.C_string (P := Tryd.prog) (c := c) Tryd.underlying22 Tryd.underlying5 Tryd.underlying9 hW)
  have hcv := HCV.out w hC
  have hsz : (strOfNums l).size = 13 := by rw [strOfNums_size, hl]
  have HW := Aside0.mk hC
  have hrd := Kd.reads_of_C (enc := Value.int .u8) (d := (0 : Int)) (h1 := fun _ => rfl) hC
  obtain ⟨ad, hA, hh⟩ := hrd.2.2 (by omega)
  have hcell0 : w.cell? ad = some (.int .u8 (rd l 0)) := hh 0 (by omega)
  subst hA
  clear hh hrd
  generalize rd l 0 = x0 at *
  rw [hl] at hcv
  obtain ⟨D, hD⟩ : ∃ D, (⟨#[50, 48]⟩ : ByteArray) ++ strOfNums l = D := ⟨_, rfl⟩
  have hDs : D.size = 15 := by
    rw [← hD]
    rw [Al2.app_size, hsz]; rfl
  rw [hD] at h
  obtain ⟨T, hT⟩ : ∃ T, D.extract 0 14 = T := ⟨_, rfl⟩
  have hTs : T.size = 14 := by
    rw [← hT]
    simp [hDs]
  rw [hT] at h
  have HRES := Aside0.mk h
  have HPF := Aside0.mk hpf
  have HL := Aside0.mk hl
  have HTS := Aside0.mk hTs
  have HDIG := Aside0.mk (fun pos (hp : pos < 14) => dig T pos (by omega))
  clear hC h hpf HCV hl
  generalize strOfNums l = S at *
  go_enter Tryd.func19, Tryd.ntmps19
  go_wp2
  go_loopw [8, 9] (fun v8 v9 wr => ∃ pos : Nat, pos ≤ 14 ∧ wr.heap[w.heap.size + 1]? = some (.stringIter T pos) ∧ Aside0 (Cells wr w.heap.size (cell T pos)) ∧ Aside0 (Below w.heap.size w wr) ∧ Aside0 (∀ j, j < pos → isD T j)) (fun _ _ wr => 14 - wr.iterPos (w.heap.size + 1))
  case atStart =>
    refine ⟨0, by omega, ?_, ⟨cells0 w T _⟩, ⟨?_⟩, ⟨fun j hj => absurd hj (Nat.not_lt_zero _)⟩⟩
    · have := World.iter_heap (w.alloc (.cells #[.int .i64 0, .int .i64 0, .int .i64 0, .int .i64 0, .int .i64 0, .int .i64 0, .int .i64 0] 61)) T 0
      rwa [World.size_alloc] at this
    · exact below_alloc (below_alloc (Below.refl w.heap.size w) _) (.stringIter T 0)
  case round =>
    obtain ⟨pos, hp14, hit, hcells, hbw, hdg⟩ := hrel
    by_cases hp : pos < 14
    · have hpT : pos < T.size := by rw [HTS.out]; exact hp
      have hnx : ∀ ty, (Instr.next (.pointer (some ⟨w.heap.size + 1, 0, none⟩)) true ty).run Tryd.prog wr = _ := fun ty => Lib.run_next_any_at wr (w.heap.size + 1) T pos ty hit hpT
      obtain ⟨hd1, hd2⟩ := HDIG.out pos hp
      have hit2 := Lib.iterAt_heap wr (w.heap.size + 1) T pos (pos + (Utf8.decode T pos).2) hit
      have hbw2 := Aside0.mk (Lib.below_iterAt hbw.out (k := w.heap.size + 1) (by omega) T (pos + (Utf8.decode T pos).2))
      have hcl2 := Aside0.mk (cells_iterAt hcells.out (w.heap.size + 1) T (pos + (Utf8.decode T pos).2) (by omega))
      generalize Utf8.decode T pos = d at hnx hd1 hd2 hit2 hbw2 hcl2
      obtain ⟨rn, wd⟩ := d
      simp only at hnx hd1 hd2 hit2 hbw2 hcl2
      by_cases hq : 48 ≤ (rn : Int) ∧ (rn : Int) ≤ 57
      · obtain ⟨rfl, hrn⟩ := hd1 hq
        obtain ⟨hq1, hq2⟩ := hq
        have hv := cell_range T pos hdg.out
        have hc7 := hcl2.out (pos / 2) (by omega)
        have hnext := cell_next T pos
        rw [← hrn] at hnext
        have hcs := Aside0.mk (cells_set hcl2.out (f' := cell T (pos + 1)) (pos / 2) (cell T pos (pos / 2) * 10 + ((rn : Int) - 48)) (by omega) hnext (fun j hj => cell_same T pos j hj))
        have hdg2 : Aside0 (∀ j, j < pos + 1 → isD T j) := ⟨fun j hj => by
          by_cases e : j = pos
          · subst e
            unfold isD
            rw [← hrn]
            exact ⟨hq1, hq2⟩
          · exact hdg.out j (by omega)⟩
        have hh : (pos : Int) / 2 = ((pos / 2 : Nat) : Int) := by omega
        have hh7 : ((pos / 2 : Nat) : Int) < 7 := by omega
        have hh7n : pos / 2 < 7 := by omega
        have hit3 := Aside0.mk (fun v => (heap_setCell_other (wr.iterAt (w.heap.size + 1) T (pos + 1)) w.heap.size (pos / 2) v (w.heap.size + 1) (by omega)).trans hit2)
        clear hnext hrn hd1 hd2
        obtain ⟨hv0, hv9⟩ := hv
        generalize cell T pos (pos / 2) = v at hc7 hcs hv0 hv9
        generalize pos / 2 = hN at hc7 hcs hh hh7 hh7n hit3
        obtain ⟨hc7a, hc7b⟩ := hc7
        have hip : (wr.iterPos (w.heap.size + 1)) = pos := by simp only [World.iterPos, hit]
        have HIP := Aside0.mk hip
        clear hip
        go_wp2
        go_roundw
        case rel => exact ⟨pos + 1, by omega, hit3.out _, hcs, ⟨hbw2.out.setCell (show w.heap.size ≤ w.heap.size from Nat.le_refl _) _⟩, hdg2⟩
        case measure =>
          have h1 := hit3.out (.int .i64 (v * 10 + ((rn : Int) - 48)))
          simp only [World.iterPos, h1, hit]
          omega
      · have hr0 := tell_bad _ _ _ _ _ pos hp (hd2 hq) HRES.out
        subst hr0
        have HB2 := hbw2
        clear hd1 hd2 hcl2 hcells hdg hbw HRES HPF
        by_cases h48 : 48 ≤ (rn : Int)
        · have h57 : 57 < (rn : Int) := by omega
          go_wp2
          go_ret2
          exact ⟨rfl, HB2.out⟩
        · go_wp2
          go_ret2
          exact ⟨rfl, HB2.out⟩
    · obtain rfl : pos = 14 := by omega
      have hnx : ∀ ty, (Instr.next (.pointer (some ⟨w.heap.size + 1, 0, none⟩)) true ty).run Tryd.prog wr = _ := fun ty => Lib.run_next_end_at wr (w.heap.size + 1) T 14 ty hit (by rw [HTS.out]; omega)
      have hok := hdg.out
      have hcase := tell_ok _ _ _ _ _ hok HRES.out
      have k0 := (hcells.out 0 (by omega)).1
      have k1 := (hcells.out 1 (by omega)).1
      have k2 := (hcells.out 2 (by omega)).1
      have k3 := (hcells.out 3 (by omega)).1
      have k4 := (hcells.out 4 (by omega)).1
      have k5 := (hcells.out 5 (by omega)).1
      have k6 := (hcells.out 6 (by omega)).1
      rw [cell_end T _ (by omega)] at k0 k1 k2 k3 k4 k5 k6
      obtain ⟨g0, g0'⟩ := val_range T 0 (by omega) hok
      obtain ⟨g1, g1'⟩ := val_range T 1 (by omega) hok
      obtain ⟨g2, g2'⟩ := val_range T 2 (by omega) hok
      obtain ⟨g3, g3'⟩ := val_range T 3 (by omega) hok
      obtain ⟨g4, g4'⟩ := val_range T 4 (by omega) hok
      obtain ⟨g5, g5'⟩ := val_range T 5 (by omega) hok
      obtain ⟨g6, g6'⟩ := val_range T 6 (by omega) hok
      unfold sec at hcase
      clear HRES hok hdg HDIG hcells
      generalize val T 0 = f0 at k0 g0 g0' hcase
      generalize val T 1 = f1 at k1 g1 g1' hcase
      generalize val T 2 = f2 at k2 g2 g2' hcase
      generalize val T 3 = f3 at k3 g3 g3' hcase
      generalize val T 4 = f4 at k4 g4 g4' hcase
      generalize val T 5 = f5 at k5 g5 g5' hcase
      generalize val T 6 = f6 at k6 g6 g6' hcase
      have HB2 := hbw
      rcases hcase with ⟨hbad, rfl⟩ | ⟨hgood, q1, q2, q3, hq, hr⟩
      · clear HPF hbw
        have BAD := Aside0.mk hbad
        clear hbad
        by_cases b1 : f2 < 1
        · go_wp2
          go_quiet (fail)
          go_wp2
          all_goals (go_ret2; exact ⟨rfl, pw_below_drewN HB2.out _⟩)
        by_cases b2 : 12 < f2
        · go_wp2
          go_quiet (fail)
          go_wp2
          all_goals (go_ret2; exact ⟨rfl, pw_below_drewN HB2.out _⟩)
        by_cases b3 : 23 < f4
        · go_wp2
          go_quiet (fail)
          go_wp2
          all_goals (go_ret2; exact ⟨rfl, pw_below_drewN HB2.out _⟩)
        by_cases b4 : 59 < f5
        · go_wp2
          go_quiet (fail)
          go_wp2
          all_goals (go_ret2; exact ⟨rfl, pw_below_drewN HB2.out _⟩)
        have b5 : 59 < f6 := by
          have := BAD.out
          omega
        go_wp2
        go_quiet (fail)
        go_wp2
        all_goals (go_ret2; exact ⟨rfl, pw_below_drewN HB2.out _⟩)
      · have b1 : ¬ f2 < 1 := by omega
        have b2 : ¬ 12 < f2 := by omega
        have b3 : ¬ 23 < f4 := by omega
        have b4 : ¬ 59 < f5 := by omega
        have b5 : ¬ 59 < f6 := by omega
        have HR := Aside0.mk hr
        have hdr := dayt_range (100 * f0 + f1) f2 f3 (by omega) (by omega) (by omega) (by omega) g3 g3'
        have HD := Aside0.mk (fun W => (show Calls Tryd.prog 40 #[.int .i64 (100 * f0 + f1), .int .i64 f2, .int .i64 f3] W fun e w' => e = .returned (.int .i64 (dayt (100 * f0 + f1) f2 f3)) ∧ ∃ q, w' = W.drewN q from (day (100 * f0 + f1) f2 f3 W (by omega) (by omega) (by omega) (by omega) g3 g3').mono (fun e w' h => ⟨h.1, by obtain ⟨q, hq⟩ := h.2; exact ⟨q, hq⟩⟩)))
        generalize dayt (100 * f0 + f1) f2 f3 = dn at hdr HD HR hq
        obtain ⟨hdr0, hdr1⟩ := hdr
        have HQ := Aside0.mk (fun W => HPF.out _ q1 q2 q3 W hq)
        clear hgood hr hq HPF hbw
        go_wp2
        go_quiet (fail)
        have HB3 := Aside0.mk (pw_below_drewN HB2.out nq)
        have m4 : (wr.drewN nq).cell? ⟨w.heap.size, 4, none⟩ = some (.int .i64 f4) := by simpa using k4
        have m5 : (wr.drewN nq).cell? ⟨w.heap.size, 5, none⟩ = some (.int .i64 f5) := by simpa using k5
        have m6 : (wr.drewN nq).cell? ⟨w.heap.size, 6, none⟩ = some (.int .i64 f6) := by simpa using k6
        generalize wr.drewN nq = wq at HB3 m4 m5 m6 ⊢
        clear k0 k1 k2 k3 k4 k5 k6 HB2
        have e1 : decide (f2 < 1) = false := decide_eq_false (by omega)
        have e2 : decide (12 < f2) = false := decide_eq_false (by omega)
        have e3 : decide (23 < f4) = false := decide_eq_false (by omega)
        have e4 : decide (59 < f5) = false := decide_eq_false (by omega)
        have e5 : decide (59 < f6) = false := decide_eq_false (by omega)
        go_wp2
        have QD := Aside0.mk (fun n => Calls.quiet_of (HD.out (wq.drewN n)))
        go_quiet ((go_at_call 40; with_reducible exact QD.out _))
        have HB4 := Aside0.mk (pw_below_drewN HB3.out nq)
        generalize wq.drewN nq = wp at HB4 ⊢
        clear m4 m5 m6 HB3 HD QD
        go_wp2_with (go_at_call 17; go_must (refine (HQ.out _).mono ?_))
        rintro e w5 ⟨v1, rfl, hV, hb5⟩
        have HB5 := Aside0.mk (below_step HB4.out hb5)
        have HV := Aside0.mk (Kd.V_lower (Kd.V_mono (ok' := fun k_ => True) hV (fun k_ hk_ => trivial)) (below_size HB4.out))
        clear hV hb5 HB4
        obtain ⟨A1, cc1, rfl⟩ := Kd.V_slice HV.out
        generalize dn * 86400 + (3600 * f4 + 60 * f5 + f6) = sc at HR HQ ⊢
        have HC5 := Aside0.mk (Kd.C_below HW.out HB5.out)
        clear HW HQ
        by_cases c1 : q3 = 0
        · subst c1
          by_cases c2 : q1 = 23
          · subst c2
            have hy : ∀ n, (convert 22 9 (.slice (some ad) 13 c)).run Tryd.prog (w5.drewN n) = .ok (.string (strOfNums l)) (w5.drewN n) := fun n => by
              have h := Kd.C_string (P := Tryd.prog) (c := c) Tryd.underlying22 Tryd.underlying5 Tryd.underlying9 (Kd.C_below HC5.out (pw_below_drewN (Below.refl _ w5) n))
              rwa [HL.out] at h
            have EQ := Aside0.mk (equal (.slice A1 q2.length cc1) (.slice (some ad) 13 c) q2 l w5 (fun n => V_string Tryd.underlying22 Tryd.underlying5 Tryd.underlying9 (Kd.V_drewN HV.out n)) hy)
            clear hy HV HC5
            by_cases c3 : (strOfNums q2).toList = (strOfNums l).toList
            · have hr2 : r = (sc, 0) := by rw [HR.out, if_pos ⟨rfl, rfl, c3⟩]
              subst hr2
              rw [beq_iff_eq.2 c3] at EQ
              clear c3 HR
              go_wp2_with (go_at_call 41; go_must (refine EQ.out.mono ?_))
              rintro e w6 ⟨rfl, hb6⟩
              have HB6 := Aside0.mk (below_step HB5.out hb6)
              clear hb6
              go_wp2
              go_ret2
              exact ⟨rfl, HB6.out⟩
            · have hr2 : r = (0, 32) := by rw [HR.out, if_neg (fun h => c3 h.2.2)]
              subst hr2
              rw [beq_eq_false_iff_ne.2 c3] at EQ
              clear c3 HR
              go_wp2_with (go_at_call 41; go_must (refine EQ.out.mono ?_))
              rintro e w6 ⟨rfl, hb6⟩
              have HB6 := Aside0.mk (below_step HB5.out hb6)
              clear hb6
              go_wp2
              go_ret2
              exact ⟨rfl, HB6.out⟩
          · have hr2 : r = (0, 32) := by rw [HR.out, if_neg (fun h => c2 h.2.1)]
            subst hr2
            have c2b : (q1 != 23) = true := by simp [c2]
            clear HR HV HC5
            go_wp2
            go_ret2
            exact ⟨rfl, HB5.out⟩
        · have hr2 : r = (0, 32) := by rw [HR.out, if_neg (fun h => c1 h.1)]
          subst hr2
          have c1b : (q3 != 0) = true := by simp [c1]
          clear HR HV HC5
          go_wp2
          go_ret2
          exact ⟨rfl, HB5.out⟩
end Tm
end Go.Proofs.YtgpghjmoapffcaaDoor
