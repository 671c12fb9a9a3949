/- utf8.Valid, walked, under the two tables as they are laid: it tells whether no step of the decoder fails. No condition. Printed by validp.py. -/
import Derived.Test.YtgpghjmoapffcaaDoorValidW
import Derived.Test.YtgpghjmoapffcaaDoorVs
import Derived.Shelf.Unicode.DecodeSlow
import Derived.Laws.BitsAllLaws
import Derived.Deep.LoopGhost
import Derived.Deep.DeepMust
import Derived.Deep.CutBlock
import Derived.Deep.DeepCutAuto
set_option linter.unusedVariables false
set_option linter.unusedSimpArgs false
namespace Go.Proofs.YtgpghjmoapffcaaDoor
open Go.RowKit Go.Proofs.YtgpghjmoapffcaaDoorW.PrintWords
namespace Va
theorem cutk (b : Addr) (t : ByteArray) (i : Int) (k : Nat) (hi : i = (k : Int)) (hk : k ≤ t.size) : ∃ b', (∀ W, (Instr.slice 22 (.slice (some b) t.size t.size) (some (.int .i64 i)) none none).run Tryd.prog W = .ok (.slice (some b') (t.extract k t.size).size (t.extract k t.size).size) W) ∧ ∀ w, Row w b t → Row w b' (t.extract k t.size) := by
  obtain ⟨i0, h0, _, hsz, _⟩ := info_parts (P := Tryd.prog) (show (Tryd.prog.info? 5).map (fun i => (i.zero, i.size, i.bytes)) = some (some (.int .u8 0), 1, 1) by kernel_rfl)
  have hcut := cut_from (P := Tryd.prog) 22 5 .i64 Tryd.underlying22 h0 1 hsz (some b) t.size t.size i (by omega) (by omega)
  have e : i.toNat = k := by omega
  rw [e] at hcut
  rw [Lib.ext_size]
  by_cases hk2 : t.size = k
  · rw [if_pos hk2] at hcut
    exact ⟨b, hcut, fun w _ j hj => by rw [Lib.ext_size] at hj; omega⟩
  · rw [if_neg hk2, Nat.mul_one] at hcut
    exact ⟨b.add k, hcut, fun w h => h.tail k⟩
def lenOf : Value → Nat
  | .slice _ n _ => n
  | _ => 0
theorem full (A : Option Addr) (n c : Nat) (h : n ≤ c) (W : World) : (Instr.slice 22 (.slice A n c) none (some (.int .i64 n)) (some (.int .i64 n))).run Tryd.prog W = .ok (.slice A n n) W := by
  obtain ⟨i0, h0, _, hsz, _⟩ := info_parts (P := Tryd.prog) (show (Tryd.prog.info? 5).map (fun i => (i.zero, i.size, i.bytes)) = some (some (.int .u8 0), 1, 1) by kernel_rfl)
  have hz : (0 : Int) ≤ (n : Int) ∧ (n : Int) ≤ (c : Int) := by omega
  simp [Instr.slice, Instr.sliceBounds, Instr.sliceBound, run_underlying Tryd.underlying22, asIntOf, sizeOf, typeInfo, h0, hz, h, Result.andThen, Addr.add]
theorem row_of {w : World} {A : Option Addr} {l : List Int} (hC : Kd.C (Kd.int .u8) w A l.length l) (hb : ∀ x ∈ l, 0 ≤ x ∧ x < 256) (hne : 0 < l.length) : ∃ b, A = some b ∧ Row w b (strOfNums l) := by
  have hr := Kd.reads_of_C (enc := Value.int .u8) (d := (0 : Int)) (h1 := fun _ => rfl) hC
  obtain ⟨b, e, hh⟩ := hr.2.2 hne
  refine ⟨b, e, fun j hj => ?_⟩
  rw [strOfNums_size] at hj
  rw [hh j hj, ← Lib.getD_get!', strOfNums_data]
  have hx := hb l[j] (List.getElem_mem hj)
  simp only [List.getD_eq_getElem?_getD, List.getElem?_map, List.getElem?_eq_getElem hj, Option.map_some, Option.getD_some, UInt8.toNat_ofNat']
  congr 2
  omega
theorem and7 : ∀ X : Fin 256, bits .and .u8 ((X.val : Nat) : Int) 7 = ((X.val % 8 : Nat) : Int) := by decide +kernel
theorem below_drewNw {B : Nat} {a w : World} (h : Below B a w) : ∀ q, Below B a (w.drewN q)
  | 0 => h
  | q + 1 => (below_drewNw h q).drew
/-- Two words, or four: none has a byte from 128 on. -/
theorem two_words (t tb : ByteArray) (h : t.extract 8 t.size = tb) (h8 : 16 ≤ t.size) (h0 : (wd t ||| wd tb) &&& 9259542123273814144 = 0) : Lib.Asc t 16 := by
  have zb : tb.size + 8 = t.size := by rw [← h, Lib.ext_size]; omega
  obtain ⟨e1, e2⟩ := (Lib.or_mask _ _ _).1 h0
  exact Lib.asc_add t 8 8 ((Lib.word_asc t (by omega)).1 e1) (by rw [h]; exact (Lib.word_asc tb (by omega)).1 e2)
theorem four_words (t tb tc td : ByteArray) (hb : t.extract 8 t.size = tb) (hc : t.extract 16 t.size = tc) (hd : t.extract 24 t.size = td) (h8 : 32 ≤ t.size) (h0 : ((wd t ||| wd tb) ||| (wd tc ||| wd td)) &&& 9259542123273814144 = 0) : Lib.Asc t 32 := by
  have zb : tb.size + 8 = t.size := by rw [← hb, Lib.ext_size]; omega
  have zc : tc.size + 16 = t.size := by rw [← hc, Lib.ext_size]; omega
  have zd : td.size + 24 = t.size := by rw [← hd, Lib.ext_size]; omega
  obtain ⟨e01, e23⟩ := (Lib.or_mask _ _ _).1 h0
  obtain ⟨e0, e1⟩ := (Lib.or_mask _ _ _).1 e01
  obtain ⟨e2, e3⟩ := (Lib.or_mask _ _ _).1 e23
  have s16 : Lib.Asc t 16 := Lib.asc_add t 8 8 ((Lib.word_asc t (by omega)).1 e0) (by rw [hb]; exact (Lib.word_asc tb (by omega)).1 e1)
  have s24 : Lib.Asc t 24 := Lib.asc_add t 16 8 s16 (by rw [hc]; exact (Lib.word_asc tc (by omega)).1 e2)
  exact Lib.asc_add t 24 8 s24 (by rw [hd]; exact (Lib.word_asc td (by omega)).1 e3)
theorem wd_lt (t : ByteArray) : wd t < 18446744073709551616 := Lib.word_lt t
def Words (w : World) (b : Addr) (t : ByteArray) : Prop := ∀ W, Below w.heap.size w W → 8 ≤ t.size → Calls Tryd.prog 43 #[.slice (some b) t.size t.size] W fun e w' => e = .returned (.int .u64 (wd t)) ∧ ∃ q, w' = W.drewN q
theorem words {w : World} {b : Addr} {t : ByteArray} (h : Row w b t) : Words w b t := fun W hb h8 => word W b t t.size (h.below hb) h8
set_option maxHeartbeats 16000000 in
set_option maxRecDepth 1000000 in
theorem valid (A : Option Addr) (c : Nat) (l : List Int) (w : World) (hC : Kd.C (Kd.int .u8) w A l.length l) (hc : l.length ≤ c) (hb : ∀ x ∈ l, 0 ≤ x ∧ x < 256) (hT : Lib.Utf8Tabs 0 1 w) :
    Calls Tryd.prog 22 #[.slice A l.length c] w fun e w' => e = .returned (.bool (Lib.validD (strOfNums l).data.toList)) ∧ Below w.heap.size w w' := by
  have HF := fun W => full A l.length c hc W
  have hmax : l.length ≤ 9223372036854775807 := hC.2.1
  have HROW := Aside0.mk (row_of hC hb)
  have HT := Aside0.mk hT
  obtain ⟨S, hS⟩ : ∃ S, strOfNums l = S := ⟨_, rfl⟩
  have hSz : S.size = l.length := by rw [← hS, strOfNums_size]
  rw [hS]
  rw [hS] at HROW
  obtain ⟨ANS, hANS⟩ : ∃ ANS, Lib.validD S.data.toList = ANS := ⟨_, rfl⟩
  rw [hANS]
  have HV := Aside0.mk hANS
  have HZ := Aside0.mk hSz
  generalize hn : l.length = n at *
  clear hC hb hT hS hANS hn
  go_enter Tryd.func22, Tryd.ntmps22
  go_wp2
  clear HF
  go_loopw [0] (fun v0 wr => Aside0 (Below w.heap.size w wr) ∧ ∃ (A : Option Addr) (t : ByteArray), v0 = .slice A t.size t.size ∧ Aside0 (Lib.validD t.data.toList = ANS) ∧ Aside0 (0 < t.size → ∃ b, A = some b ∧ Row w b t) ∧ t.size ≤ 9223372036854775807) (fun v0 _ => lenOf v0)
  case atStart => exact ⟨⟨Below.refl _ _⟩, A, S, by rw [HZ.out], HV, ⟨fun h => HROW.out (by rw [← HZ.out]; exact h)⟩, by rw [HZ.out]; exact hmax⟩
  case round =>
    obtain ⟨hbw, A, t, rfl, hv, hrow, hts⟩ := hrel
    clear HV HZ HROW hmax
    by_cases h0 : 0 < t.size
    · obtain ⟨b, rfl, hR⟩ := hrow.out h0
      have HR := Aside0.mk hR
      have hRw := Aside0.mk (hR.below hbw.out)
      clear hrow hR
      have h0z : (0 : Int) < (t.size : Int) := by omega
      have hc0 : wr.cell? b = some (.int .u8 ((t.get! 0).toNat : Int)) := hRw.out 0 h0
      obtain ⟨x0, hx0⟩ : ∃ x0, (t.get! 0).toNat = x0 := ⟨_, rfl⟩
      have hx0lt : x0 < 256 := by rw [← hx0]; exact (t.get! 0).toNat_lt
      rw [hx0] at hc0
      have HX0 := Aside0.mk hx0
      clear hx0
      by_cases hasc : x0 < 128
      · as_aux_lemma =>
          have hascz : (x0 : Int) < 128 := by omega
          have a1 : Lib.Asc t 1 := Lib.asc_one t h0 (by rw [HX0.out]; exact hasc)
          obtain ⟨b1, hcut1, hrow1⟩ := cutk b t 1 1 rfl (by omega)
          obtain ⟨t1, ht1⟩ : ∃ t1, t.extract 1 t.size = t1 := ⟨_, rfl⟩
          have z1 : t1.size + 1 = t.size := by rw [← ht1, Lib.ext_size]; omega
          have v1 := Aside0.mk (show Lib.validD t1.data.toList = ANS by rw [← ht1, Lib.valid_skip t 1 a1]; exact hv.out)
          rw [ht1] at hcut1 hrow1
          have R1 := Aside0.mk (hrow1 w HR.out)
          clear hv a1 hrow1 HX0 HT ht1
          by_cases c8 : 8 < t1.size
          · have c8z : (8 : Int) < (t1.size : Int) := by omega
            have cW1 := Aside0.mk (words R1.out)
            have k1 := Aside0.mk (Lib.word_asc t1 (by omega))
            have lA1 := wd_lt t1
            obtain ⟨A1, hA1⟩ : ∃ A1, wd t1 = A1 := ⟨_, rfl⟩
            rw [hA1] at lA1
            have hand1 : bits .and .u64 (A1 : Int) 9259542123273814144 = ((A1 &&& 9259542123273814144 : Nat) : Int) := u64_and_nat A1 9259542123273814144 lA1 (by omega)
            obtain ⟨Z1, hZ1⟩ : ∃ Z1, A1 &&& 9259542123273814144 = Z1 := ⟨_, rfl⟩
            rw [hZ1] at hand1
            have HA1 := Aside0.mk hA1
            have HZ1 := Aside0.mk hZ1
            have W1 := Aside0.mk (fun W hW => hA1 ▸ cW1.out W hW (by omega))
            clear hA1 hZ1 cW1
            by_cases hz1 : Z1 = 0
            · have hz1b : ((Z1 : Int) == 0) = true := by simp [hz1]
              have a8 : Lib.Asc t1 8 := k1.out.1 (by show wd t1 &&& _ = 0; rw [HA1.out, HZ1.out]; exact hz1)
              obtain ⟨b2, hcut2, hrow2⟩ := cutk b1 t1 8 8 rfl (by omega)
              obtain ⟨t2, ht2⟩ : ∃ t2, t1.extract 8 t1.size = t2 := ⟨_, rfl⟩
              have z2 : t2.size + 8 = t1.size := by rw [← ht2, Lib.ext_size]; omega
              have v2 := Aside0.mk (show Lib.validD t2.data.toList = ANS by rw [← ht2, Lib.valid_skip t1 8 a8]; exact v1.out)
              rw [ht2] at hcut2 hrow2
              have R2 := Aside0.mk (hrow2 w R1.out)
              clear k1 a8 v1 hrow2 ht2 HA1 HZ1
              go_wp2_with (go_at_call 43; go_must (refine (W1.out _ hbw.out).mono ?_; rintro e W1 ⟨rfl, q1, rfl⟩))
              have hb1 := Aside0.mk (below_drewNw hbw.out q1)
              generalize wr.drewN q1 = wq at hb1 ⊢
              clear W1 hbw hRw hc0
              by_cases c16 : 16 < t2.size
              · have c16z : (16 : Int) < (t2.size : Int) := by omega
                obtain ⟨bb, hcutb, hrowb⟩ := cutk b2 t2 8 8 rfl (by omega)
                obtain ⟨tb, htb⟩ : ∃ tb, t2.extract 8 t2.size = tb := ⟨_, rfl⟩
                have zb : tb.size + 8 = t2.size := by rw [← htb, Lib.ext_size]; omega
                rw [htb] at hcutb hrowb
                have k2 := Aside0.mk (two_words t2 tb htb (by omega))
                have cA := words R2.out
                have cB := words (hrowb w R2.out)
                have lA := wd_lt t2
                have lB := wd_lt tb
                have CA := Aside0.mk (fun W hW => cA W hW (by omega))
                have CB := Aside0.mk (fun W hW => cB W hW (by omega))
                generalize wd t2 = A2 at CA k2 lA
                generalize wd tb = A3 at CB k2 lB
                have QA := Aside0.mk (fun n => Calls.quiet_of (CA.out (wq.drewN n) (below_drewNw hb1.out n)))
                have QB := Aside0.mk (fun n => Calls.quiet_of (CB.out (wq.drewN n) (below_drewNw hb1.out n)))
                clear cA cB hrowb htb CA CB
                have hor2 : bits .or .u64 (A2 : Int) (A3 : Int) = ((A2 ||| A3 : Nat) : Int) := u64_or_nat A2 A3 lA lB
                have lor2 : A2 ||| A3 < 18446744073709551616 := Nat.or_lt_two_pow (n := 64) lA lB
                have hand2 : bits .and .u64 ((A2 ||| A3 : Nat) : Int) 9259542123273814144 = (((A2 ||| A3) &&& 9259542123273814144 : Nat) : Int) := u64_and_nat _ 9259542123273814144 lor2 (by omega)
                obtain ⟨O2, hO2⟩ : ∃ O2, A2 ||| A3 = O2 := ⟨_, rfl⟩
                rw [hO2] at hor2 hand2 k2
                obtain ⟨Z2, hZ2⟩ : ∃ Z2, O2 &&& 9259542123273814144 = Z2 := ⟨_, rfl⟩
                rw [hZ2] at hand2 k2
                clear lor2 hO2 hZ2 lA lB
                by_cases hz2 : Z2 = 0
                · have hz2b : ((Z2 : Int) == 0) = true := by simp [hz2]
                  have a16 := k2.out hz2
                  obtain ⟨b3, hcut3, hrow3⟩ := cutk b2 t2 16 16 rfl (by omega)
                  obtain ⟨t3, ht3⟩ : ∃ t3, t2.extract 16 t2.size = t3 := ⟨_, rfl⟩
                  have z3 : t3.size + 16 = t2.size := by rw [← ht3, Lib.ext_size]; omega
                  have v3 := Aside0.mk (show Lib.validD t3.data.toList = ANS by rw [← ht3, Lib.valid_skip t2 16 a16]; exact v2.out)
                  rw [ht3] at hcut3 hrow3
                  have R3 := Aside0.mk (hrow3 w R2.out)
                  clear k2 a16 v2 hrow3 ht3
                  go_quiet (first | (go_at_call 43; with_reducible exact QA.out _) | (go_at_call 43; with_reducible exact QB.out _))
                  have hb2 := Aside0.mk (below_drewNw hb1.out nq)
                  generalize wq.drewN nq = wq2 at hb2 ⊢
                  clear QA QB hb1 hcut1 hcut2 hcutb hand1 hor2 hand2
                  go_wp2
                  clear hcut3
                  go_loopw [0] (fun v0 wr => Aside0 (Below w.heap.size w wr) ∧ ∃ (b : Addr) (u : ByteArray), v0 = .slice (some b) u.size u.size ∧ Aside0 (Lib.validD u.data.toList = ANS) ∧ Aside0 (Row w b u) ∧ u.size ≤ t3.size) (fun v0 _ => lenOf v0)
                  case atStart => exact ⟨hb2, b3, t3, rfl, v3, R3, Nat.le_refl _⟩
                  case round =>
                    obtain ⟨hbu, bu, u, rfl, vu, Ru, hut⟩ := hrel
                    clear hb2 v3 R3
                    by_cases c32 : 32 < u.size
                    · have c32z : (32 : Int) < (u.size : Int) := by omega
                      obtain ⟨p1, hp1, hr1⟩ := cutk bu u 8 8 rfl (by omega)
                      obtain ⟨p2, hp2, hr2⟩ := cutk bu u 16 16 rfl (by omega)
                      obtain ⟨p3, hp3, hr3⟩ := cutk bu u 24 24 rfl (by omega)
                      obtain ⟨p4, hp4, hr4⟩ := cutk bu u 32 32 rfl (by omega)
                      obtain ⟨u1, hu1⟩ : ∃ x, u.extract 8 u.size = x := ⟨_, rfl⟩
                      obtain ⟨u2, hu2⟩ : ∃ x, u.extract 16 u.size = x := ⟨_, rfl⟩
                      obtain ⟨u3, hu3⟩ : ∃ x, u.extract 24 u.size = x := ⟨_, rfl⟩
                      obtain ⟨u4, hu4⟩ : ∃ x, u.extract 32 u.size = x := ⟨_, rfl⟩
                      have y1 : u1.size + 8 = u.size := by rw [← hu1, Lib.ext_size]; omega
                      have y2 : u2.size + 16 = u.size := by rw [← hu2, Lib.ext_size]; omega
                      have y3 : u3.size + 24 = u.size := by rw [← hu3, Lib.ext_size]; omega
                      have y4 : u4.size + 32 = u.size := by rw [← hu4, Lib.ext_size]; omega
                      rw [hu1] at hp1 hr1
                      rw [hu2] at hp2 hr2
                      rw [hu3] at hp3 hr3
                      rw [hu4] at hp4 hr4
                      have k4 := Aside0.mk (four_words u u1 u2 u3 hu1 hu2 hu3 (by omega))
                      have w0 := words Ru.out
                      have w1 := words (hr1 w Ru.out)
                      have w2 := words (hr2 w Ru.out)
                      have w3 := words (hr3 w Ru.out)
                      have l0 := wd_lt u
                      have l1 := wd_lt u1
                      have l2 := wd_lt u2
                      have l3 := wd_lt u3
                      have Q0 := Aside0.mk (fun n => Calls.quiet_of (w0 (wr.drewN n) (below_drewNw hbu.out n) (by omega)))
                      have Q1 := Aside0.mk (fun n => Calls.quiet_of (w1 (wr.drewN n) (below_drewNw hbu.out n) (by omega)))
                      have Q2 := Aside0.mk (fun n => Calls.quiet_of (w2 (wr.drewN n) (below_drewNw hbu.out n) (by omega)))
                      have Q3 := Aside0.mk (fun n => Calls.quiet_of (w3 (wr.drewN n) (below_drewNw hbu.out n) (by omega)))
                      have R4 := Aside0.mk (hr4 w Ru.out)
                      clear w0 w1 w2 w3 hr1 hr2 hr3 hr4 hu1 hu2 hu3
                      generalize wd u = B0 at Q0 k4 l0
                      generalize wd u1 = B1 at Q1 k4 l1
                      generalize wd u2 = B2 at Q2 k4 l2
                      generalize wd u3 = B3 at Q3 k4 l3
                      have ho1 : bits .or .u64 (B0 : Int) (B1 : Int) = ((B0 ||| B1 : Nat) : Int) := u64_or_nat B0 B1 l0 l1
                      have ho2 : bits .or .u64 (B2 : Int) (B3 : Int) = ((B2 ||| B3 : Nat) : Int) := u64_or_nat B2 B3 l2 l3
                      have lo1 : B0 ||| B1 < 18446744073709551616 := Nat.or_lt_two_pow (n := 64) l0 l1
                      have lo2 : B2 ||| B3 < 18446744073709551616 := Nat.or_lt_two_pow (n := 64) l2 l3
                      obtain ⟨P1, hP1⟩ : ∃ P1, B0 ||| B1 = P1 := ⟨_, rfl⟩
                      obtain ⟨P2, hP2⟩ : ∃ P2, B2 ||| B3 = P2 := ⟨_, rfl⟩
                      rw [hP1] at ho1 lo1 k4
                      rw [hP2] at ho2 lo2 k4
                      have ho3 : bits .or .u64 (P1 : Int) (P2 : Int) = ((P1 ||| P2 : Nat) : Int) := u64_or_nat P1 P2 lo1 lo2
                      have lo3 : P1 ||| P2 < 18446744073709551616 := Nat.or_lt_two_pow (n := 64) lo1 lo2
                      obtain ⟨P3, hP3⟩ : ∃ P3, P1 ||| P2 = P3 := ⟨_, rfl⟩
                      rw [hP3] at ho3 lo3 k4
                      have hand3 : bits .and .u64 (P3 : Int) 9259542123273814144 = ((P3 &&& 9259542123273814144 : Nat) : Int) := u64_and_nat P3 9259542123273814144 lo3 (by omega)
                      obtain ⟨Z3, hZ3⟩ : ∃ Z3, P3 &&& 9259542123273814144 = Z3 := ⟨_, rfl⟩
                      rw [hZ3] at hand3 k4
                      clear l0 l1 l2 l3 lo1 lo2 lo3 hP1 hP2 hP3 hZ3
                      by_cases hz3 : Z3 = 0
                      · have hz3b : ((Z3 : Int) == 0) = true := by simp [hz3]
                        have v4 := Aside0.mk (show Lib.validD u4.data.toList = ANS by rw [← hu4, Lib.valid_skip u 32 (k4.out hz3)]; exact vu.out)
                        clear k4 hu4
                        go_wp2
                        go_quiet (first | (go_at_call 43; with_reducible exact Q0.out _) | (go_at_call 43; with_reducible exact Q1.out _) | (go_at_call 43; with_reducible exact Q2.out _) | (go_at_call 43; with_reducible exact Q3.out _))
                        clear Q0 Q1 Q2 Q3 ho1 ho2 ho3 hand3 hp1 hp2 hp3
                        go_wp2
                        go_roundw
                        case measure => simp [lenOf]; omega
                        case rel => exact ⟨⟨below_drewNw hbu.out nq⟩, p4, u4, rfl, v4, R4, by omega⟩
                      · have hz3b : ((Z3 : Int) == 0) = false := by simp; omega
                        clear k4 hu4
                        go_wp2
                        go_quiet (first | (go_at_call 43; with_reducible exact Q0.out _) | (go_at_call 43; with_reducible exact Q1.out _) | (go_at_call 43; with_reducible exact Q2.out _) | (go_at_call 43; with_reducible exact Q3.out _))
                        clear Q0 Q1 Q2 Q3 ho1 ho2 ho3 hand3 hp1 hp2 hp3
                        go_wp2
                        go_roundw
                        case measure => simp [lenOf]; omega
                        case rel => exact ⟨⟨below_drewNw hbu.out nq⟩, some bu, u, rfl, vu, ⟨fun _ => ⟨bu, rfl, Ru.out⟩⟩, by omega⟩
                    · have c32z : ¬ ((32 : Int) < (u.size : Int)) := by omega
                      have c32b : decide ((32 : Int) < (u.size : Int)) = false := decide_eq_false c32z
                      go_wp2
                      go_quiet (fail)
                      go_wp2
                      go_roundw
                      case measure => simp [lenOf]; omega
                      case rel => exact ⟨⟨below_drewNw hbu.out nq⟩, some bu, u, rfl, vu, ⟨fun _ => ⟨bu, rfl, Ru.out⟩⟩, by omega⟩
                · have hz2b : ((Z2 : Int) == 0) = false := by simp; omega
                  go_quiet (first | (go_at_call 43; with_reducible exact QA.out _) | (go_at_call 43; with_reducible exact QB.out _))
                  go_wp2
                  go_roundw
                  case measure => simp [lenOf]; omega
                  case rel => exact ⟨⟨below_drewNw hb1.out nq⟩, some b2, t2, rfl, v2, ⟨fun _ => ⟨b2, rfl, R2.out⟩⟩, by omega⟩
              · have c16z : ¬ ((16 : Int) < (t2.size : Int)) := by omega
                have c16b : decide ((16 : Int) < (t2.size : Int)) = false := decide_eq_false c16z
                go_quiet (fail)
                go_wp2
                go_roundw
                case measure => simp [lenOf]; omega
                case rel => exact ⟨⟨below_drewNw hb1.out nq⟩, some b2, t2, rfl, v2, ⟨fun _ => ⟨b2, rfl, R2.out⟩⟩, by omega⟩
            · have hz1b : ((Z1 : Int) == 0) = false := by simp; omega
              go_wp2_with (go_at_call 43; go_must (refine (W1.out _ hbw.out).mono ?_; rintro e W1 ⟨rfl, q1, rfl⟩))
              go_roundw
              case measure => simp [lenOf]; omega
              case rel => exact ⟨⟨below_drewNw hbw.out q1⟩, some b1, t1, rfl, v1, ⟨fun _ => ⟨b1, rfl, R1.out⟩⟩, by omega⟩
          · have c8z : ¬ ((8 : Int) < (t1.size : Int)) := by omega
            go_wp2
            go_roundw
            case measure => simp [lenOf]; omega
            case rel => exact ⟨hbw, some b1, t1, rfl, v1, ⟨fun _ => ⟨b1, rfl, R1.out⟩⟩, by omega⟩
      · have hge : 128 ≤ x0 := by omega
        have hascz : ¬ ((x0 : Int) < 128) := by omega
        have hne : t.data.toList ≠ [] := fun h => by rw [Lib.size_eq, h] at h0; simp at h0
        have hlead := Lib.validD_lead t.data.toList hne (by rw [Lib.getD_get!', HX0.out]; exact hge)
        rw [Lib.getD_get!', Lib.getD_get!', Lib.getD_get!', Lib.getD_get!', HX0.out, ← Lib.size_eq, hv.out] at hlead
        have l1 := (t.get! 1).toNat_lt
        have l2 := (t.get! 2).toNat_lt
        have l3 := (t.get! 3).toNat_lt
        obtain ⟨x1, hx1⟩ : ∃ x, (t.get! 1).toNat = x := ⟨_, rfl⟩
        obtain ⟨x2, hx2⟩ : ∃ x, (t.get! 2).toNat = x := ⟨_, rfl⟩
        obtain ⟨x3, hx3⟩ : ∃ x, (t.get! 3).toNat = x := ⟨_, rfl⟩
        rw [hx1, hx2, hx3] at hlead
        rw [hx1] at l1
        rw [hx2] at l2
        rw [hx3] at l3
        have hTr := Utf8Tabs_below HT.out hbw.out
        have hct := hTr.1 x0 hx0lt
        have hXlt : Lib.firstT x0 < 256 := by rcases Lib.firstT_cases x0 with h | h | h | h | h | h | h | h | h <;> omega
        obtain ⟨X, hX⟩ : ∃ X, Lib.firstT x0 = X := ⟨_, rfl⟩
        rw [hX] at hct hXlt hlead
        have h7 := and7 ⟨X, hXlt⟩
        simp only at h7
        have ha0 : wr.cell? ⟨1, X / 16 * 2, none⟩ = some (.int .u8 (Lib.accLo (X / 16))) := by rw [Nat.mul_comm]; exact (hTr.2 (X / 16) (by omega)).1
        have ha1 : wr.cell? ⟨1, X / 16 * 2 + 1, none⟩ = some (.int .u8 (Lib.accHi (X / 16))) := by rw [Nat.mul_comm]; exact (hTr.2 (X / 16) (by omega)).2
        obtain ⟨LO, hLO⟩ : ∃ LO, Lib.accLo (X / 16) = LO := ⟨_, rfl⟩
        obtain ⟨HI, hHI⟩ : ∃ HI, Lib.accHi (X / 16) = HI := ⟨_, rfl⟩
        rw [hLO] at ha0 hlead
        rw [hHI] at ha1 hlead
        obtain ⟨SZ, hSZ⟩ : ∃ SZ, X % 8 = SZ := ⟨_, rfl⟩
        rw [hSZ] at hlead
        have HLEAD := Aside0.mk hlead
        have z0 : (wr.alloc (.cells #[.int .u8 LO, .int .u8 HI] 68)).cell? ⟨wr.heap.size, 0, none⟩ = some (.int .u8 LO) := by
          unfold World.cell?
          rw [heap_alloc_new]
          rfl
        have z1 : (wr.alloc (.cells #[.int .u8 LO, .int .u8 HI] 68)).cell? ⟨wr.heap.size, 1, none⟩ = some (.int .u8 HI) := by
          unfold World.cell?
          rw [heap_alloc_new]
          rfl
        have RZ := hRw.out.below (below_alloc (Below.refl wr.heap.size wr) (.cells #[.int .u8 LO, .int .u8 HI] 68))
        have BZ := below_alloc hbw.out (.cells #[.int .u8 LO, .int .u8 HI] 68)
        obtain ⟨wz, hwz⟩ : ∃ wz, wr.alloc (.cells #[.int .u8 LO, .int .u8 HI] 68) = wz := ⟨_, rfl⟩
        rw [hwz] at z0 z1 RZ BZ
        have q1 := Aside0.mk (fun (h : 1 < t.size) => hx1 ▸ RZ 1 h)
        have q2 := Aside0.mk (fun (h : 2 < t.size) => hx2 ▸ RZ 2 h)
        have q3 := Aside0.mk (fun (h : 3 < t.size) => hx3 ▸ RZ 3 h)
        have HBZ := Aside0.mk BZ
        have HWZ := Aside0.mk hwz
        have Z0 := Aside0.mk z0
        have Z1 := Aside0.mk z1
        clear hTr HT hX hv hLO hHI hne HX0 hlead hRw RZ BZ hwz z0 z1 hx1 hx2 hx3
        by_cases s2 : SZ = 2
        · as_aux_lemma =>
            subst s2
            have hSZz : (X : Int) % 8 = 2 := by omega
            have hlead := HLEAD.out
            simp only [Lib.checkN, Nat.reduceEqDiff, if_true, if_false] at hlead
            have HLEAD2 := Aside0.mk hlead
            clear hlead HLEAD
            go_upto_region 18 with (fail)
            rw [HWZ.out]
            clear HWZ
            go_cut [103] from 85 to 103 (fun c wx => c = .bool (decide (t.size < 2 ∨ x1 < LO ∨ HI < x1)) ∧ Aside0 (Below w.heap.size w wx))
            case first =>
              have z0 := Z0.out
              have z1 := Z1.out
              by_cases q0 : t.size < 2
              · have q0z : (t.size : Int) < 2 := by omega
                go_quiet (fail)
                go_wp2
                go_meet
                exact ⟨congrArg Value.bool (decide_eq_true (p := t.size < 2 ∨ x1 < LO ∨ HI < x1) (by omega)).symm, ⟨by first | exact HBZ.out | exact below_drewNw HBZ.out _ | exact pw_below_drewN (below_drew1 HBZ.out) _ | exact below_drew1 HBZ.out⟩⟩
              · have q0z : ¬ ((t.size : Int) < 2) := by omega
                have hz1 : (1 : Int) < (t.size : Int) := by omega
                have hp1 : 1 < t.size := by omega
                have hq1 : wz.cell? ⟨b.block, b.off + 1, none⟩ = some (.int .u8 (x1 : Int)) := q1.out hp1
                by_cases d0 : x1 < LO
                · have d0z : (x1 : Int) < (LO : Int) := by omega
                  go_quiet (fail)
                  go_wp2
                  go_meet
                  exact ⟨congrArg Value.bool (decide_eq_true (p := t.size < 2 ∨ x1 < LO ∨ HI < x1) (by omega)).symm, ⟨by first | exact HBZ.out | exact below_drewNw HBZ.out _ | exact pw_below_drewN (below_drew1 HBZ.out) _ | exact below_drew1 HBZ.out⟩⟩
                · have d0z : ¬ ((x1 : Int) < (LO : Int)) := by omega
                  by_cases d1 : HI < x1
                  · have d1z : (HI : Int) < (x1 : Int) := by omega
                    go_quiet (fail)
                    go_wp2
                    go_meet
                    exact ⟨congrArg Value.bool (decide_eq_true (p := t.size < 2 ∨ x1 < LO ∨ HI < x1) (by omega)).symm, ⟨by first | exact HBZ.out | exact below_drewNw HBZ.out _ | exact pw_below_drewN (below_drew1 HBZ.out) _ | exact below_drew1 HBZ.out⟩⟩
                  · have d1z : ¬ ((HI : Int) < (x1 : Int)) := by omega
                    go_quiet (fail)
                    go_wp2
                    go_meet
                    exact ⟨congrArg Value.bool (decide_eq_false (p := t.size < 2 ∨ x1 < LO ∨ HI < x1) (by omega)).symm, ⟨by first | exact HBZ.out | exact below_drewNw HBZ.out _ | exact pw_below_drewN (below_drew1 HBZ.out) _ | exact below_drew1 HBZ.out⟩⟩
            case rest =>
              obtain ⟨rfl, hbc⟩ := hcut
              have hlead := HLEAD2.out
              by_cases hb : t.size < 2 ∨ x1 < LO ∨ HI < x1
              · have hbd : decide (t.size < 2 ∨ x1 < LO ∨ HI < x1) = true := decide_eq_true hb
                rw [if_pos hb] at hlead
                go_wp2
                all_goals (go_ret; exact ⟨by first | rfl | rw [hlead], hbc.out⟩)
              · have hbd : decide (t.size < 2 ∨ x1 < LO ∨ HI < x1) = false := decide_eq_false hb
                rw [if_neg hb] at hlead
                obtain ⟨b2, hcut2, hrow2⟩ := cutk b t 2 2 rfl (by omega)
                have R2 := Aside0.mk (hrow2 w HR.out)
                have E2 := Aside0.mk (show Lib.validD (t.extract 2 t.size).data.toList = ANS by rw [Lib.ext_list, hlead])
                have S2 : (t.extract 2 t.size).size + 2 = t.size := by rw [Lib.ext_size]; omega
                generalize t.extract 2 t.size = t2 at hcut2 R2 E2 S2
                clear hlead HLEAD2 hrow2
                go_wp2
                go_roundw
                case measure => simp [lenOf]; omega
                case rel => exact ⟨hbc, some b2, t2, rfl, E2, ⟨fun _ => ⟨b2, rfl, R2.out⟩⟩, by omega⟩
        by_cases s3 : SZ = 3
        · as_aux_lemma =>
            subst s3
            have hSZz : (X : Int) % 8 = 3 := by omega
            have hlead := HLEAD.out
            simp only [Lib.checkN, Nat.reduceEqDiff, if_true, if_false] at hlead
            have HLEAD2 := Aside0.mk hlead
            clear hlead HLEAD
            go_upto_region 22 with (fail)
            rw [HWZ.out]
            clear HWZ
            go_cut [138] from 108 to 138 (fun c wx => c = .bool (decide (t.size < 3 ∨ x1 < LO ∨ HI < x1 ∨ x2 < 128 ∨ 191 < x2)) ∧ Aside0 (Below w.heap.size w wx))
            case first =>
              have z0 := Z0.out
              have z1 := Z1.out
              by_cases q0 : t.size < 3
              · have q0z : (t.size : Int) < 3 := by omega
                go_quiet (fail)
                go_wp2
                go_meet
                exact ⟨congrArg Value.bool (decide_eq_true (p := t.size < 3 ∨ x1 < LO ∨ HI < x1 ∨ x2 < 128 ∨ 191 < x2) (by omega)).symm, ⟨by first | exact HBZ.out | exact below_drewNw HBZ.out _ | exact pw_below_drewN (below_drew1 HBZ.out) _ | exact below_drew1 HBZ.out⟩⟩
              · have q0z : ¬ ((t.size : Int) < 3) := by omega
                have hz1 : (1 : Int) < (t.size : Int) := by omega
                have hp1 : 1 < t.size := by omega
                have hq1 : wz.cell? ⟨b.block, b.off + 1, none⟩ = some (.int .u8 (x1 : Int)) := q1.out hp1
                have hz2 : (2 : Int) < (t.size : Int) := by omega
                have hp2 : 2 < t.size := by omega
                have hq2 : wz.cell? ⟨b.block, b.off + 2, none⟩ = some (.int .u8 (x2 : Int)) := q2.out hp2
                by_cases d0 : x1 < LO
                · have d0z : (x1 : Int) < (LO : Int) := by omega
                  go_quiet (fail)
                  go_wp2
                  go_meet
                  exact ⟨congrArg Value.bool (decide_eq_true (p := t.size < 3 ∨ x1 < LO ∨ HI < x1 ∨ x2 < 128 ∨ 191 < x2) (by omega)).symm, ⟨by first | exact HBZ.out | exact below_drewNw HBZ.out _ | exact pw_below_drewN (below_drew1 HBZ.out) _ | exact below_drew1 HBZ.out⟩⟩
                · have d0z : ¬ ((x1 : Int) < (LO : Int)) := by omega
                  by_cases d1 : HI < x1
                  · have d1z : (HI : Int) < (x1 : Int) := by omega
                    go_quiet (fail)
                    go_wp2
                    go_meet
                    exact ⟨congrArg Value.bool (decide_eq_true (p := t.size < 3 ∨ x1 < LO ∨ HI < x1 ∨ x2 < 128 ∨ 191 < x2) (by omega)).symm, ⟨by first | exact HBZ.out | exact below_drewNw HBZ.out _ | exact pw_below_drewN (below_drew1 HBZ.out) _ | exact below_drew1 HBZ.out⟩⟩
                  · have d1z : ¬ ((HI : Int) < (x1 : Int)) := by omega
                    by_cases d2 : x2 < 128
                    · have d2z : (x2 : Int) < 128 := by omega
                      go_quiet (fail)
                      go_wp2
                      go_meet
                      exact ⟨congrArg Value.bool (decide_eq_true (p := t.size < 3 ∨ x1 < LO ∨ HI < x1 ∨ x2 < 128 ∨ 191 < x2) (by omega)).symm, ⟨by first | exact HBZ.out | exact below_drewNw HBZ.out _ | exact pw_below_drewN (below_drew1 HBZ.out) _ | exact below_drew1 HBZ.out⟩⟩
                    · have d2z : ¬ ((x2 : Int) < 128) := by omega
                      by_cases d3 : 191 < x2
                      · have d3z : (191 : Int) < (x2 : Int) := by omega
                        go_quiet (fail)
                        go_wp2
                        go_meet
                        exact ⟨congrArg Value.bool (decide_eq_true (p := t.size < 3 ∨ x1 < LO ∨ HI < x1 ∨ x2 < 128 ∨ 191 < x2) (by omega)).symm, ⟨by first | exact HBZ.out | exact below_drewNw HBZ.out _ | exact pw_below_drewN (below_drew1 HBZ.out) _ | exact below_drew1 HBZ.out⟩⟩
                      · have d3z : ¬ ((191 : Int) < (x2 : Int)) := by omega
                        go_quiet (fail)
                        go_wp2
                        go_meet
                        exact ⟨congrArg Value.bool (decide_eq_false (p := t.size < 3 ∨ x1 < LO ∨ HI < x1 ∨ x2 < 128 ∨ 191 < x2) (by omega)).symm, ⟨by first | exact HBZ.out | exact below_drewNw HBZ.out _ | exact pw_below_drewN (below_drew1 HBZ.out) _ | exact below_drew1 HBZ.out⟩⟩
            case rest =>
              obtain ⟨rfl, hbc⟩ := hcut
              have hlead := HLEAD2.out
              by_cases hb : t.size < 3 ∨ x1 < LO ∨ HI < x1 ∨ x2 < 128 ∨ 191 < x2
              · have hbd : decide (t.size < 3 ∨ x1 < LO ∨ HI < x1 ∨ x2 < 128 ∨ 191 < x2) = true := decide_eq_true hb
                rw [if_pos hb] at hlead
                go_wp2
                all_goals (go_ret; exact ⟨by first | rfl | rw [hlead], hbc.out⟩)
              · have hbd : decide (t.size < 3 ∨ x1 < LO ∨ HI < x1 ∨ x2 < 128 ∨ 191 < x2) = false := decide_eq_false hb
                rw [if_neg hb] at hlead
                obtain ⟨b2, hcut2, hrow2⟩ := cutk b t 3 3 rfl (by omega)
                have R2 := Aside0.mk (hrow2 w HR.out)
                have E2 := Aside0.mk (show Lib.validD (t.extract 3 t.size).data.toList = ANS by rw [Lib.ext_list, hlead])
                have S2 : (t.extract 3 t.size).size + 3 = t.size := by rw [Lib.ext_size]; omega
                generalize t.extract 3 t.size = t2 at hcut2 R2 E2 S2
                clear hlead HLEAD2 hrow2
                go_wp2
                go_roundw
                case measure => simp [lenOf]; omega
                case rel => exact ⟨hbc, some b2, t2, rfl, E2, ⟨fun _ => ⟨b2, rfl, R2.out⟩⟩, by omega⟩
        by_cases s4 : SZ = 4
        · as_aux_lemma =>
            subst s4
            have hSZz : (X : Int) % 8 = 4 := by omega
            have hlead := HLEAD.out
            simp only [Lib.checkN, Nat.reduceEqDiff, if_true, if_false] at hlead
            have HLEAD2 := Aside0.mk hlead
            clear hlead HLEAD
            go_upto_region 26 with (fail)
            rw [HWZ.out]
            clear HWZ
            go_cut [185] from 143 to 185 (fun c wx => c = .bool (decide (t.size < 4 ∨ x1 < LO ∨ HI < x1 ∨ x2 < 128 ∨ 191 < x2 ∨ x3 < 128 ∨ 191 < x3)) ∧ Aside0 (Below w.heap.size w wx))
            case first =>
              have z0 := Z0.out
              have z1 := Z1.out
              by_cases q0 : t.size < 4
              · have q0z : (t.size : Int) < 4 := by omega
                go_quiet (fail)
                go_wp2
                go_meet
                exact ⟨congrArg Value.bool (decide_eq_true (p := t.size < 4 ∨ x1 < LO ∨ HI < x1 ∨ x2 < 128 ∨ 191 < x2 ∨ x3 < 128 ∨ 191 < x3) (by omega)).symm, ⟨by first | exact HBZ.out | exact below_drewNw HBZ.out _ | exact pw_below_drewN (below_drew1 HBZ.out) _ | exact below_drew1 HBZ.out⟩⟩
              · have q0z : ¬ ((t.size : Int) < 4) := by omega
                have hz1 : (1 : Int) < (t.size : Int) := by omega
                have hp1 : 1 < t.size := by omega
                have hq1 : wz.cell? ⟨b.block, b.off + 1, none⟩ = some (.int .u8 (x1 : Int)) := q1.out hp1
                have hz2 : (2 : Int) < (t.size : Int) := by omega
                have hp2 : 2 < t.size := by omega
                have hq2 : wz.cell? ⟨b.block, b.off + 2, none⟩ = some (.int .u8 (x2 : Int)) := q2.out hp2
                have hz3 : (3 : Int) < (t.size : Int) := by omega
                have hp3 : 3 < t.size := by omega
                have hq3 : wz.cell? ⟨b.block, b.off + 3, none⟩ = some (.int .u8 (x3 : Int)) := q3.out hp3
                by_cases d0 : x1 < LO
                · have d0z : (x1 : Int) < (LO : Int) := by omega
                  go_quiet (fail)
                  go_wp2
                  go_meet
                  exact ⟨congrArg Value.bool (decide_eq_true (p := t.size < 4 ∨ x1 < LO ∨ HI < x1 ∨ x2 < 128 ∨ 191 < x2 ∨ x3 < 128 ∨ 191 < x3) (by omega)).symm, ⟨by first | exact HBZ.out | exact below_drewNw HBZ.out _ | exact pw_below_drewN (below_drew1 HBZ.out) _ | exact below_drew1 HBZ.out⟩⟩
                · have d0z : ¬ ((x1 : Int) < (LO : Int)) := by omega
                  by_cases d1 : HI < x1
                  · have d1z : (HI : Int) < (x1 : Int) := by omega
                    go_quiet (fail)
                    go_wp2
                    go_meet
                    exact ⟨congrArg Value.bool (decide_eq_true (p := t.size < 4 ∨ x1 < LO ∨ HI < x1 ∨ x2 < 128 ∨ 191 < x2 ∨ x3 < 128 ∨ 191 < x3) (by omega)).symm, ⟨by first | exact HBZ.out | exact below_drewNw HBZ.out _ | exact pw_below_drewN (below_drew1 HBZ.out) _ | exact below_drew1 HBZ.out⟩⟩
                  · have d1z : ¬ ((HI : Int) < (x1 : Int)) := by omega
                    by_cases d2 : x2 < 128
                    · have d2z : (x2 : Int) < 128 := by omega
                      go_quiet (fail)
                      go_wp2
                      go_meet
                      exact ⟨congrArg Value.bool (decide_eq_true (p := t.size < 4 ∨ x1 < LO ∨ HI < x1 ∨ x2 < 128 ∨ 191 < x2 ∨ x3 < 128 ∨ 191 < x3) (by omega)).symm, ⟨by first | exact HBZ.out | exact below_drewNw HBZ.out _ | exact pw_below_drewN (below_drew1 HBZ.out) _ | exact below_drew1 HBZ.out⟩⟩
                    · have d2z : ¬ ((x2 : Int) < 128) := by omega
                      by_cases d3 : 191 < x2
                      · have d3z : (191 : Int) < (x2 : Int) := by omega
                        go_quiet (fail)
                        go_wp2
                        go_meet
                        exact ⟨congrArg Value.bool (decide_eq_true (p := t.size < 4 ∨ x1 < LO ∨ HI < x1 ∨ x2 < 128 ∨ 191 < x2 ∨ x3 < 128 ∨ 191 < x3) (by omega)).symm, ⟨by first | exact HBZ.out | exact below_drewNw HBZ.out _ | exact pw_below_drewN (below_drew1 HBZ.out) _ | exact below_drew1 HBZ.out⟩⟩
                      · have d3z : ¬ ((191 : Int) < (x2 : Int)) := by omega
                        by_cases d4 : x3 < 128
                        · have d4z : (x3 : Int) < 128 := by omega
                          go_quiet (fail)
                          go_wp2
                          go_meet
                          exact ⟨congrArg Value.bool (decide_eq_true (p := t.size < 4 ∨ x1 < LO ∨ HI < x1 ∨ x2 < 128 ∨ 191 < x2 ∨ x3 < 128 ∨ 191 < x3) (by omega)).symm, ⟨by first | exact HBZ.out | exact below_drewNw HBZ.out _ | exact pw_below_drewN (below_drew1 HBZ.out) _ | exact below_drew1 HBZ.out⟩⟩
                        · have d4z : ¬ ((x3 : Int) < 128) := by omega
                          by_cases d5 : 191 < x3
                          · have d5z : (191 : Int) < (x3 : Int) := by omega
                            go_quiet (fail)
                            go_wp2
                            go_meet
                            exact ⟨congrArg Value.bool (decide_eq_true (p := t.size < 4 ∨ x1 < LO ∨ HI < x1 ∨ x2 < 128 ∨ 191 < x2 ∨ x3 < 128 ∨ 191 < x3) (by omega)).symm, ⟨by first | exact HBZ.out | exact below_drewNw HBZ.out _ | exact pw_below_drewN (below_drew1 HBZ.out) _ | exact below_drew1 HBZ.out⟩⟩
                          · have d5z : ¬ ((191 : Int) < (x3 : Int)) := by omega
                            go_quiet (fail)
                            go_wp2
                            go_meet
                            exact ⟨congrArg Value.bool (decide_eq_false (p := t.size < 4 ∨ x1 < LO ∨ HI < x1 ∨ x2 < 128 ∨ 191 < x2 ∨ x3 < 128 ∨ 191 < x3) (by omega)).symm, ⟨by first | exact HBZ.out | exact below_drewNw HBZ.out _ | exact pw_below_drewN (below_drew1 HBZ.out) _ | exact below_drew1 HBZ.out⟩⟩
            case rest =>
              obtain ⟨rfl, hbc⟩ := hcut
              have hlead := HLEAD2.out
              by_cases hb : t.size < 4 ∨ x1 < LO ∨ HI < x1 ∨ x2 < 128 ∨ 191 < x2 ∨ x3 < 128 ∨ 191 < x3
              · have hbd : decide (t.size < 4 ∨ x1 < LO ∨ HI < x1 ∨ x2 < 128 ∨ 191 < x2 ∨ x3 < 128 ∨ 191 < x3) = true := decide_eq_true hb
                rw [if_pos hb] at hlead
                go_wp2
                all_goals (go_ret; exact ⟨by first | rfl | rw [hlead], hbc.out⟩)
              · have hbd : decide (t.size < 4 ∨ x1 < LO ∨ HI < x1 ∨ x2 < 128 ∨ 191 < x2 ∨ x3 < 128 ∨ 191 < x3) = false := decide_eq_false hb
                rw [if_neg hb] at hlead
                obtain ⟨b2, hcut2, hrow2⟩ := cutk b t 4 4 rfl (by omega)
                have R2 := Aside0.mk (hrow2 w HR.out)
                have E2 := Aside0.mk (show Lib.validD (t.extract 4 t.size).data.toList = ANS by rw [Lib.ext_list, hlead])
                have S2 : (t.extract 4 t.size).size + 4 = t.size := by rw [Lib.ext_size]; omega
                generalize t.extract 4 t.size = t2 at hcut2 R2 E2 S2
                clear hlead HLEAD2 hrow2
                go_wp2
                go_roundw
                case measure => simp [lenOf]; omega
                case rel => exact ⟨hbc, some b2, t2, rfl, E2, ⟨fun _ => ⟨b2, rfl, R2.out⟩⟩, by omega⟩
        have e2 : ¬ ((X : Int) % 8 = 2) := by omega
        have e3 : ¬ ((X : Int) % 8 = 3) := by omega
        have e4 : ¬ ((X : Int) % 8 = 4) := by omega
        have e2b : (((X : Int) % 8) == 2) = false := by simp; omega
        have e3b : (((X : Int) % 8) == 3) = false := by simp; omega
        have e4b : (((X : Int) % 8) == 4) = false := by simp; omega
        have hlead := HLEAD.out
        simp only [Lib.checkN, s2, s3, s4, if_false] at hlead
        go_wp2
        all_goals (go_ret; exact ⟨by first | rfl | rw [hlead], below_alloc hbw.out _⟩)
    · have h0z : ¬ ((0 : Int) < (t.size : Int)) := by omega
      have ht0 : t.data.toList = [] := List.eq_nil_of_length_eq_zero (by rw [← Lib.size_eq]; omega)
      have hv2 := hv.out
      rw [ht0, Lib.validD_nil] at hv2
      subst hv2
      go_wp2
      go_ret
      exact ⟨rfl, hbw.out⟩
end Va
end Go.Proofs.YtgpghjmoapffcaaDoor
