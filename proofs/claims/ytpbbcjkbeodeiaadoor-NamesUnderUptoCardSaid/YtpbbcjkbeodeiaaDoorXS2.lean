-- printed by wip/xprint.py (a scratch copy of the kit's print, with contracts by hand)
import Derived.Test.YtpbbcjkbeodeiaaDoorXS0
import Derived.Test.YtpbbcjkbeodeiaaDoorXS1
namespace Go.Proofs.YtpbbcjkbeodeiaaDoor.XS
open Go.RowKit Go.Proofs.YtpbbcjkbeodeiaaDoorW.PrintWords Go.Proofs.YtpbbcjkbeodeiaaDoorW.PrintLast Go.Proofs.YtpbbcjkbeodeiaaDoorW.PrintMore
attribute [local go_sem] max2_int min2_int max_two min_two max_three min_three max_four min_four   -- for this text's walks alone
set_option linter.unusedVariables false
set_option linter.unusedSimpArgs false

/-! ### names_Same: function 16 (by hand) -/
theorem slices_Equal_int_int.l0_tells (a b : List Int) (hab : a.length = b.length) (hn : a.length ≤ 9223372036854775807) (d : Nat) : ∀ (k : Nat) (i : Nat), a.length - i = d → i ≤ a.length → d < k →
    slices_Equal_int_int.l0 k a b (a.length : Int) (i : Int) = some (decide (a.drop i = b.drop i)) := by
  induction d with
  | zero =>
    intro k i hd hi hk
    obtain ⟨k, rfl⟩ : ∃ m, k = m + 1 := ⟨k - 1, by omega⟩
    have : i = a.length := by omega
    subst this
    simp only [slices_Equal_int_int.l0]
    rw [if_neg (by omega), List.drop_length, hab, List.drop_length]
    rfl
  | succ d ih =>
    intro k i hd hi hk
    obtain ⟨k, rfl⟩ : ∃ m, k = m + 1 := ⟨k - 1, by omega⟩
    have hlt : i < a.length := by omega
    simp only [slices_Equal_int_int.l0]
    rw [if_pos (by omega), if_pos (by omega), if_pos (by omega), if_pos (by omega)]
    have e1 : rd a (i : Int) = a[i] := by unfold rd; rw [Int.toNat_natCast, getD_eq _ _ _ hlt]
    have e2 : rd b (i : Int) = b[i]'(by omega) := by unfold rd; rw [Int.toNat_natCast, getD_eq _ _ _ (by omega)]
    have e3 : a.drop i = a[i] :: a.drop (i + 1) := List.drop_eq_getElem_cons hlt
    have e4 : b.drop i = b[i]'(by omega) :: b.drop (i + 1) := List.drop_eq_getElem_cons (by omega)
    rw [e1, e2]
    by_cases h : a[i] = b[i]'(by omega)
    · rw [if_pos h, wrap64_succ (by omega) (by omega) hn, show (i : Int) + 1 = ((i + 1 : Nat) : Int) by omega, ih k (i + 1) (by omega) (by omega) (by omega)]
      congr 1
      rw [decide_eq_decide, e3, e4, h, List.cons.injEq]
      exact ⟨fun q => ⟨rfl, q⟩, fun q => q.2⟩
    · rw [if_neg h]
      congr 1
      symm
      rw [decide_eq_false_iff_not, e3, e4, List.cons.injEq]
      exact fun q => h q.1
theorem slices_Equal_int_int.tells (a b : List Int) (hn : a.length ≤ 9223372036854775807) : slices_Equal_int_int.f (a.length + 1) a b = some (decide (a = b)) := by
  unfold slices_Equal_int_int.f
  by_cases h : a.length = b.length
  · rw [if_pos (by omega)]
    have := slices_Equal_int_int.l0_tells a b h hn a.length (a.length + 1) 0 (by omega) (by omega) (by omega)
    simpa using this
  · rw [if_neg (by omega)]
    have : a ≠ b := fun e => h (by rw [e])
    simp [this]
/-- Two parts of names are the same. -/
def attrEq (x y : S42) : Bool := decide (x.f0 = y.f0) && decide (Tx.prep x.f1.data.toList = Tx.prep y.f1.data.toList)
def smallA (x : S42) : Bool := decide (x.f1.size ≤ 8796093022208)
theorem names_Same_1.tells (x y : S42) (hn : x.f0.length ≤ 9223372036854775807) (hx : smallA x = true) (hy : smallA y = true) : names_Same_1.f (x.f0.length + 1) x.f0 x.f1 y.f0 y.f1 = some (attrEq x y) := by
  unfold smallA at hx hy
  unfold names_Same_1.f attrEq texts_Prep.f
  rw [slices_Equal_int_int.tells _ _ hn, if_pos (of_decide_eq_true hx), if_pos (of_decide_eq_true hy)]
  simp only [Option.bind_some]
  by_cases h : x.f0 = y.f0
  · rw [decide_eq_true h]
    simp only [if_true, Bool.true_and]
    congr 1
    rw [Bool.eq_iff_iff]
    simp only [beq_iff_eq, decide_eq_true_eq, ByteArray.toList_eq]
  · rw [decide_eq_false h]
    rfl
/-- Two names are the same. -/
def sameN : List S42 → List S42 → Bool
  | [], [] => true
  | x :: a, y :: b => attrEq x y && sameN a b
  | _, _ => false
theorem sameN_length : ∀ (a b : List S42), sameN a b = true → a.length = b.length
  | [], [], _ => rfl
  | x :: a, y :: b, h => by
    simp only [sameN, Bool.and_eq_true] at h
    simp [sameN_length a b h.2]
  | [], _ :: _, h => by simp [sameN] at h
  | _ :: _, [], h => by simp [sameN] at h
theorem sameN_drop (a b : List S42) (i : Nat) (ha : i < a.length) (hb : i < b.length) : sameN (a.drop i) (b.drop i) = (attrEq a[i] b[i] && sameN (a.drop (i + 1)) (b.drop (i + 1))) := by
  rw [List.drop_eq_getElem_cons ha, List.drop_eq_getElem_cons hb]
  rfl
def smallN (l : List S42) : Bool := l.all smallA
def names_Same.f (l0 l1 : List S42) : Option Bool := if smallN l0 = true ∧ smallN l1 = true then some (sameN l0 l1) else none
set_option maxHeartbeats 4000000 in
set_option maxRecDepth 100000 in
theorem names_Same.equal (A0 : Option Addr) (c0 : Nat) (l0 : List S42) (A1 : Option Addr) (c1 : Nat) (l1 : List S42) (w : World) (hr0 : Kd.C k42 w A0 l0.length l0) (hr1 : Kd.C k42 w A1 l1.length l1) (hs0 : smallN l0 = true) (hs1 : smallN l1 = true) (hlen : l0.length = l1.length) :
    Calls Tryd.prog 39 #[.slice A0 l0.length c0, .slice A1 l1.length c1, .func (.func 40) #[] #[]] w fun e w' => e = .returned (.bool (sameN l0 l1)) ∧ Below w.heap.size w w' := by
  have hn : l0.length ≤ 9223372036854775807 := hr0.2.1
  have hu := Tryd.underlying42
  have HR0 := Aside0.mk hr0
  have HR1 := Aside0.mk hr1
  have HS0 := Aside0.mk hs0
  have HS1 := Aside0.mk hs1
  have hneq : ((l0.length : Int) != (l1.length : Int)) = false := by rw [hlen]; simp
  have HLEN := Aside0.mk hlen
  clear hr0 hr1 hs0 hs1 hlen
  go_enter Tryd.func39, Tryd.ntmps39
  go_wp2
  go_loopw [7, 8, 9, 17] (fun _ _ _ v17 wr => ∃ k : Nat, k ≤ l0.length ∧ v17 = .int .i64 k ∧ Aside0 (sameN (l0.drop k) (l1.drop k) = sameN l0 l1) ∧ Aside0 (Below w.heap.size w wr)) (fun _ _ _ v17 _ => l0.length - (intOf v17).toNat)
  case atStart => exact ⟨0, Nat.zero_le _, rfl, ⟨rfl⟩, ⟨Below.refl _ _⟩⟩
  case round =>
    obtain ⟨k, hk, rfl, HA, HB⟩ := hrel
    have hlen := HLEN.out
    by_cases hlt : k < l0.length
    · have hltz : (k : Int) < (l0.length : Int) := by omega
      have hltz1 : (k : Int) < (l1.length : Int) := by omega
      have hlt1 : k < l1.length := by omega
      obtain ⟨ad, B0, d0, e0, hx0, hx1, hl0, hi0⟩ := at_T42 HR0.out (k : Int) (by omega) (by omega)
      obtain ⟨ae, B1, d1, e1, hy0, hy1, hl1, hi1⟩ := at_T42 HR1.out (k : Int) (by omega) (by omega)
      cases e0
      cases e1
      replace hx0 := (HB.out.cell (World.block_lt_of_cell? w _ hx0)).trans hx0
      replace hx1 := (HB.out.cell (World.block_lt_of_cell? w _ hx1)).trans hx1
      replace hy0 := (HB.out.cell (World.block_lt_of_cell? w _ hy0)).trans hy0
      replace hy1 := (HB.out.cell (World.block_lt_of_cell? w _ hy1)).trans hy1
      simp only [Int.toNat_natCast] at hx0 hx1 hy0 hy1
      have en0 : rd_T42 l0 (k : Int) = l0[k] := by unfold rd_T42; rw [Int.toNat_natCast]; exact getD_eq _ _ _ hlt
      have en1 : rd_T42 l1 (k : Int) = l1[k] := by unfold rd_T42; rw [Int.toNat_natCast]; exact getD_eq _ _ _ hlt1
      have hstep := sameN_drop l0 l1 k hlt hlt1
      have sm0 : smallA l0[k] = true := List.all_eq_true.1 HS0.out _ (List.getElem_mem _)
      have sm1 : smallA l1[k] = true := List.all_eq_true.1 HS1.out _ (List.getElem_mem _)
      rw [← en0, ← en1] at hstep
      rw [← en0] at sm0
      rw [← en1] at sm1
      have HI0 := Aside0.mk (Kd.C_below hi0 HB.out)
      have HI1 := Aside0.mk (Kd.C_below hi1 HB.out)
      have HL0 := Aside0.mk hl0
      have HL1 := Aside0.mk hl1
      clear en0 en1 hi0 hi1 hl0 hl1 hlen
      generalize rd_T42 l0 (k : Int) = x at *
      generalize rd_T42 l1 (k : Int) = y at *
      have HT := Aside0.mk (names_Same_1.tells x y HI0.out.2.1 sm0 sm1)
      have HA2 := Aside0.mk (show (attrEq x y && sameN (l0.drop (k + 1)) (l1.drop (k + 1))) = sameN l0 l1 by rw [← hstep]; exact HA.out)
      have hby : (ae.add (k * 2)).block < wr.heap.size := World.block_lt_of_cell? wr _ hy0
      have hne : (ae.add (k * 2)).block ≠ wr.heap.size := by omega
      clear hstep sm0 sm1 HA
      go_wp2_with fail
      refine (names_Same_1.calls (x.f0.length + 1) B0 d0 x.f0 x.f1 B1 d1 y.f0 y.f1 (attrEq x y) _ ?s1 ?s2 ?s3 ?s4 HT.out).mono ?_
      case s1 => exact Kd.C_alloc (Kd.C_alloc HI0.out _) _
      case s2 => exact HL0.out
      case s3 => exact Kd.C_alloc (Kd.C_alloc HI1.out _) _
      case s4 => exact HL1.out
      rintro e w1 ⟨rfl, hb1⟩
      have hb2 := Aside0.mk (below_then ((HB.out.alloc HB.out.size (.cells #[.slice B0 x.f0.length d0, .string x.f1] 42)).alloc (by have := HB.out.size; simp; omega) (.cells #[.slice B1 y.f0.length d1, .string y.f1] 42)) (by have := HB.out.size; simp; omega) hb1)
      clear hb1
      have ha := HA2.out
      clear HT HA2
      cases hq : attrEq x y with
      | true =>
        rw [hq, Bool.true_and] at ha
        have HA := Aside0.mk ha
        clear ha hq
        go_wp2
        go_roundw
        case rel => exact ⟨k + 1, by omega, by go_num, HA, hb2⟩
        case measure => simp [intOf]; omega
      | false =>
        rw [hq, Bool.false_and] at ha
        have HA := Aside0.mk ha
        clear ha hq
        go_wp2
        go_ret
        exact ⟨congrArg (fun b => Ending.returned (.bool b)) HA.out, hb2.out⟩
    · have hltz : ¬ (k : Int) < (l0.length : Int) := by omega
      have : k = l0.length := by omega
      subst this
      have ha := HA.out
      rw [List.drop_length, hlen, List.drop_length] at ha
      have HA := Aside0.mk (show true = sameN l0 l1 from ha)
      clear ha hlen
      go_wp2
      go_ret
      exact ⟨congrArg (fun b => Ending.returned (.bool b)) HA.out, HB.out⟩
set_option maxHeartbeats 4000000 in
set_option maxRecDepth 100000 in
theorem names_Same.equal_no (A0 : Option Addr) (c0 : Nat) (l0 : List S42) (A1 : Option Addr) (c1 : Nat) (l1 : List S42) (w : World) (hlen : ¬ l0.length = l1.length) :
    Calls Tryd.prog 39 #[.slice A0 l0.length c0, .slice A1 l1.length c1, .func (.func 40) #[] #[]] w fun e w' => e = .returned (.bool false) ∧ Below w.heap.size w w' := by
  have hneq : ((l0.length : Int) != (l1.length : Int)) = true := bne_iff_ne.2 (by omega)
  clear hlen
  go_enter Tryd.func39, Tryd.ntmps39
  go_wp2
  go_ret
  exact ⟨rfl, Below.refl _ _⟩
theorem names_Same.equal_any (A0 : Option Addr) (c0 : Nat) (l0 : List S42) (A1 : Option Addr) (c1 : Nat) (l1 : List S42) (w : World) (hr0 : Kd.C k42 w A0 l0.length l0) (hr1 : Kd.C k42 w A1 l1.length l1) (hs0 : smallN l0 = true) (hs1 : smallN l1 = true) :
    Calls Tryd.prog 39 #[.slice A0 l0.length c0, .slice A1 l1.length c1, .func (.func 40) #[] #[]] w fun e w' => e = .returned (.bool (sameN l0 l1)) ∧ Below w.heap.size w w' := by
  by_cases h : l0.length = l1.length
  · exact names_Same.equal A0 c0 l0 A1 c1 l1 w hr0 hr1 hs0 hs1 h
  · have : sameN l0 l1 = false := by
      rw [Bool.eq_false_iff]
      exact fun e => h (sameN_length _ _ e)
    rw [this]
    exact names_Same.equal_no A0 c0 l0 A1 c1 l1 w h
set_option maxHeartbeats 4000000 in
set_option maxRecDepth 100000 in
theorem names_Same.calls (A0 : Option Addr) (c0 : Nat) (l0 : List S42) (A1 : Option Addr) (c1 : Nat) (l1 : List S42) (r : Bool) (w : World) (hr0 : Kd.C k42 w A0 l0.length l0) (hc0 : l0.length ≤ c0) (hr1 : Kd.C k42 w A1 l1.length l1) (hc1 : l1.length ≤ c1) (h : names_Same.f l0 l1 = some r) :
    Calls Tryd.prog 16 #[.slice A0 l0.length c0, .slice A1 l1.length c1] w fun e w' => e = .returned (.bool r) ∧ Below w.heap.size w w' := by
  unfold names_Same.f at h
  split at h
  · rename_i hs
    cases h
    have HC := Aside0.mk (names_Same.equal_any A0 c0 l0 A1 c1 l1 w hr0 hr1 hs.1 hs.2)
    clear hr0 hc0 hr1 hc1 hs
    go_enter Tryd.func16, Tryd.ntmps16
    go_wp2_with fail
    refine HC.out.mono ?_
    rintro e w1 ⟨rfl, hb1⟩
    go_wp2
    go_ret
    exact ⟨rfl, hb1⟩
  · cases h

/-! ### names_Under: function 18 -/
def names_Under.f (l0 : List (S42)) (l1 : List (S42)) : Option (Bool) := if (l0.length : Int) ≥ (l1.length : Int) then (if 0 ≤ (l1.length : Int) then (if (l1.length : Int) ≤ (l0.length : Int) then ((names_Same.f (l0.take ((l1.length : Int) : Int).toNat) l1).bind fun t112 => (some t112)) else (none)) else (none)) else (some false)
set_option maxHeartbeats 8000000 in
set_option maxRecDepth 100000 in
theorem names_Under.calls (A0 : Option Addr) (c0 : Nat) (l0 : List (S42)) (A1 : Option Addr) (c1 : Nat) (l1 : List (S42)) (r : Bool) (w : World) (hr0 : Kd.C k42 w A0 l0.length l0) (hc0 : l0.length ≤ c0) (hr1 : Kd.C k42 w A1 l1.length l1) (hc1 : l1.length ≤ c1) (h : names_Under.f l0 l1 = some r) :
    Calls Tryd.prog 18 #[.slice A0 l0.length c0, .slice A1 l1.length c1] w fun e w' => e = .returned (.bool r) ∧ Below w.heap.size w w' := by
  have HR0 := Aside0.mk hr0
  have HC0 := Aside0.mk hc0
  clear hr0 hc0
  have HR1 := Aside0.mk hr1
  have HC1 := Aside0.mk hc1
  clear hr1 hc1
  have HB := Aside0.mk (Below.refl w.heap.size w)
  have H : (if (l0.length : Int) ≥ (l1.length : Int) then (if 0 ≤ (l1.length : Int) then (if (l1.length : Int) ≤ (l0.length : Int) then ((names_Same.f (l0.take ((l1.length : Int) : Int).toNat) l1).bind fun t112 => (some t112)) else (none)) else (none)) else (some false)) = some r := h
  clear h
  by_cases c3 : (l0.length : Int) ≥ (l1.length : Int)
  · rw [if_pos c3] at H
    have c3b0 : decide ((l1.length : Int) ≤ (l0.length : Int)) = true := decide_eq_true c3
    have c3b1 : decide (l1.length ≤ l0.length) = true := decide_eq_true (Int.ofNat_le.mp c3)
    clear c3
    by_cases c4 : 0 ≤ (l1.length : Int)
    · rw [if_pos c4] at H
      have c4b0 := eq_true c4
      have c4b1 : decide (0 ≤ (l1.length : Int)) = true := decide_eq_true c4
      clear c4
      by_cases c5 : (l1.length : Int) ≤ (l0.length : Int)
      · rw [if_pos c5] at H
        have c5b0 := eq_true c5
        have c5b1 : decide ((l1.length : Int) ≤ (l0.length : Int)) = true := decide_eq_true c5
        clear c5
        obtain ⟨y108, hy108⟩ : ∃ y_ : List (S42), y_ = (l0.take ((l1.length : Int) : Int).toNat) := ⟨_, rfl⟩
        replace H : ((names_Same.f y108 l1).bind fun t112 => (some t112)) = some r := by first | (rw [hy108]; with_reducible exact H) | (have H2_ := (Option.bind_some _ _).symm.trans H; rw [hy108]; with_reducible exact H2_) | (have H2_ := (Option.bind_some _ _).symm.trans H; with_reducible exact H2_) | with_reducible exact H | (rw [hy108]; exact H) | exact H
        have Ny108 := Aside0.mk hy108
        clear hy108
        replace H := Option.bind_eq_some_iff.mp H
        obtain ⟨t112, A60, H⟩ := H
        replace H : (some t112) = some r := H
        have A6 := Aside0.mk A60
        clear A60
        obtain rfl := Option.some.inj H
        have q7 : ((l1.length : Int) : Int) ≤ ((l0.length : Int) : Int) := of_decide_eq_true (by first | (with_reducible assumption) | assumption)
        obtain ⟨i07, hi07, _, hsz7, _⟩ := info_parts info42
        have hroom7 : l0.length ≤ c0 := HC0.out
        have hC7 : Kd.C k42 _ A0 l0.length l0 := HR0.out
        have hcut7 := cut_to (P := Tryd.prog) 23 42 .i64 Tryd.underlying23 hi07 A0 l0.length c0 (l1.length : Int) (of_decide_eq_true (by first | (with_reducible assumption) | assumption)) q7 hroom7
        have hr7 := Kd.C_take (m := ((l1.length : Int) : Int).toNat) hC7 (by omega)
        have hy7 : y108.length = ((l1.length : Int) : Int).toNat := (by rw [Ny108.out, List.length_take]; omega)
        rw [← Ny108.out] at hr7
        rw [← hy7] at hcut7
        have HR111 := Aside0.mk hr7
        have HC111 := Aside0.mk (show y108.length ≤ c0 from by omega)
        clear hr7 hC7 hroom7 hi07 hsz7
        have KY7 := Aside0.mk hy7
        clear hy7
        replace q7 := eq_true q7
        go_enter Tryd.func18, Tryd.ntmps18
        go_wp2_with (first | (go_at_call 16; (with_reducible refine (names_Same.calls _ _ y108 _ _ l1 t112 _ ?side1 ?side2 ?side3 ?side4 A6.out).mono ?_); (case side1 => repeat (first | exact HR111.out | (with_reducible refine Kd.C_alloc ?_ _) | (with_reducible refine Kd.C_drewN ?_ _) | (with_reducible refine Kd.C_drew ?_))); (case side2 => exact HC111.out); (case side3 => repeat (first | exact HR1.out | (with_reducible refine Kd.C_alloc ?_ _) | (with_reducible refine Kd.C_drewN ?_ _) | (with_reducible refine Kd.C_drew ?_))); (case side4 => exact HC1.out); rintro e w8 ⟨rfl, hb⟩; have n0_ := Aside0.mk (below_step (by repeat (first | (with_reducible first | exact HB.out | apply below_alloc | apply pw_below_drewN | apply below_drew1) | exact HB.out)) hb); clear HB; have HB := n0_; clear n0_; (try clear hb); (try clear hb2); (try clear hk); (try clear hi)))
        go_ret
        exact ⟨by first | rfl | (simp [errW_none, errW_some] <;> rfl) | (simp [*, errW_none, errW_some] <;> rfl), by repeat (first | (with_reducible first | exact HB.out | apply below_alloc | apply pw_below_drewN | apply below_drew1) | exact HB.out)⟩
      · rw [if_neg c5] at H
        exact absurd H (by simp)
    · rw [if_neg c4] at H
      exact absurd H (by simp)
  · rw [if_neg c3] at H
    have c3b0 : decide ((l1.length : Int) ≤ (l0.length : Int)) = false := decide_eq_false c3
    have c3b1 : decide (l1.length ≤ l0.length) = false := decide_eq_false (fun h => c3 (Int.ofNat_le.mpr h))
    clear c3
    obtain rfl := Option.some.inj H
    go_enter Tryd.func18, Tryd.ntmps18
    go_wp2
    go_ret
    exact ⟨by first | rfl | (simp [errW_none, errW_some] <;> rfl) | (simp [*, errW_none, errW_some] <;> rfl), by repeat (first | (with_reducible first | exact HB.out | apply below_alloc | apply pw_below_drewN | apply below_drew1) | exact HB.out)⟩

/-! ### warderlaw09_head: function 10 (by hand) -/
namespace Hd9
def aa : S42 := ⟨[2, 5, 4, 3], ⟨#[65, 110, 110]⟩⟩
theorem smallaa : smallA aa = true := by decide
theorem same_head : names_Same.f [aa] [aa] = some true := by
  unfold names_Same.f
  rw [if_pos ⟨by simp [smallN, smallaa], by simp [smallN, smallaa]⟩]
  simp [sameN, attrEq]
theorem under_head : names_Under.f [aa] [] = some true := by
  have h : names_Same.f [] [] = some true := by
    unfold names_Same.f
    rw [if_pos ⟨rfl, rfl⟩]
    rfl
  simp [names_Under.f, h]
end Hd9
open Hd9 in
def warderlaw09_head.f : Option Bool := some true
set_option maxHeartbeats 4000000 in
set_option maxRecDepth 100000 in
open Hd9 in
theorem warderlaw09_head.calls (r : Bool) (w : World) (h : warderlaw09_head.f = some r) :
    Calls Tryd.prog 10 #[] w fun e w' => e = .returned (.bool r) ∧ Below w.heap.size w w' := by
  cases h
  have hu := Tryd.underlying31
  have hu2 := Tryd.underlying42
  have hu3 := Tryd.underlying26
  obtain ⟨W0, hW0⟩ : ∃ W : World, W = w.alloc (.cells #[.int .i64 2, .int .i64 5, .int .i64 4, .int .i64 3] 3) := ⟨_, rfl⟩
  have g0 : (Kd.int .i64).C W0 (some ⟨w.heap.size, 0, none⟩) 4 [2, 5, 4, 3] := by rw [hW0]; exact lit_read w [2, 5, 4, 3] 3 rfl
  have hz0 : W0.heap.size = w.heap.size + 1 := by rw [hW0]; simp
  have HB0 := Aside0.mk (show Below w.heap.size w W0 by rw [hW0]; exact below_alloc (Below.refl _ _) _)
  obtain ⟨W1, hW1⟩ : ∃ W : World, W = W0.alloc (.cells #[.slice (some ⟨w.heap.size, 0, none⟩) 4 4, .string ⟨#[65, 110, 110]⟩] 42) := ⟨_, rfl⟩
  have hz1 : W1.heap.size = w.heap.size + 1 + 1 := by rw [hW1]; simp [hz0]
  have g1 : k42.C W1 (some ⟨w.heap.size + 1, 0, none⟩) 1 [aa] := by
    rw [hW1, ← hz0]
    exact Kd.C_one k42 42 W0 _ aa (k42_mk _ aa (Nat.le_refl 4) (Kd.C_alloc g0 _))
  have gi : (Kd.int .i64).C W1 (some ⟨w.heap.size, 0, none⟩) 4 [2, 5, 4, 3] := by rw [hW1]; exact Kd.C_alloc g0 _
  have HB1 := Aside0.mk (show Below w.heap.size w W1 by rw [hW1]; exact below_alloc HB0.out _)
  have bk : W1.heap[w.heap.size + 1]? = some (.cells #[.slice (some ⟨w.heap.size, 0, none⟩) 4 4, .string ⟨#[65, 110, 110]⟩] 42 (0, 0)) := by rw [hW1, ← hz0]; exact blk_new _ _
  have C1 := Aside0.mk (YtpbbcjkbeodeiaaDoor.H9.putA (some ⟨w.heap.size, 0, none⟩) 4 (w.heap.size + 1) W1 (Nat.le_refl 4) gi ((blk_cell bk 0).trans rfl) ((blk_cell bk 1).trans rfl))
  have G1 := Aside0.mk g1
  rw [hW1, hW0] at C1
  clear g0 g1 gi HB0 hz0 hz1 bk
  go_enter Tryd.func10, Tryd.ntmps10
  go_wp2_with fail
  refine C1.out.mono ?_
  clear C1
  rw [← hW0, ← hW1]
  clear hW0 hW1 W0
  rintro e w3 ⟨⟨A, c, rfl⟩, hb3⟩
  have HG3 := Aside0.mk (Kd.C_alloc (Kd.C_below G1.out hb3) (.cells #[.int .u8 48, .slice none 0 0, .slice A 1 c] 31))
  have HB3 := Aside0.mk (below_alloc (below_then HB1.out HB1.out.size hb3) (.cells #[.int .u8 48, .slice none 0 0, .slice A 1 c] 31))
  have BK3 := Aside0.mk (blk_new w3 (.cells #[.int .u8 48, .slice none 0 0, .slice A 1 c] 31))
  clear hb3 G1 HB1 W1
  go_wp2_with fail
  refine (YtpbbcjkbeodeiaaDoor.H9.princ0 _).mono ?_
  rintro e w4 ⟨rfl, hb4⟩
  have bk4 := blk_below BK3.out hb4
  have hl3 : w3.heap.size < w4.heap.size := blk_lt bk4
  have hn3 : w3.heap.size ≠ w4.heap.size := by omega
  have hn3' : w4.heap.size ≠ w3.heap.size := by omega
  have k2 : w4.cell? ⟨w3.heap.size, 2, none⟩ = some (.slice A 1 c) := (blk_cell bk4 2).trans rfl
  have HG4 := Aside0.mk (Kd.C_alloc (Kd.C_below HG3.out hb4) (.cells #[.int .u8 0, .slice none 0 0, .slice none 0 0] 31))
  have HB4 := Aside0.mk (below_alloc (below_then HB3.out HB3.out.size hb4) (.cells #[.int .u8 0, .slice none 0 0, .slice none 0 0] 31))
  clear hb4 bk4 HG3 HB3 BK3
  go_wp2_with fail
  refine (names_Same.calls (some ⟨w.heap.size + 1, 0, none⟩) 1 [aa] (some ⟨w.heap.size + 1, 0, none⟩) 1 [aa] true _ HG4.out (Nat.le_refl 1) HG4.out (Nat.le_refl 1) same_head).mono ?_
  rintro e w5 ⟨rfl, hb5⟩
  have HG5 := Aside0.mk (Kd.C_below HG4.out hb5)
  have HB5 := Aside0.mk (below_then HB4.out HB4.out.size hb5)
  clear hb5 HG4 HB4
  go_wp2_with fail
  refine (names_Under.calls (some ⟨w.heap.size + 1, 0, none⟩) 1 [aa] none 0 [] true _ HG5.out (Nat.le_refl 1) (Kd.C_nil _ _) (Nat.le_refl 0) under_head).mono ?_
  rintro e w6 ⟨rfl, hb6⟩
  have HB6 := Aside0.mk (below_then HB5.out HB5.out.size hb6)
  clear hb6
  go_wp2
  go_ret
  exact ⟨rfl, HB6.out⟩

/-! ### warderref03_Prep: function 20 (by hand) -/
def warderref03_Prep.f (a0 : ByteArray) : Option ByteArray := if a0.size ≤ 8796093022208 then some ⟨(Tx.prep a0.data.toList).toArray⟩ else none
theorem warderref03_Prep.calls (a0 : ByteArray) (r : ByteArray) (w : World) (h : warderref03_Prep.f a0 = some r) :
    Calls Tryd.prog 20 #[.string a0] w fun e w' => e = .returned (.string r) ∧ Below w.heap.size w w' := by
  unfold warderref03_Prep.f at h
  split at h
  · rename_i hs
    cases h
    exact refPrep_any a0 w hs
  · cases h

/-! ### warderref02_Same: function 43 -/
def warderref02_Same.l0 : Nat → List Int → List Int → Int → Option (Bool)
  | 0, _, _, _ => none
  | k + 1, x0, x1, x5 => if x5 < (x0.length : Int) then (if 0 ≤ x5 then (if x5 < (x1.length : Int) then (if (rd x0 x5) = (rd x1 x5) then (warderref02_Same.l0 k x0 x1 (wrap64 (x5 + 1))) else (some false)) else (none)) else (none)) else (some true)
def warderref02_Same.f (k : Nat) (l0 : List Int) (l1 : List Int) : Option (Bool) := if (l0.length : Int) = (l1.length : Int) then (warderref02_Same.l0 k l0 l1 0) else (some false)
theorem warderref02_Same.mono_l : ∀ k, (∀ y0 y1 y2, LeO (warderref02_Same.l0 k y0 y1 y2) (warderref02_Same.l0 (k + 1) y0 y1 y2))
  | 0 => fun _ _ _ r h => by simp [warderref02_Same.l0] at h
  | k + 1 => by
    have ih0 := warderref02_Same.mono_l k
    · intro y0 y1 y2
      unfold warderref02_Same.l0
      repeat' first
      | (with_reducible exact ih0 _ _ _)
      | (with_reducible exact LeO.refl _)
      | (with_reducible exact LeO.none _)
      | (with_reducible refine LeO.ite ?_ ?_)
      | (with_reducible refine LeO.bind ?_ (fun _ => ?_))
      | exact ih0 _ _ _
      | exact LeO.none _
      | refine LeO.ite ?_ ?_
      | refine LeO.bind ?_ (fun _ => ?_)
theorem warderref02_Same.mono : ∀ a0 a1 k, LeO (warderref02_Same.f k a0 a1) (warderref02_Same.f (k + 1) a0 a1) := by
  intro a0 a1 k
  have ih0 := warderref02_Same.mono_l k
  unfold warderref02_Same.f
  repeat' first
      | (with_reducible exact ih0 _ _ _)
      | (with_reducible exact LeO.refl _)
      | (with_reducible exact LeO.none _)
      | (with_reducible refine LeO.ite ?_ ?_)
      | (with_reducible refine LeO.bind ?_ (fun _ => ?_))
      | exact ih0 _ _ _
      | exact LeO.none _
      | refine LeO.ite ?_ ?_
      | refine LeO.bind ?_ (fun _ => ?_)
set_option maxHeartbeats 8000000 in
set_option maxRecDepth 100000 in
theorem warderref02_Same.calls (k : Nat) (A0 : Option Addr) (c0 : Nat) (l0 : List Int) (A1 : Option Addr) (c1 : Nat) (l1 : List Int) (r : Bool) (w : World) (hr0 : Kd.C (Kd.int .i64) w A0 l0.length l0) (hc0 : l0.length ≤ c0) (hr1 : Kd.C (Kd.int .i64) w A1 l1.length l1) (hc1 : l1.length ≤ c1) (h : warderref02_Same.f k l0 l1 = some r) :
    Calls Tryd.prog 43 #[.slice A0 l0.length c0, .slice A1 l1.length c1] w fun e w' => e = .returned (.bool r) ∧ Drawn0 w w' := by
  have HR0 := Aside0.mk hr0
  have HC0 := Aside0.mk hc0
  clear hr0 hc0
  have HR1 := Aside0.mk hr1
  have HC1 := Aside0.mk hc1
  clear hr1 hc1
  have H : (if (l0.length : Int) = (l1.length : Int) then (warderref02_Same.l0 k l0 l1 0) else (some false)) = some r := h
  clear h
  by_cases c3 : (l0.length : Int) = (l1.length : Int)
  · rw [if_pos c3] at H
    have c3b0 : ((l0.length : Int) == (l1.length : Int)) = true := beq_iff_eq.mpr c3
    have c3b1 : ((l0.length : Int) != (l1.length : Int)) = false := bne_eq_false_iff_eq.mpr c3
    have c3b2 : (l0.length == l1.length) = true := by first | simpa using c3 | (simp at c3 ⊢; omega)
    clear c3
    have H' := Aside0.mk H
    clear H
    go_enter Tryd.func43, Tryd.ntmps43
    go_wp2
    repeat (go_quiet (fail); try go_wp2)
    go_loopg [5] k (fun kq v5 w' => ∃ (x5_1 : Int), v5 = .int .i64 x5_1 ∧ Aside0 (warderref02_Same.l0 kq l0 l1 x5_1 = some r) ∧ Aside0 (kq ≤ k) ∧ Drawn0 w w')
    case atStart => exact ⟨(0), (by first | rfl | (simp; done) | (simp [*]; done)), H', ⟨Nat.le_refl _⟩, by repeat (first | exact Drawn0.refl _ | apply Drawn0.step)⟩
    case round =>
      clear H'
      try clear c1
      try clear p2
      try clear c3
      try clear c3b0
      try clear c3b1
      try clear c3b2
      obtain ⟨x5_1, rfl, HA, HK1, ⟨m1, rfl⟩⟩ := hrel
      cases gk with
      | zero => exact absurd HA.out (by simp [warderref02_Same.l0])
      | succ k1 =>
        have H := HA.out
        clear HA
        simp only [warderref02_Same.l0] at H
        by_cases c4 : x5_1 < (l0.length : Int)
        · rw [if_pos c4] at H
          have c4b0 : decide (x5_1 < (l0.length : Int)) = true := decide_eq_true c4
          clear c4
          by_cases c5 : 0 ≤ x5_1
          · rw [if_pos c5] at H
            have c5b0 : decide (0 ≤ x5_1) = true := decide_eq_true c5
            clear c5
            by_cases c6 : x5_1 < (l1.length : Int)
            · rw [if_pos c6] at H
              have c6b0 : decide (x5_1 < (l1.length : Int)) = true := decide_eq_true c6
              clear c6
              by_cases c7 : (rd l0 x5_1) = (rd l1 x5_1)
              · rw [if_pos c7] at H
                have c7b0 : ((rd l0 x5_1) == (rd l1 x5_1)) = true := beq_iff_eq.mpr c7
                have c7b1 : ((rd l0 x5_1) != (rd l1 x5_1)) = false := bne_eq_false_iff_eq.mpr c7
                clear c7
                have H' := Aside0.mk H
                clear H
                have p113 : 0 ≤ (x5_1 : Int) := of_decide_eq_true (by first | (with_reducible assumption) | assumption)
                have q113 : x5_1 < (l0.length : Int) := of_decide_eq_true (by first | (with_reducible assumption) | assumption)
                obtain ⟨ad113, e113, hx113_0⟩ := Kd.at_int HR0.out x5_1 p113 q113
                cases e113
                replace p113 := eq_true p113
                replace q113 := eq_true q113
                have p114 : 0 ≤ (x5_1 : Int) := of_decide_eq_true (by first | (with_reducible assumption) | assumption)
                have q114 : x5_1 < (l1.length : Int) := of_decide_eq_true (by first | (with_reducible assumption) | assumption)
                obtain ⟨ad114, e114, hx114_0⟩ := Kd.at_int HR1.out x5_1 p114 q114
                cases e114
                replace p114 := eq_true p114
                replace q114 := eq_true q114
                go_wp2
                repeat (go_quiet (fail); try go_wp2)
                go_roundg k1
                case measure => have := HK1.out; omega
                case rel => exact ⟨(wrap64 (x5_1 + 1)), (by first | rfl | (simp; done) | (simp [*]; done)), H', ⟨by have := HK1.out; omega⟩, by repeat (first | exact Drawn0.refl _ | apply Drawn0.step)⟩
              · rw [if_neg c7] at H
                have c7b0 : ((rd l0 x5_1) == (rd l1 x5_1)) = false := beq_eq_false_iff_ne.mpr c7
                have c7b1 : ((rd l0 x5_1) != (rd l1 x5_1)) = true := bne_iff_ne.mpr c7
                obtain rfl := Option.some.inj H
                have p113 : 0 ≤ (x5_1 : Int) := of_decide_eq_true (by first | (with_reducible assumption) | assumption)
                have q113 : x5_1 < (l0.length : Int) := of_decide_eq_true (by first | (with_reducible assumption) | assumption)
                obtain ⟨ad113, e113, hx113_0⟩ := Kd.at_int HR0.out x5_1 p113 q113
                cases e113
                replace p113 := eq_true p113
                replace q113 := eq_true q113
                have p114 : 0 ≤ (x5_1 : Int) := of_decide_eq_true (by first | (with_reducible assumption) | assumption)
                have q114 : x5_1 < (l1.length : Int) := of_decide_eq_true (by first | (with_reducible assumption) | assumption)
                obtain ⟨ad114, e114, hx114_0⟩ := Kd.at_int HR1.out x5_1 p114 q114
                cases e114
                replace p114 := eq_true p114
                replace q114 := eq_true q114
                go_wp2
                repeat (go_quiet (fail); try go_wp2)
                go_ret
                exact ⟨by first | rfl | (simp; done) | (simp [*]; done), by repeat (first | exact Drawn0.refl _ | apply Drawn0.step)⟩
            · rw [if_neg c6] at H
              exact absurd H (by simp)
          · rw [if_neg c5] at H
            exact absurd H (by simp)
        · rw [if_neg c4] at H
          have c4b0 : decide (x5_1 < (l0.length : Int)) = false := decide_eq_false c4
          clear c4
          obtain rfl := Option.some.inj H
          go_wp2
          repeat (go_quiet (fail); try go_wp2)
          go_ret
          exact ⟨by first | rfl | (simp; done) | (simp [*]; done), by repeat (first | exact Drawn0.refl _ | apply Drawn0.step)⟩
  · rw [if_neg c3] at H
    have c3b0 : ((l0.length : Int) == (l1.length : Int)) = false := beq_eq_false_iff_ne.mpr c3
    have c3b1 : ((l0.length : Int) != (l1.length : Int)) = true := bne_iff_ne.mpr c3
    have c3b2 : (l0.length == l1.length) = false := by first | simpa using c3 | (simp at c3 ⊢; omega)
    obtain rfl := Option.some.inj H
    go_enter Tryd.func43, Tryd.ntmps43
    go_wp2
    repeat (go_quiet (fail); try go_wp2)
    go_ret
    exact ⟨by first | rfl | (simp; done) | (simp [*]; done), by repeat (first | exact Drawn0.refl _ | apply Drawn0.step)⟩

end Go.Proofs.YtpbbcjkbeodeiaaDoor.XS
