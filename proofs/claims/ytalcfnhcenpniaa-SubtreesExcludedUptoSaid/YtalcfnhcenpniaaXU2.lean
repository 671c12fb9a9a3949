-- printed by wip/xprint.py (a scratch copy of the kit's print, with contracts by hand)
import Derived.Test.YtalcfnhcenpniaaXU0
import Derived.Test.YtalcfnhcenpniaaXU1
namespace Go.Proofs.Ytalcfnhcenpniaa.XU
open Go.RowKit Go.Proofs.YtalcfnhcenpniaaW.PrintWords Go.Proofs.YtalcfnhcenpniaaW.PrintLast Go.Proofs.YtalcfnhcenpniaaW.PrintMore
attribute [local go_sem] max2_int min2_int max_two min_two max_three min_three max_four min_four   -- for this text's walks alone
set_option linter.unusedVariables false
set_option linter.unusedSimpArgs false

/-! ### names_Same: function 40 (by hand) -/
theorem slices_Equal_int_int.l0_tells (a b : List Int) (hab : a.length = b.length) (hn : a.length ≤ 9223372036854775807) (d : Nat) : ∀ (k : Nat) (i : Nat), a.length - i = d → i ≤ a.length → d < k →
    slices_Equal_int_int.l0 k a b (a.length : Int) (i : Int) = some (decide (a.drop i = b.drop i)) := by
  induction d with
  | zero =>
    intro k i hd hi hk
    obtain ⟨k, rfl⟩ : ∃ m, k = m + 1 := ⟨k - 1, by omega⟩
    have : i = a.length := by omega
    subst this
    simp only [slices_Equal_int_int.l0]
    rw [if_neg (by omega), List.drop_length, hab, List.drop_length]
    rfl
  | succ d ih =>
    intro k i hd hi hk
    obtain ⟨k, rfl⟩ : ∃ m, k = m + 1 := ⟨k - 1, by omega⟩
    have hlt : i < a.length := by omega
    simp only [slices_Equal_int_int.l0]
    rw [if_pos (by omega), if_pos (by omega), if_pos (by omega), if_pos (by omega)]
    have e1 : rd a (i : Int) = a[i] := by unfold rd; rw [Int.toNat_natCast, getD_eq _ _ _ hlt]
    have e2 : rd b (i : Int) = b[i]'(by omega) := by unfold rd; rw [Int.toNat_natCast, getD_eq _ _ _ (by omega)]
    have e3 : a.drop i = a[i] :: a.drop (i + 1) := List.drop_eq_getElem_cons hlt
    have e4 : b.drop i = b[i]'(by omega) :: b.drop (i + 1) := List.drop_eq_getElem_cons (by omega)
    rw [e1, e2]
    by_cases h : a[i] = b[i]'(by omega)
    · rw [if_pos h, wrap64_succ (by omega) (by omega) hn, show (i : Int) + 1 = ((i + 1 : Nat) : Int) by omega, ih k (i + 1) (by omega) (by omega) (by omega)]
      congr 1
      rw [decide_eq_decide, e3, e4, h, List.cons.injEq]
      exact ⟨fun q => ⟨rfl, q⟩, fun q => q.2⟩
    · rw [if_neg h]
      congr 1
      symm
      rw [decide_eq_false_iff_not, e3, e4, List.cons.injEq]
      exact fun q => h q.1
theorem slices_Equal_int_int.tells (a b : List Int) (hn : a.length ≤ 9223372036854775807) : slices_Equal_int_int.f (a.length + 1) a b = some (decide (a = b)) := by
  unfold slices_Equal_int_int.f
  by_cases h : a.length = b.length
  · rw [if_pos (by omega)]
    have := slices_Equal_int_int.l0_tells a b h hn a.length (a.length + 1) 0 (by omega) (by omega) (by omega)
    simpa using this
  · rw [if_neg (by omega)]
    have : a ≠ b := fun e => h (by rw [e])
    simp [this]
/-- Two parts of names are the same. -/
def attrEq (x y : S35) : Bool := decide (x.f0 = y.f0) && decide (Tx.prep x.f1.data.toList = Tx.prep y.f1.data.toList)
def smallA (x : S35) : Bool := decide (x.f1.size ≤ 8796093022208)
theorem names_Same_1.tells (x y : S35) (hn : x.f0.length ≤ 9223372036854775807) (hx : smallA x = true) (hy : smallA y = true) : names_Same_1.f (x.f0.length + 1) x.f0 x.f1 y.f0 y.f1 = some (attrEq x y) := by
  unfold smallA at hx hy
  unfold names_Same_1.f attrEq texts_Prep.f
  rw [slices_Equal_int_int.tells _ _ hn, if_pos (of_decide_eq_true hx), if_pos (of_decide_eq_true hy)]
  simp only [Option.bind_some]
  by_cases h : x.f0 = y.f0
  · rw [decide_eq_true h]
    simp only [if_true, Bool.true_and]
    congr 1
    rw [Bool.eq_iff_iff]
    simp only [beq_iff_eq, decide_eq_true_eq, ByteArray.toList_eq]
  · rw [decide_eq_false h]
    rfl
/-- Two names are the same. -/
def sameN : List S35 → List S35 → Bool
  | [], [] => true
  | x :: a, y :: b => attrEq x y && sameN a b
  | _, _ => false
theorem sameN_length : ∀ (a b : List S35), sameN a b = true → a.length = b.length
  | [], [], _ => rfl
  | x :: a, y :: b, h => by
    simp only [sameN, Bool.and_eq_true] at h
    simp [sameN_length a b h.2]
  | [], _ :: _, h => by simp [sameN] at h
  | _ :: _, [], h => by simp [sameN] at h
theorem sameN_drop (a b : List S35) (i : Nat) (ha : i < a.length) (hb : i < b.length) : sameN (a.drop i) (b.drop i) = (attrEq a[i] b[i] && sameN (a.drop (i + 1)) (b.drop (i + 1))) := by
  rw [List.drop_eq_getElem_cons ha, List.drop_eq_getElem_cons hb]
  rfl
def smallN (l : List S35) : Bool := l.all smallA
def names_Same.f (l0 l1 : List S35) : Option Bool := if smallN l0 = true ∧ smallN l1 = true then some (sameN l0 l1) else none
set_option maxHeartbeats 4000000 in
set_option maxRecDepth 100000 in
theorem names_Same.equal (A0 : Option Addr) (c0 : Nat) (l0 : List S35) (A1 : Option Addr) (c1 : Nat) (l1 : List S35) (w : World) (hr0 : Kd.C k35 w A0 l0.length l0) (hr1 : Kd.C k35 w A1 l1.length l1) (hs0 : smallN l0 = true) (hs1 : smallN l1 = true) (hlen : l0.length = l1.length) :
    Calls Try.prog 58 #[.slice A0 l0.length c0, .slice A1 l1.length c1, .func (.func 59) #[] #[]] w fun e w' => e = .returned (.bool (sameN l0 l1)) ∧ Below w.heap.size w w' := by
  have hn : l0.length ≤ 9223372036854775807 := hr0.2.1
  have hu := Try.underlying35
  have HR0 := Aside0.mk hr0
  have HR1 := Aside0.mk hr1
  have HS0 := Aside0.mk hs0
  have HS1 := Aside0.mk hs1
  have hneq : ((l0.length : Int) != (l1.length : Int)) = false := by rw [hlen]; simp
  have HLEN := Aside0.mk hlen
  clear hr0 hr1 hs0 hs1 hlen
  go_enter Try.func58, Try.ntmps58
  go_wp2
  go_loopw [7, 8, 9, 17] (fun _ _ _ v17 wr => ∃ k : Nat, k ≤ l0.length ∧ v17 = .int .i64 k ∧ Aside0 (sameN (l0.drop k) (l1.drop k) = sameN l0 l1) ∧ Aside0 (Below w.heap.size w wr)) (fun _ _ _ v17 _ => l0.length - (intOf v17).toNat)
  case atStart => exact ⟨0, Nat.zero_le _, rfl, ⟨rfl⟩, ⟨Below.refl _ _⟩⟩
  case round =>
    obtain ⟨k, hk, rfl, HA, HB⟩ := hrel
    have hlen := HLEN.out
    by_cases hlt : k < l0.length
    · have hltz : (k : Int) < (l0.length : Int) := by omega
      have hltz1 : (k : Int) < (l1.length : Int) := by omega
      have hlt1 : k < l1.length := by omega
      obtain ⟨ad, B0, d0, e0, hx0, hx1, hl0, hi0⟩ := at_T35 HR0.out (k : Int) (by omega) (by omega)
      obtain ⟨ae, B1, d1, e1, hy0, hy1, hl1, hi1⟩ := at_T35 HR1.out (k : Int) (by omega) (by omega)
      cases e0
      cases e1
      replace hx0 := (HB.out.cell (World.block_lt_of_cell? w _ hx0)).trans hx0
      replace hx1 := (HB.out.cell (World.block_lt_of_cell? w _ hx1)).trans hx1
      replace hy0 := (HB.out.cell (World.block_lt_of_cell? w _ hy0)).trans hy0
      replace hy1 := (HB.out.cell (World.block_lt_of_cell? w _ hy1)).trans hy1
      simp only [Int.toNat_natCast] at hx0 hx1 hy0 hy1
      have en0 : rd_T35 l0 (k : Int) = l0[k] := by unfold rd_T35; rw [Int.toNat_natCast]; exact getD_eq _ _ _ hlt
      have en1 : rd_T35 l1 (k : Int) = l1[k] := by unfold rd_T35; rw [Int.toNat_natCast]; exact getD_eq _ _ _ hlt1
      have hstep := sameN_drop l0 l1 k hlt hlt1
      have sm0 : smallA l0[k] = true := List.all_eq_true.1 HS0.out _ (List.getElem_mem _)
      have sm1 : smallA l1[k] = true := List.all_eq_true.1 HS1.out _ (List.getElem_mem _)
      rw [← en0, ← en1] at hstep
      rw [← en0] at sm0
      rw [← en1] at sm1
      have HI0 := Aside0.mk (Kd.C_below hi0 HB.out)
      have HI1 := Aside0.mk (Kd.C_below hi1 HB.out)
      have HL0 := Aside0.mk hl0
      have HL1 := Aside0.mk hl1
      clear en0 en1 hi0 hi1 hl0 hl1 hlen
      generalize rd_T35 l0 (k : Int) = x at *
      generalize rd_T35 l1 (k : Int) = y at *
      have HT := Aside0.mk (names_Same_1.tells x y HI0.out.2.1 sm0 sm1)
      have HA2 := Aside0.mk (show (attrEq x y && sameN (l0.drop (k + 1)) (l1.drop (k + 1))) = sameN l0 l1 by rw [← hstep]; exact HA.out)
      have hby : (ae.add (k * 2)).block < wr.heap.size := World.block_lt_of_cell? wr _ hy0
      have hne : (ae.add (k * 2)).block ≠ wr.heap.size := by omega
      clear hstep sm0 sm1 HA
      go_wp2_with fail
      refine (names_Same_1.calls (x.f0.length + 1) B0 d0 x.f0 x.f1 B1 d1 y.f0 y.f1 (attrEq x y) _ ?s1 ?s2 ?s3 ?s4 HT.out).mono ?_
      case s1 => exact Kd.C_alloc (Kd.C_alloc HI0.out _) _
      case s2 => exact HL0.out
      case s3 => exact Kd.C_alloc (Kd.C_alloc HI1.out _) _
      case s4 => exact HL1.out
      rintro e w1 ⟨rfl, hb1⟩
      have hb2 := Aside0.mk (below_then ((HB.out.alloc HB.out.size (.cells #[.slice B0 x.f0.length d0, .string x.f1] 35)).alloc (by have := HB.out.size; simp; omega) (.cells #[.slice B1 y.f0.length d1, .string y.f1] 35)) (by have := HB.out.size; simp; omega) hb1)
      clear hb1
      have ha := HA2.out
      clear HT HA2
      cases hq : attrEq x y with
      | true =>
        rw [hq, Bool.true_and] at ha
        have HA := Aside0.mk ha
        clear ha hq
        go_wp2
        go_roundw
        case rel => exact ⟨k + 1, by omega, by go_num, HA, hb2⟩
        case measure => simp [intOf]; omega
      | false =>
        rw [hq, Bool.false_and] at ha
        have HA := Aside0.mk ha
        clear ha hq
        go_wp2
        go_ret
        exact ⟨congrArg (fun b => Ending.returned (.bool b)) HA.out, hb2.out⟩
    · have hltz : ¬ (k : Int) < (l0.length : Int) := by omega
      have : k = l0.length := by omega
      subst this
      have ha := HA.out
      rw [List.drop_length, hlen, List.drop_length] at ha
      have HA := Aside0.mk (show true = sameN l0 l1 from ha)
      clear ha hlen
      go_wp2
      go_ret
      exact ⟨congrArg (fun b => Ending.returned (.bool b)) HA.out, HB.out⟩
set_option maxHeartbeats 4000000 in
set_option maxRecDepth 100000 in
theorem names_Same.equal_no (A0 : Option Addr) (c0 : Nat) (l0 : List S35) (A1 : Option Addr) (c1 : Nat) (l1 : List S35) (w : World) (hlen : ¬ l0.length = l1.length) :
    Calls Try.prog 58 #[.slice A0 l0.length c0, .slice A1 l1.length c1, .func (.func 59) #[] #[]] w fun e w' => e = .returned (.bool false) ∧ Below w.heap.size w w' := by
  have hneq : ((l0.length : Int) != (l1.length : Int)) = true := bne_iff_ne.2 (by omega)
  clear hlen
  go_enter Try.func58, Try.ntmps58
  go_wp2
  go_ret
  exact ⟨rfl, Below.refl _ _⟩
theorem names_Same.equal_any (A0 : Option Addr) (c0 : Nat) (l0 : List S35) (A1 : Option Addr) (c1 : Nat) (l1 : List S35) (w : World) (hr0 : Kd.C k35 w A0 l0.length l0) (hr1 : Kd.C k35 w A1 l1.length l1) (hs0 : smallN l0 = true) (hs1 : smallN l1 = true) :
    Calls Try.prog 58 #[.slice A0 l0.length c0, .slice A1 l1.length c1, .func (.func 59) #[] #[]] w fun e w' => e = .returned (.bool (sameN l0 l1)) ∧ Below w.heap.size w w' := by
  by_cases h : l0.length = l1.length
  · exact names_Same.equal A0 c0 l0 A1 c1 l1 w hr0 hr1 hs0 hs1 h
  · have : sameN l0 l1 = false := by
      rw [Bool.eq_false_iff]
      exact fun e => h (sameN_length _ _ e)
    rw [this]
    exact names_Same.equal_no A0 c0 l0 A1 c1 l1 w h
set_option maxHeartbeats 4000000 in
set_option maxRecDepth 100000 in
theorem names_Same.calls (A0 : Option Addr) (c0 : Nat) (l0 : List S35) (A1 : Option Addr) (c1 : Nat) (l1 : List S35) (r : Bool) (w : World) (hr0 : Kd.C k35 w A0 l0.length l0) (hc0 : l0.length ≤ c0) (hr1 : Kd.C k35 w A1 l1.length l1) (hc1 : l1.length ≤ c1) (h : names_Same.f l0 l1 = some r) :
    Calls Try.prog 40 #[.slice A0 l0.length c0, .slice A1 l1.length c1] w fun e w' => e = .returned (.bool r) ∧ Below w.heap.size w w' := by
  unfold names_Same.f at h
  split at h
  · rename_i hs
    cases h
    have HC := Aside0.mk (names_Same.equal_any A0 c0 l0 A1 c1 l1 w hr0 hr1 hs.1 hs.2)
    clear hr0 hc0 hr1 hc1 hs
    go_enter Try.func40, Try.ntmps40
    go_wp2_with fail
    refine HC.out.mono ?_
    rintro e w1 ⟨rfl, hb1⟩
    go_wp2
    go_ret
    exact ⟨rfl, hb1⟩
  · cases h

/-! ### names_Under: function 30 -/
def names_Under.f (l0 : List (S35)) (l1 : List (S35)) : Option (Bool) := if (l0.length : Int) ≥ (l1.length : Int) then (if 0 ≤ (l1.length : Int) then (if (l1.length : Int) ≤ (l0.length : Int) then ((names_Same.f (l0.take ((l1.length : Int) : Int).toNat) l1).bind fun t112 => (some t112)) else (none)) else (none)) else (some false)
set_option maxHeartbeats 8000000 in
set_option maxRecDepth 100000 in
theorem names_Under.calls (A0 : Option Addr) (c0 : Nat) (l0 : List (S35)) (A1 : Option Addr) (c1 : Nat) (l1 : List (S35)) (r : Bool) (w : World) (hr0 : Kd.C k35 w A0 l0.length l0) (hc0 : l0.length ≤ c0) (hr1 : Kd.C k35 w A1 l1.length l1) (hc1 : l1.length ≤ c1) (h : names_Under.f l0 l1 = some r) :
    Calls Try.prog 30 #[.slice A0 l0.length c0, .slice A1 l1.length c1] w fun e w' => e = .returned (.bool r) ∧ Below w.heap.size w w' := by
  have HR0 := Aside0.mk hr0
  have HC0 := Aside0.mk hc0
  clear hr0 hc0
  have HR1 := Aside0.mk hr1
  have HC1 := Aside0.mk hc1
  clear hr1 hc1
  have HB := Aside0.mk (Below.refl w.heap.size w)
  have H : (if (l0.length : Int) ≥ (l1.length : Int) then (if 0 ≤ (l1.length : Int) then (if (l1.length : Int) ≤ (l0.length : Int) then ((names_Same.f (l0.take ((l1.length : Int) : Int).toNat) l1).bind fun t112 => (some t112)) else (none)) else (none)) else (some false)) = some r := h
  clear h
  by_cases c3 : (l0.length : Int) ≥ (l1.length : Int)
  · rw [if_pos c3] at H
    have c3b0 : decide ((l1.length : Int) ≤ (l0.length : Int)) = true := decide_eq_true c3
    have c3b1 : decide (l1.length ≤ l0.length) = true := decide_eq_true (Int.ofNat_le.mp c3)
    clear c3
    by_cases c4 : 0 ≤ (l1.length : Int)
    · rw [if_pos c4] at H
      have c4b0 := eq_true c4
      have c4b1 : decide (0 ≤ (l1.length : Int)) = true := decide_eq_true c4
      clear c4
      by_cases c5 : (l1.length : Int) ≤ (l0.length : Int)
      · rw [if_pos c5] at H
        have c5b0 := eq_true c5
        have c5b1 : decide ((l1.length : Int) ≤ (l0.length : Int)) = true := decide_eq_true c5
        clear c5
        obtain ⟨y108, hy108⟩ : ∃ y_ : List (S35), y_ = (l0.take ((l1.length : Int) : Int).toNat) := ⟨_, rfl⟩
        replace H : ((names_Same.f y108 l1).bind fun t112 => (some t112)) = some r := by first | (rw [hy108]; with_reducible exact H) | (have H2_ := (Option.bind_some _ _).symm.trans H; rw [hy108]; with_reducible exact H2_) | (have H2_ := (Option.bind_some _ _).symm.trans H; with_reducible exact H2_) | with_reducible exact H | (rw [hy108]; exact H) | exact H
        have Ny108 := Aside0.mk hy108
        clear hy108
        replace H := Option.bind_eq_some_iff.mp H
        obtain ⟨t112, A60, H⟩ := H
        replace H : (some t112) = some r := H
        have A6 := Aside0.mk A60
        clear A60
        obtain rfl := Option.some.inj H
        have q7 : ((l1.length : Int) : Int) ≤ ((l0.length : Int) : Int) := of_decide_eq_true (by first | (with_reducible assumption) | assumption)
        obtain ⟨i07, hi07, _, hsz7, _⟩ := info_parts info35
        have hroom7 : l0.length ≤ c0 := HC0.out
        have hC7 : Kd.C k35 _ A0 l0.length l0 := HR0.out
        have hcut7 := cut_to (P := Try.prog) 27 35 .i64 Try.underlying27 hi07 A0 l0.length c0 (l1.length : Int) (of_decide_eq_true (by first | (with_reducible assumption) | assumption)) q7 hroom7
        have hr7 := Kd.C_take (m := ((l1.length : Int) : Int).toNat) hC7 (by omega)
        have hy7 : y108.length = ((l1.length : Int) : Int).toNat := (by rw [Ny108.out, List.length_take]; omega)
        rw [← Ny108.out] at hr7
        rw [← hy7] at hcut7
        have HR111 := Aside0.mk hr7
        have HC111 := Aside0.mk (show y108.length ≤ c0 from by omega)
        clear hr7 hC7 hroom7 hi07 hsz7
        have KY7 := Aside0.mk hy7
        clear hy7
        replace q7 := eq_true q7
        go_enter Try.func30, Try.ntmps30
        go_wp2_with (first | (go_at_call 40; (with_reducible refine (names_Same.calls _ _ y108 _ _ l1 t112 _ ?side1 ?side2 ?side3 ?side4 A6.out).mono ?_); (case side1 => repeat (first | exact HR111.out | (with_reducible refine Kd.C_alloc ?_ _) | (with_reducible refine Kd.C_drewN ?_ _) | (with_reducible refine Kd.C_drew ?_))); (case side2 => exact HC111.out); (case side3 => repeat (first | exact HR1.out | (with_reducible refine Kd.C_alloc ?_ _) | (with_reducible refine Kd.C_drewN ?_ _) | (with_reducible refine Kd.C_drew ?_))); (case side4 => exact HC1.out); rintro e w8 ⟨rfl, hb⟩; have n0_ := Aside0.mk (below_step (by repeat (first | (with_reducible first | exact HB.out | apply below_alloc | apply pw_below_drewN | apply below_drew1) | exact HB.out)) hb); clear HB; have HB := n0_; clear n0_; (try clear hb); (try clear hb2); (try clear hk); (try clear hi)))
        go_ret
        exact ⟨by first | rfl | (simp [errW_none, errW_some] <;> rfl) | (simp [*, errW_none, errW_some] <;> rfl), by repeat (first | (with_reducible first | exact HB.out | apply below_alloc | apply pw_below_drewN | apply below_drew1) | exact HB.out)⟩
      · rw [if_neg c5] at H
        exact absurd H (by simp)
    · rw [if_neg c4] at H
      exact absurd H (by simp)
  · rw [if_neg c3] at H
    have c3b0 : decide ((l1.length : Int) ≤ (l0.length : Int)) = false := decide_eq_false c3
    have c3b1 : decide (l1.length ≤ l0.length) = false := decide_eq_false (fun h => c3 (Int.ofNat_le.mpr h))
    clear c3
    obtain rfl := Option.some.inj H
    go_enter Try.func30, Try.ntmps30
    go_wp2
    go_ret
    exact ⟨by first | rfl | (simp [errW_none, errW_some] <;> rfl) | (simp [*, errW_none, errW_some] <;> rfl), by repeat (first | (with_reducible first | exact HB.out | apply below_alloc | apply pw_below_drewN | apply below_drew1) | exact HB.out)⟩

/-! ### subtrees_Allowed: function 15 (by hand) -/
/-- Does name a begin with name b? -/
def underN (a b : List S35) : Bool := decide (b.length ≤ a.length) && sameN (a.take b.length) b
theorem smallN_take (l : List S35) (n : Nat) (h : smallN l = true) : smallN (l.take n) = true :=
  List.all_eq_true.2 fun x hx => List.all_eq_true.1 h x (List.mem_of_mem_take hx)
theorem names_Under.tells (a b : List S35) (ha : smallN a = true) (hb : smallN b = true) : names_Under.f a b = some (underN a b) := by
  unfold names_Under.f underN names_Same.f
  by_cases h : b.length ≤ a.length
  · rw [if_pos (by omega), if_pos (by omega), if_pos (by omega), if_pos ⟨smallN_take _ _ ha, hb⟩, decide_eq_true h]
    simp
  · rw [if_neg (by omega), decide_eq_false h]
    rfl
def smallL (l : List (List S35)) : Bool := l.all smallN
def smallP (l : List (List (List S35))) : Bool := l.all smallL
def amongN (n : List S35) (l : List (List S35)) : Bool := l.any (underN n)
def allowedN (p : List (List (List S35))) (x : List (List S35)) (n : List S35) : Bool := p.all (amongN n) && !amongN n x
def subtrees_Allowed.f (p : List (List (List S35))) (x : List (List S35)) (n : List S35) : Option Bool := if smallP p = true ∧ smallL x = true ∧ smallN n = true then some (allowedN p x n) else none
set_option maxHeartbeats 4000000 in
set_option maxRecDepth 100000 in
theorem IndexFunc_L4 (p : List (S35) → Bool) (g : Nat) (lb : Array Value) (eg : ∀ args w, (callFunc g args).run Try.prog w = .ok (.enter g args) w) (A0_ : Option Addr) (c0_ : Nat) (l0 : List (List (S35))) (w : World) (hr0 : Kd.C (Kd.slice 35 k35) w A0_ l0.length l0) (hp : ∀ (x : List (S35)) (A0 : Option Addr) (c0 : Nat) (W : World), x ∈ l0 → Below w.heap.size w W → Kd.C k35 W A0 x.length x → x.length ≤ c0 → Calls Try.prog g (#[(.slice A0 x.length c0)] ++ lb) W fun e w' => e = .returned (.bool (p x)) ∧ Below W.heap.size W w') :
    Calls Try.prog 52 #[.slice A0_ l0.length c0_, .func (.func g) #[] lb] w fun e w' => e = .returned (.int .i64 (idxp p l0)) ∧ Below w.heap.size w w' := by
  have hn : l0.length ≤ 9223372036854775807 := hr0.2.1
  have HR := Aside0.mk hr0
  have HP := Aside0.mk hp
  clear hr0 hp
  go_enter Try.func52, Try.ntmps52
  go_wp2
  go_loopg [5, 8] l0.length (fun gg _ s8 wr => ∃ kk : Nat, kk ≤ l0.length ∧ l0.length - kk ≤ gg ∧ s8 = .int .i64 kk ∧ Aside0 (Below w.heap.size w wr) ∧ Aside0 (∀ j (hj : j < l0.length), j < kk → p l0[j] = false))
  case atStart => exact ⟨0, Nat.zero_le _, by omega, rfl, ⟨Below.refl _ w⟩, ⟨fun j _ hj => absurd hj (Nat.not_lt_zero _)⟩⟩
  case round =>
    obtain ⟨kk, hkk, hg, rfl, HB, HA⟩ := hrel
    by_cases hlt : kk < l0.length
    · have hltz : (kk : Int) < (l0.length : Int) := by omega
      obtain ⟨ad, A0, c0,  e0, hx0, hl0, hi0⟩ := at_L4 HR.out (kk : Int) (by omega) (by omega)
      cases e0
      replace hx0 := (HB.out.cell (World.block_lt_of_cell? w _ hx0)).trans hx0
      have hmem : (rd_L4 l0 (kk : Int)) ∈ l0 := by unfold rd_L4; rw [Int.toNat_natCast, getD_eq _ _ _ hlt]; exact List.getElem_mem _
      have hcall := HP.out (rd_L4 l0 (kk : Int)) A0 c0 wr hmem HB.out (Kd.C_below hi0 HB.out) hl0
      have he : (rd_L4 l0 (kk : Int)) = l0[kk] := by unfold rd_L4; rw [Int.toNat_natCast]; exact getD_eq _ _ _ hlt
      have HE := Aside0.mk he
      clear he hmem
      clear hi0 hl0
      generalize (rd_L4 l0 (kk : Int)) = y at *
      have HC := Aside0.mk hcall
      clear hcall
      simp only [Int.toNat_natCast] at hx0
      cases hq : p y with
      | true =>
        have HQ := Aside0.mk hq
        have hcall := HC.out
        rw [hq] at hcall
        clear hq HC
        have HC := Aside0.mk hcall
        clear hcall
        go_wp2_with fail
        refine HC.out.mono ?_
        rintro e w' ⟨rfl, hb'⟩
        have hb2 := Aside0.mk (below_then HB.out HB.out.size hb')
        clear hb'
        go_wp2_with fail
        go_ret
        exact ⟨congrArg (fun z => Ending.returned (.int .i64 z)) (idxp_hit p l0 kk hlt HA.out (by rw [← HE.out]; exact HQ.out)).symm, hb2.out⟩
      | false =>
        have HQ := Aside0.mk hq
        have hcall := HC.out
        rw [hq] at hcall
        clear hq HC
        have HC := Aside0.mk hcall
        clear hcall
        go_wp2_with fail
        refine HC.out.mono ?_
        rintro e w' ⟨rfl, hb'⟩
        have hb2 := Aside0.mk (below_then HB.out HB.out.size hb')
        clear hb'
        go_wp2_with fail
        go_roundg (l0.length - (kk + 1))
        case measure => omega
        case rel =>
          refine ⟨kk + 1, by omega, by omega, by go_num, hb2, ⟨fun j hj hjk => ?_⟩⟩
          by_cases e : j = kk
          · subst e
            rw [← HE.out]; exact HQ.out
          · exact HA.out j hj (by omega)
    · have hltz : ¬ (kk : Int) < (l0.length : Int) := by omega
      have : kk = l0.length := by omega
      subst this
      go_wp2
      go_ret
      exact ⟨congrArg (fun z => Ending.returned (.int .i64 z)) (idxp_miss p l0 (fun j hj => HA.out j hj hj)).symm, HB.out⟩

set_option maxHeartbeats 4000000 in
set_option maxRecDepth 100000 in
theorem ContainsFunc_L4 (p : List (S35) → Bool) (g : Nat) (lb : Array Value) (eg : ∀ args w, (callFunc g args).run Try.prog w = .ok (.enter g args) w) (A0_ : Option Addr) (c0_ : Nat) (l0 : List (List (S35))) (w : World) (hr0 : Kd.C (Kd.slice 35 k35) w A0_ l0.length l0) (hp : ∀ (x : List (S35)) (A0 : Option Addr) (c0 : Nat) (W : World), x ∈ l0 → Below w.heap.size w W → Kd.C k35 W A0 x.length x → x.length ≤ c0 → Calls Try.prog g (#[(.slice A0 x.length c0)] ++ lb) W fun e w' => e = .returned (.bool (p x)) ∧ Below W.heap.size W w') :
    Calls Try.prog 32 #[.slice A0_ l0.length c0_, .func (.func g) #[] lb] w fun e w' => e = .returned (.bool (l0.any p)) ∧ Below w.heap.size w w' := by
  have HC := Aside0.mk (IndexFunc_L4 p g lb eg A0_ c0_ l0 w hr0 hp)
  have HE := Aside0.mk (idxp_any p l0)
  clear hr0 hp eg
  go_enter Try.func32, Try.ntmps32
  go_wp2_with fail
  refine HC.out.mono ?_
  rintro e w1 ⟨rfl, hb1⟩
  go_wp2
  go_ret
  exact ⟨congrArg (fun b => Ending.returned (.bool b)) HE.out, hb1⟩

set_option maxHeartbeats 4000000 in
set_option maxRecDepth 100000 in
theorem IndexFunc_L6 (p : List (List (S35)) → Bool) (g : Nat) (lb : Array Value) (eg : ∀ args w, (callFunc g args).run Try.prog w = .ok (.enter g args) w) (A0_ : Option Addr) (c0_ : Nat) (l0 : List (List (List (S35)))) (w : World) (hr0 : Kd.C (Kd.slice 27 (Kd.slice 35 k35)) w A0_ l0.length l0) (hp : ∀ (x : List (List (S35))) (A0 : Option Addr) (c0 : Nat) (W : World), x ∈ l0 → Below w.heap.size w W → Kd.C (Kd.slice 35 k35) W A0 x.length x → x.length ≤ c0 → Calls Try.prog g (#[(.slice A0 x.length c0)] ++ lb) W fun e w' => e = .returned (.bool (p x)) ∧ Below W.heap.size W w') :
    Calls Try.prog 53 #[.slice A0_ l0.length c0_, .func (.func g) #[] lb] w fun e w' => e = .returned (.int .i64 (idxp p l0)) ∧ Below w.heap.size w w' := by
  have hn : l0.length ≤ 9223372036854775807 := hr0.2.1
  have HR := Aside0.mk hr0
  have HP := Aside0.mk hp
  clear hr0 hp
  go_enter Try.func53, Try.ntmps53
  go_wp2
  go_loopg [5, 8] l0.length (fun gg _ s8 wr => ∃ kk : Nat, kk ≤ l0.length ∧ l0.length - kk ≤ gg ∧ s8 = .int .i64 kk ∧ Aside0 (Below w.heap.size w wr) ∧ Aside0 (∀ j (hj : j < l0.length), j < kk → p l0[j] = false))
  case atStart => exact ⟨0, Nat.zero_le _, by omega, rfl, ⟨Below.refl _ w⟩, ⟨fun j _ hj => absurd hj (Nat.not_lt_zero _)⟩⟩
  case round =>
    obtain ⟨kk, hkk, hg, rfl, HB, HA⟩ := hrel
    by_cases hlt : kk < l0.length
    · have hltz : (kk : Int) < (l0.length : Int) := by omega
      obtain ⟨ad, A0, c0,  e0, hx0, hl0, hi0⟩ := at_L6 HR.out (kk : Int) (by omega) (by omega)
      cases e0
      replace hx0 := (HB.out.cell (World.block_lt_of_cell? w _ hx0)).trans hx0
      have hmem : (rd_L6 l0 (kk : Int)) ∈ l0 := by unfold rd_L6; rw [Int.toNat_natCast, getD_eq _ _ _ hlt]; exact List.getElem_mem _
      have hcall := HP.out (rd_L6 l0 (kk : Int)) A0 c0 wr hmem HB.out (Kd.C_below hi0 HB.out) hl0
      have he : (rd_L6 l0 (kk : Int)) = l0[kk] := by unfold rd_L6; rw [Int.toNat_natCast]; exact getD_eq _ _ _ hlt
      have HE := Aside0.mk he
      clear he hmem
      clear hi0 hl0
      generalize (rd_L6 l0 (kk : Int)) = y at *
      have HC := Aside0.mk hcall
      clear hcall
      simp only [Int.toNat_natCast] at hx0
      cases hq : p y with
      | true =>
        have HQ := Aside0.mk hq
        have hcall := HC.out
        rw [hq] at hcall
        clear hq HC
        have HC := Aside0.mk hcall
        clear hcall
        go_wp2_with fail
        refine HC.out.mono ?_
        rintro e w' ⟨rfl, hb'⟩
        have hb2 := Aside0.mk (below_then HB.out HB.out.size hb')
        clear hb'
        go_wp2_with fail
        go_ret
        exact ⟨congrArg (fun z => Ending.returned (.int .i64 z)) (idxp_hit p l0 kk hlt HA.out (by rw [← HE.out]; exact HQ.out)).symm, hb2.out⟩
      | false =>
        have HQ := Aside0.mk hq
        have hcall := HC.out
        rw [hq] at hcall
        clear hq HC
        have HC := Aside0.mk hcall
        clear hcall
        go_wp2_with fail
        refine HC.out.mono ?_
        rintro e w' ⟨rfl, hb'⟩
        have hb2 := Aside0.mk (below_then HB.out HB.out.size hb')
        clear hb'
        go_wp2_with fail
        go_roundg (l0.length - (kk + 1))
        case measure => omega
        case rel =>
          refine ⟨kk + 1, by omega, by omega, by go_num, hb2, ⟨fun j hj hjk => ?_⟩⟩
          by_cases e : j = kk
          · subst e
            rw [← HE.out]; exact HQ.out
          · exact HA.out j hj (by omega)
    · have hltz : ¬ (kk : Int) < (l0.length : Int) := by omega
      have : kk = l0.length := by omega
      subst this
      go_wp2
      go_ret
      exact ⟨congrArg (fun z => Ending.returned (.int .i64 z)) (idxp_miss p l0 (fun j hj => HA.out j hj hj)).symm, HB.out⟩

set_option maxHeartbeats 4000000 in
set_option maxRecDepth 100000 in
theorem ContainsFunc_L6 (p : List (List (S35)) → Bool) (g : Nat) (lb : Array Value) (eg : ∀ args w, (callFunc g args).run Try.prog w = .ok (.enter g args) w) (A0_ : Option Addr) (c0_ : Nat) (l0 : List (List (List (S35)))) (w : World) (hr0 : Kd.C (Kd.slice 27 (Kd.slice 35 k35)) w A0_ l0.length l0) (hp : ∀ (x : List (List (S35))) (A0 : Option Addr) (c0 : Nat) (W : World), x ∈ l0 → Below w.heap.size w W → Kd.C (Kd.slice 35 k35) W A0 x.length x → x.length ≤ c0 → Calls Try.prog g (#[(.slice A0 x.length c0)] ++ lb) W fun e w' => e = .returned (.bool (p x)) ∧ Below W.heap.size W w') :
    Calls Try.prog 33 #[.slice A0_ l0.length c0_, .func (.func g) #[] lb] w fun e w' => e = .returned (.bool (l0.any p)) ∧ Below w.heap.size w w' := by
  have HC := Aside0.mk (IndexFunc_L6 p g lb eg A0_ c0_ l0 w hr0 hp)
  have HE := Aside0.mk (idxp_any p l0)
  clear hr0 hp eg
  go_enter Try.func33, Try.ntmps33
  go_wp2_with fail
  refine HC.out.mono ?_
  rintro e w1 ⟨rfl, hb1⟩
  go_wp2
  go_ret
  exact ⟨congrArg (fun b => Ending.returned (.bool b)) HE.out, hb1⟩

set_option maxHeartbeats 4000000 in
set_option maxRecDepth 100000 in
theorem subtrees_Allowed.under (B : Nat) (A1 : Option Addr) (c1 : Nat) (n : List S35) (x : List S35) (A : Option Addr) (c : Nat) (W : World)
    (hb : W.heap[B]? = some (.cells #[.slice A1 n.length c1] 27 (0, 0))) (h1 : Kd.C k35 W A1 n.length n) (hc1 : n.length ≤ c1) (h2 : Kd.C k35 W A x.length x) (hc2 : x.length ≤ c) (hs1 : smallN n = true) (hs2 : smallN x = true) :
    Calls Try.prog 29 (#[.slice A x.length c] ++ #[.pointer (some ⟨B, 0, none⟩)]) W fun e w' => e = .returned (.bool (underN n x)) ∧ Below W.heap.size W w' := by
  show Calls Try.prog 29 #[.slice A x.length c, .pointer (some ⟨B, 0, none⟩)] W _
  have k1 : W.cell? ⟨B, 0, none⟩ = some (.slice A1 n.length c1) := (blk_cell hb 0).trans rfl
  have HC := Aside0.mk (names_Under.calls A1 c1 n A c x _ W h1 hc1 h2 hc2 (names_Under.tells n x hs1 hs2))
  clear h1 hc1 h2 hc2 hs1 hs2 hb
  go_enter Try.func29, Try.ntmps29
  go_wp2_with fail
  refine HC.out.mono ?_
  rintro e w1 ⟨rfl, hb1⟩
  go_wp2
  go_ret
  exact ⟨rfl, hb1⟩
set_option maxHeartbeats 4000000 in
set_option maxRecDepth 100000 in
theorem subtrees_Allowed.outside (B C : Nat) (A1 : Option Addr) (c1 : Nat) (n : List S35) (x : List (List S35)) (A : Option Addr) (c : Nat) (W : World)
    (hb : W.heap[B]? = some (.cells #[.slice A1 n.length c1] 27 (0, 0))) (hf : W.cell? ⟨C, 0, none⟩ = some (.func (.func 29) #[] #[.pointer (some ⟨B, 0, none⟩)])) (h1 : Kd.C k35 W A1 n.length n) (hc1 : n.length ≤ c1) (h2 : Kd.C (Kd.slice 35 k35) W A x.length x) (hc2 : x.length ≤ c) (hs1 : smallN n = true) (hs2 : smallL x = true) :
    Calls Try.prog 31 (#[.slice A x.length c] ++ #[.pointer (some ⟨C, 0, none⟩)]) W fun e w' => e = .returned (.bool (!amongN n x)) ∧ Below W.heap.size W w' := by
  show Calls Try.prog 31 #[.slice A x.length c, .pointer (some ⟨C, 0, none⟩)] W _
  have eg : ∀ args w, (callFunc 29 args).run Try.prog w = .ok (.enter 29 args) w := enters Try.func29 (by kernel_rfl) rfl
  have HC := Aside0.mk (ContainsFunc_L4 (underN n) _ _ eg A c x W h2 (fun y A0 c0 W' hm hbw hy hcy => subtrees_Allowed.under B A1 c1 n y A0 c0 W' ((hbw.block _ (Array.getElem?_eq_some_iff.1 hb).1).trans hb) (Kd.C_below h1 hbw) hc1 hy hcy hs1 (List.all_eq_true.1 hs2 y hm)))
  clear h1 hc1 h2 hc2 hs1 hs2 hb eg
  go_enter Try.func31, Try.ntmps31
  go_wp2_with fail
  refine HC.out.mono ?_
  rintro e w1 ⟨rfl, hb1⟩
  go_wp2
  go_ret
  exact ⟨rfl, hb1⟩
theorem all_not_any {α : Type} (p : α → Bool) (l : List α) : (!l.any fun x => !p x) = l.all p := by
  induction l with
  | nil => rfl
  | cons x l ih => simp only [List.any_cons, List.all_cons, Bool.not_or, Bool.not_not, ih]
set_option maxHeartbeats 4000000 in
set_option maxRecDepth 100000 in
theorem subtrees_Allowed.calls (A0_0 : Option Addr) (c0_0 : Nat) (l0_0 : List (List (List S35))) (A0_1 : Option Addr) (c0_1 : Nat) (l0_1 : List (List S35)) (A1 : Option Addr) (c1 : Nat) (l1 : List S35) (r : Bool) (w : World) (hr0_0 : Kd.C (Kd.slice 27 (Kd.slice 35 k35)) w A0_0 l0_0.length l0_0) (hc0_0 : l0_0.length ≤ c0_0) (hr0_1 : Kd.C (Kd.slice 35 k35) w A0_1 l0_1.length l0_1) (hc0_1 : l0_1.length ≤ c0_1) (hr1 : Kd.C k35 w A1 l1.length l1) (hc1 : l1.length ≤ c1) (h : subtrees_Allowed.f l0_0 l0_1 l1 = some r) :
    Calls Try.prog 15 #[.agg #[.slice A0_0 l0_0.length c0_0, .slice A0_1 l0_1.length c0_1], .slice A1 l1.length c1] w fun e w' => e = .returned (.bool r) ∧ Below w.heap.size w w' := by
  have hu := Try.underlying25
  have HR0 := Aside0.mk hr0_0
  have HR1 := Aside0.mk hr0_1
  have HR2 := Aside0.mk hr1
  have HC0 := Aside0.mk hc0_0
  have HC1 := Aside0.mk hc0_1
  have HC2 := Aside0.mk hc1
  have H := Aside0.mk h
  have EG := Aside0.mk (fun args w => enters Try.func31 (by kernel_rfl) rfl args w : ∀ args w, (callFunc 31 args).run Try.prog w = .ok (.enter 31 args) w)
  clear hr0_0 hr0_1 hr1 hc0_0 hc0_1 hc1 h
  go_enter Try.func15, Try.ntmps15
  go_wp2_with fail
  obtain ⟨W3, hW3⟩ : ∃ W : World, W = (((w.alloc (.cells #[.slice A0_0 l0_0.length c0_0, .slice A0_1 l0_1.length c0_1] 25)).alloc (.cells #[.slice A1 l1.length c1] 27)).alloc (.cells #[.func (.func 29) #[] #[.pointer (some ⟨w.heap.size + 1, 0, none⟩)]] 68)) := ⟨_, rfl⟩
  rw [← hW3]
  have hb : W3.heap[w.heap.size + 1]? = some (.cells #[.slice A1 l1.length c1] 27 (0, 0)) := by
    rw [hW3]
    refine blk_alloc ?_ _
    simpa using heap_alloc_new (w.alloc (.cells #[.slice A0_0 l0_0.length c0_0, .slice A0_1 l0_1.length c0_1] 25)) (.cells #[.slice A1 l1.length c1] 27)
  have hb0 : W3.heap[w.heap.size]? = some (.cells #[.slice A0_0 l0_0.length c0_0, .slice A0_1 l0_1.length c0_1] 25 (0, 0)) := by
    rw [hW3]
    exact blk_alloc (blk_alloc (heap_alloc_new w _) _) _
  have hb2 : W3.heap[w.heap.size + 1 + 1]? = some (.cells #[.func (.func 29) #[] #[.pointer (some ⟨w.heap.size + 1, 0, none⟩)]] 68 (0, 0)) := by
    rw [hW3]
    simpa using heap_alloc_new ((w.alloc (.cells #[.slice A0_0 l0_0.length c0_0, .slice A0_1 l0_1.length c0_1] 25)).alloc (.cells #[.slice A1 l1.length c1] 27)) (.cells #[.func (.func 29) #[] #[.pointer (some ⟨w.heap.size + 1, 0, none⟩)]] 68)
  have hf : W3.cell? ⟨w.heap.size + 1 + 1, 0, none⟩ = some (.func (.func 29) #[] #[.pointer (some ⟨w.heap.size + 1, 0, none⟩)]) := (blk_cell hb2 0).trans rfl
  have q0 : W3.cell? ⟨w.heap.size, 0, none⟩ = some (.slice A0_0 l0_0.length c0_0) := (blk_cell hb0 0).trans rfl
  have q1 : W3.cell? ⟨w.heap.size, 1, none⟩ = some (.slice A0_1 l0_1.length c0_1) := (blk_cell hb0 1).trans rfl
  clear hb0 hb2
  have hz : W3.heap.size = w.heap.size + 3 := by rw [hW3]; simp
  have HW := Aside0.mk (show Below w.heap.size w W3 by rw [hW3]; exact ((((Below.refl _ _).alloc (Nat.le_refl _) _).alloc (by simp) _).alloc (by simp; omega) _))
  have h' := H.out
  clear hW3 H
  unfold subtrees_Allowed.f at h'
  split at h'
  case isFalse => cases h'
  case isTrue hs =>
  obtain ⟨hs1, hs2, hs3⟩ := hs
  have hr := Option.some.inj h'
  have HR := Aside0.mk hr
  clear h' hr
  have HO := Aside0.mk (fun (x : List (List S35)) (A : Option Addr) (c : Nat) (W : World) (hbw : Below W3.heap.size W3 W) (hC : Kd.C (Kd.slice 35 k35) W A x.length x) (hcx : x.length ≤ c) (hsx : smallL x = true) => subtrees_Allowed.outside (w.heap.size + 1) (w.heap.size + 1 + 1) A1 c1 l1 x A c W ((hbw.block _ (by omega)).trans hb) ((hbw.cell (p := ⟨w.heap.size + 1 + 1, 0, none⟩) (by show w.heap.size + 1 + 1 < W3.heap.size; omega)).trans hf) (Kd.C_below HR2.out (HW.out.trans (hbw.mono (by omega)))) HC2.out hC hcx hs3 hsx)
  refine (ContainsFunc_L6 (fun l => !amongN l1 l) _ _ EG.out A0_0 c0_0 l0_0 W3 (Kd.C_below HR0.out HW.out) (fun x A c W hm hbw hC hcx => HO.out x A c W hbw hC hcx (List.all_eq_true.1 hs1 x hm))).mono ?_
  rintro e w1 ⟨rfl, hb1⟩
  have HB := Aside0.mk (HW.out.trans (hb1.mono (by omega)))
  have hz1 := hb1.size
  have p1 : w1.cell? ⟨w.heap.size, 1, none⟩ = some (.slice A0_1 l0_1.length c0_1) := (hb1.cell (p := ⟨w.heap.size, 1, none⟩) (by show w.heap.size < W3.heap.size; omega)).trans q1
  have HO1 := Aside0.mk (HO.out l0_1 A0_1 c0_1 w1 hb1 (Kd.C_below HR1.out HB.out) HC1.out hs2)
  have hall := all_not_any (amongN l1) l0_0
  clear HO hb hf q0 q1 hz HW hs1 hs2 hs3 EG HR0 HR1 HR2 hb1
  cases hq : l0_0.any (fun l => !amongN l1 l) with
  | true =>
    rw [hq] at hall
    have HA := Aside0.mk (show r = false by rw [← HR.out]; unfold allowedN; rw [← hall]; rfl)
    clear hall hq HO1
    go_wp2
    go_ret
    exact ⟨congrArg (fun b => Ending.returned (.bool b)) HA.out.symm, HB.out⟩
  | false =>
    rw [hq] at hall
    have HA := Aside0.mk (show r = !amongN l1 l0_1 by rw [← HR.out]; unfold allowedN; rw [← hall]; rfl)
    clear hall hq
    go_wp2_with fail
    refine HO1.out.mono ?_
    rintro e w2 ⟨rfl, hb2⟩
    have HB2 := Aside0.mk (below_then HB.out HB.out.size hb2)
    clear hb2
    go_wp2
    go_ret
    exact ⟨congrArg (fun b => Ending.returned (.bool b)) HA.out.symm, HB2.out⟩

/-! ### slices_Clone_int_int: function 50 (by hand) -/
def slices_Clone_int_int.f (l0 : List Int) : Option (List Int) := if l0.length < 17592186044416 then some l0 else none
set_option maxHeartbeats 4000000 in
set_option maxRecDepth 100000 in
theorem slices_Clone_int_int.calls (A0 : Option Addr) (c0 : Nat) (l0 : List Int) (r : List Int) (w : World) (hr0 : Kd.C (Kd.int .i64) w A0 l0.length l0) (hc0 : l0.length ≤ c0) (h : slices_Clone_int_int.f l0 = some r) :
    Calls Try.prog 50 #[.slice A0 l0.length c0] w fun e w' => ∃ v0_ : Value, e = .returned (v0_) ∧ Kd.R (Kd.int .i64) 3 w' w.heap.size (fun _ => True) v0_ r ∧ Below w.heap.size w w' := by
  unfold slices_Clone_int_int.f at h
  split at h
  case isFalse => cases h
  case isTrue hl =>
  cases h
  obtain ⟨i0, hi, hz0, hz1, hz2⟩ := info_parts info3
  have HR := Aside0.mk hr0
  clear hr0
  have hnil : ∀ a n c w, (binOp .eql 33 (.slice a n c) (.slice none 0 0)).run Try.prog w = .ok (.bool a.isNone) w := fun a n c w => Lib.run_eql_slice_nil w _ _ a n c 0 0 Try.underlying33
  cases A0 with
  | none =>
    have h0 : l0 = [] := by
      by_cases hp : 0 < l0.length
      · obtain ⟨ad, e, _⟩ := HR.out.2.2 hp
        cases e
      · exact List.eq_nil_of_length_eq_zero (by omega)
    subst h0
    clear HR hl
    go_enter Try.func50, Try.ntmps50
    go_wp2
    go_ret
    exact ⟨_, rfl, Kd.R_nil _ _ _ _ _, Below.refl _ _⟩
  | some ad =>
    have hn := HR.out.2.1
    have hcell : ∀ j u, (encs (Value.int .i64) l0)[j]? = some u → w.cell? (ad.add j) = some u := fun j u hj => by
      have hlt : j < l0.length := by have := (List.getElem?_eq_some_iff.1 hj).1; simpa [encs] using this
      obtain ⟨ad', e, hc⟩ := HR.out.2.2 (by omega)
      cases e
      obtain ⟨c, hcl, hK, hcc⟩ := hc j _ (List.getElem?_eq_getElem hlt)
      have hK' : c = [(Value.int .i64) l0[j]] := hK
      subst hK'
      have h2 := hcc 0 _ rfl
      have h3 : u = (Value.int .i64) l0[j] := by simpa [encs, hlt] using hj.symm
      rw [h3]
      have e1 : ((Kd.int .i64)).sz = 1 := rfl
      rw [e1, Nat.mul_one, Nat.add_zero] at h2
      exact h2
    have HCELL := Aside0.mk hcell
    clear hcell HR
    go_enter Try.func50, Try.ntmps50
    go_wp2_with (at_builtin; refine wpList_append_own _ rfl _ _ 33 rfl w.heap.size 3 i0 ((.int .i64 0)) 1 8 Try.underlying33 hi hz0 hz1 hz2 rfl (by decide) _ 0 [] rfl ⟨rfl, .inr ⟨w.heap.size, 0, #[], rfl, Nat.le_refl _, (by simpa using heap_alloc_new w (.cells #[] 3)), Nat.le_refl _, Nat.zero_le _, rfl, rfl⟩⟩ ad l0.length c0 (encs (Value.int .i64) l0) rfl (by simp [encs]) ?c1 ?c2 ?c3 ?c4 ?c5 ?_)
    case c1 => exact fun j u hj => pw_cell_below (below_alloc (Below.refl _ _) _) (HCELL.out j u hj)
    case c2 => exact fun u hu => by simp only [encs, List.mem_map] at hu; obtain ⟨x, _, rfl⟩ := hu; rfl
    case c3 => unfold maxLen; omega
    case c4 => omega
    case c5 => simp
    intro v' w1 hown hgrow _
    have hb := Aside0.mk (pw_below_grown (below_alloc (Below.refl w.heap.size w) (.cells #[] 3)) _ (by simp) hgrow (fun g hg => by simp [Value.ownBlock] at hg; omega))
    have HO := Aside0.mk hown
    clear hown hgrow
    go_wp2
    go_ret
    exact ⟨_, rfl, Kd.R_of_own HO.out (fun _ _ => trivial), hb.out⟩

end Go.Proofs.Ytalcfnhcenpniaa.XU
