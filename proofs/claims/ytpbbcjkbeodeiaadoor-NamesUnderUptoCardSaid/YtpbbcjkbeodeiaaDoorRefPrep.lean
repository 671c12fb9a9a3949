/- The document's Prep at every text of at most 2^43 bytes: it hands back the text, prepared. -/
import Derived.Test.YtpbbcjkbeodeiaaDoorPl
import Derived.Test.YtpbbcjkbeodeiaaDoorProg
import Derived.Test.YtpbbcjkbeodeiaaDoorRunes
import Derived.Test.YtpbbcjkbeodeiaaDoorRefKinds
import Derived.Test.YtpbbcjkbeodeiaaDoorKind
import Derived.Lib.OthersKept
import Derived.WalkKit
import Derived.BigCall
import Derived.OwnWalk
import Derived.Deep.LoopGhost
import Derived.Laws.IdiomStrings
import Derived.Laws.Cover4
import Derived.Laws.OwnMore
import Derived.Outline
set_option linter.unusedVariables false
set_option linter.unusedSimpArgs false
namespace Go.Proofs.YtpbbcjkbeodeiaaDoor
open Go.RowKit Go.Proofs.YtpbbcjkbeodeiaaDoorW.PrintWords

/-! ### the plain part -/
theorem runesFrom_eq (s : ByteArray) : ∀ (n pos : Nat) (acc : Array Value), s.size ≤ pos + n → (Conv.runesFrom s n pos acc).toList = acc.toList ++ nums .i32 (Tx.runes (s.data.toList.drop pos))
  | 0, pos, acc, h => by
    have : s.data.toList.drop pos = [] := List.drop_eq_nil_of_le (by simpa using h)
    rw [this]
    simp [Conv.runesFrom, Tx.runes_nil, nums]
  | n + 1, pos, acc, h => by
    unfold Conv.runesFrom
    by_cases hp : pos < s.size
    · have hne : s.data.toList.drop pos ≠ [] := by
        intro e
        have := congrArg List.length e
        simp at this
        omega
      have hw : 1 ≤ (Utf8.decode s pos).2 := by rw [← Lib.decodeL_drop]; exact Lib.decodeL_width _
      rw [if_pos hp, Tx.runes_step _ hne, Lib.decodeL_drop, List.drop_drop]
      simp only
      rw [runesFrom_eq s n _ _ (by omega)]
      simp [nums]
    · rw [if_neg hp]
      have : s.data.toList.drop pos = [] := List.drop_eq_nil_of_le (by simpa using hp)
      rw [this]
      simp [Tx.runes_nil, nums]
theorem runesFrom_all (s : ByteArray) : (Conv.runesFrom s s.size 0 #[]).toList = nums .i32 (Tx.runes s.data.toList) := by
  have := runesFrom_eq s s.size 0 #[] (by omega)
  simpa using this
theorem encode_eq (r : Int) (h : Tx.Ok r) : Utf8.encode r = ⟨(Lib.encodeRune r).toArray⟩ := by
  unfold Tx.Ok at h
  have hv : Utf8.valid r = true := by unfold Utf8.valid; simp; omega
  unfold Utf8.encode Lib.encodeRune
  simp only [hv, if_true]
  by_cases a : r ≤ 127
  · rw [Lib.encodeRuneZ_one (by omega) a, if_pos (by omega)]
    simp
  by_cases b : r ≤ 2047
  · rw [Lib.encodeRuneZ_two (by omega) b, if_neg (by omega), if_pos (by omega)]
    simp
    constructor <;> (apply UInt8.toNat_inj.1; simp; omega)
  by_cases c : r ≤ 65535
  · rw [Lib.encodeRuneZ_three (by omega), if_neg (by omega), if_neg (by omega), if_pos (by omega)]
    simp
    refine ⟨?_, ?_, ?_⟩ <;> (apply UInt8.toNat_inj.1; simp; omega)
  · rw [Lib.encodeRuneZ_four (by omega) (by omega), if_neg (by omega), if_neg (by omega), if_neg (by omega)]
    simp
    refine ⟨?_, ?_, ?_, ?_⟩ <;> (apply UInt8.toNat_inj.1; simp; omega)
theorem runesBytes_go : ∀ (ns : List Int), (∀ r ∈ ns, Tx.Ok r) → ∀ s : ByteArray, (ns.foldl (fun r n => r ++ Utf8.encode n) s).data.toList = s.data.toList ++ Tx.enc ns
  | [], _, s => by simp [Tx.enc_nil]
  | n :: ns, h, s => by
    rw [List.foldl_cons, runesBytes_go ns (fun r hr => h r (by simp [hr])), Tx.enc_cons, encode_eq n (h n (by simp))]
    simp
theorem runesBytes_eq (ns : List Int) (h : ∀ r ∈ ns, Tx.Ok r) : runesBytes ns = ⟨(Tx.enc ns).toArray⟩ := by
  have := runesBytes_go ns h ByteArray.empty
  unfold runesBytes
  generalize ns.foldl (fun r n => r ++ Utf8.encode n) ByteArray.empty = x at this
  cases x with
  | mk d =>
    simp at this
    rw [← this]

def Good (a : List Int × Bool) : Prop := (a.2 = true → a.1 ≠ []) ∧ a.1.getLast? ≠ some 32
theorem good_nil : Good ([], false) := ⟨by simp, by simp⟩
theorem good_step (a : List Int × Bool) (c : Int) (h : Good a) : Good (Tx.pstep a c) := by
  obtain ⟨o, b⟩ := a
  obtain ⟨h1, h2⟩ := h
  unfold Tx.pstep
  split
  · refine ⟨?_, h2⟩
    cases o <;> simp
  · rename_i hc
    refine ⟨by simp, ?_⟩
    simp only [List.getLast?_append, List.getLast?_singleton]
    simpa using hc
theorem good_fold : ∀ (m : List Int) (a : List Int × Bool), Good a → Good (Tx.pfold a m)
  | [], a, h => h
  | c :: m, a, h => good_fold m _ (good_step a c h)
/-- a blank behind nothing, or behind a blank: left out. -/
theorem pout_skip (a : List Int × Bool) (h : Good a) (hs : Tx.pout a = [] ∨ (Tx.pout a).getLast? = some 32) : Tx.pout (Tx.pstep a 32) = Tx.pout a := by
  obtain ⟨o, b⟩ := a
  obtain ⟨h1, h2⟩ := h
  unfold Tx.pstep
  rw [if_pos rfl]
  cases b with
  | true =>
    have : o ≠ [] := h1 rfl
    cases o with
    | nil => exact absurd rfl this
    | cons _ _ => rfl
  | false =>
    have hs' : o = [] ∨ o.getLast? = some 32 := by simpa [Tx.pout] using hs
    rcases hs' with rfl | hs'
    · rfl
    · exact absurd hs' h2
theorem pout_blank (a : List Int × Bool) (h : Good a) (h0 : Tx.pout a ≠ []) (hs : (Tx.pout a).getLast? ≠ some 32) : Tx.pout (Tx.pstep a 32) = Tx.pout a ++ [32] := by
  obtain ⟨o, b⟩ := a
  unfold Tx.pstep
  rw [if_pos rfl]
  cases b with
  | true => exact absurd (by simp [Tx.pout]) hs
  | false =>
    have : o ≠ [] := by simpa [Tx.pout] using h0
    cases o with
    | nil => exact absurd rfl this
    | cons _ _ => simp [Tx.pout]
theorem pout_other (a : List Int × Bool) (c : Int) (hc : c ≠ 32) : Tx.pout (Tx.pstep a c) = Tx.pout a ++ [c] := by
  obtain ⟨o, b⟩ := a
  unfold Tx.pstep
  rw [if_neg hc]
  cases b <;> simp [Tx.pout]
theorem pout_end (a : List Int × Bool) (h : Good a) : a.1 = if (Tx.pout a).getLast? = some 32 then (Tx.pout a).take ((Tx.pout a).length - 1) else Tx.pout a := by
  obtain ⟨o, b⟩ := a
  obtain ⟨h1, h2⟩ := h
  cases b with
  | true => simp [Tx.pout]
  | false =>
    have : ¬ (Tx.pout (o, false)).getLast? = some 32 := by simpa [Tx.pout] using h2
    rw [if_neg this]
    rfl
theorem pfold_snoc (a : List Int × Bool) (m : List Int) (c : Int) : Tx.pfold a (m ++ [c]) = Tx.pstep (Tx.pfold a m) c := by
  rw [Tx.pfold_append]
  rfl
theorem take_snoc' (l : List Int) (k : Nat) (h : k < l.length) : l.take (k + 1) = l.take k ++ [l[k]] := by
  rw [List.take_succ_eq_append_getElem h]
theorem kinds_snoc (l : List Int) (c : Int) : Tx.kinds (l ++ [c]) = Tx.kinds l ++ (if 0 ≤ Tx.kind c then [Tx.kind c] else []) := by
  rw [Tx.kinds_append, Tx.kinds_cons, Tx.kinds_nil, List.append_nil]
theorem getLast_at (l : List Int) (h : l ≠ []) : l.getLast? = some (l.getD (l.length - 1) 0) := by
  rw [List.getLast?_eq_getElem?]
  have : l.length - 1 < l.length := by have := List.length_pos_iff.2 h; omega
  simp [List.getD, List.getElem?_eq_getElem this]
theorem pout_length (m : List Int) : ∀ (a : List Int × Bool), (Tx.pout (Tx.pfold a m)).length ≤ (Tx.pout a).length + m.length := by
  induction m with
  | nil => intro a; simp [Tx.pfold_nil]
  | cons c m ih =>
    intro a
    rw [Tx.pfold_cons]
    have h := ih (Tx.pstep a c)
    have h2 : (Tx.pout (Tx.pstep a c)).length ≤ (Tx.pout a).length + 1 := by
      obtain ⟨o, b⟩ := a
      unfold Tx.pstep Tx.pout
      split
      · cases o <;> cases b <;> simp
      · cases b <;> simp
    simp only [List.length_cons]
    omega

theorem nothing_yes (c : Int) (w : World) (h0 : 0 ≤ c) (h1 : c ≤ 1114143) (h : Tx.nothing c) : Calls Tryd.prog 44 #[.int .i32 c] w fun e w' => e = .returned (.bool true) ∧ w = w' := by
  have := nothing_any c w h0 h1
  rwa [decide_eq_true h] at this
theorem nothing_no (c : Int) (w : World) (h0 : 0 ≤ c) (h1 : c ≤ 1114143) (h : ¬ Tx.nothing c) : Calls Tryd.prog 44 #[.int .i32 c] w fun e w' => e = .returned (.bool false) ∧ w = w' := by
  have := nothing_any c w h0 h1
  rwa [decide_eq_false h] at this
theorem great_yes (c : Int) (w : World) (h0 : 0 ≤ c) (h1 : c ≤ 1114143) (h : Tx.great c) : Calls Tryd.prog 45 #[.int .i32 c] w fun e w' => e = .returned (.bool true) ∧ w = w' := by
  have := great_any c w h0 h1
  rwa [decide_eq_true h] at this
theorem great_no (c : Int) (w : World) (h0 : 0 ≤ c) (h1 : c ≤ 1114143) (h : ¬ Tx.great c) : Calls Tryd.prog 45 #[.int .i32 c] w fun e w' => e = .returned (.bool false) ∧ w = w' := by
  have := great_any c w h0 h1
  rwa [decide_eq_false h] at this
theorem blank_yes (c : Int) (w : World) (h0 : 0 ≤ c) (h1 : c ≤ 1114143) (h : Tx.blank c) : Calls Tryd.prog 46 #[.int .i32 c] w fun e w' => e = .returned (.bool true) ∧ w = w' := by
  have := blank_any c w h0 h1
  rwa [decide_eq_true h] at this
theorem blank_no (c : Int) (w : World) (h0 : 0 ≤ c) (h1 : c ≤ 1114143) (h : ¬ Tx.blank c) : Calls Tryd.prog 46 #[.int .i32 c] w fun e w' => e = .returned (.bool false) ∧ w = w' := by
  have := blank_any c w h0 h1
  rwa [decide_eq_false h] at this
/-- One new cell, and that it is one. -/
theorem new_cell (w : World) (t : TypeId) (v : Value) : ∀ j u, [v][j]? = some u → (w.alloc (.cells #[v] t)).cell? ((⟨w.heap.size, 0, none⟩ : Addr).add j) = some u := by
  intro j u hj
  match j, hj with
  | 0, hj => simp at hj; subst hj; simp [Addr.add]
  | j + 1, hj => simp at hj
theorem one_cell {k : IntKind} (n : Int) : ∀ u ∈ [Value.int k n], u.oneCell' = true := by
  intro u hu
  simp at hu
  subst hu
  rfl
theorem own_not {w : World} {b : Nat} {e : TypeId} {size n : Nat} {v : Value} {xs : List Value} (h : w.ownsRow (b + 1) e size v n xs) : some b ≠ v.ownBlock := by
  intro e'
  have := own_base h b e'.symm
  omega
/-- string(rs) of a slice of runes that is read. -/
theorem conv_runes (w : World) (A : Option Addr) (c : Nat) (xs : List Int) (h : ReadsInt w .i32 A xs.length xs) (l : Nat) (hl : l ≤ xs.length) :
    (convert 69 9 (.slice A l c)).run Tryd.prog w = .ok (.string (runesBytes (xs.take l))) w := by
  cases A with
  | none =>
    have : xs = [] := by
      by_cases h0 : 0 < xs.length
      · obtain ⟨ad, e, _⟩ := h.2.2 h0
        cases e
      · exact List.eq_nil_of_length_eq_zero (by omega)
    subst this
    rw [run_convert_runes_nil w _ _ _ _ _ Tryd.underlying69 Tryd.underlying21 Tryd.underlying9]
    simp [runesBytes]
  | some a =>
    refine run_convert_runes w _ _ _ a l c xs hl Tryd.underlying69 Tryd.underlying21 Tryd.underlying9 (fun j hj => ?_)
    obtain ⟨ad, e, hc⟩ := h.2.2 (by omega)
    cases e
    exact hc j hj
theorem own_cap {w : World} {b : Nat} {e : TypeId} {size n c : Nat} {A : Option Addr} {xs : List Value} (h : w.ownsRow b e size (.slice A n c) n xs) : n ≤ c := by
  rcases h.2 with ⟨h1, _⟩ | ⟨g, cap, cur, h1, _, _, h2, _⟩
  · cases h1
    exact Nat.le_refl _
  · cases h1
    exact h2
theorem infoI32 : (Tryd.prog.info? 21).map (fun i => (i.zero, i.size, i.bytes)) = some (some (.int .i32 0), 1, 4) := by kernel_rfl
theorem nums_at (k : IntKind) (xs : List Int) (j : Nat) (h : j < xs.length) : (nums k xs)[j]? = some (.int k (xs.getD j 0)) := by
  simp [nums, List.getD, List.getElem?_eq_getElem h]

set_option maxHeartbeats 8000000 in
set_option maxRecDepth 1000000 in
theorem refPrep_any (s : ByteArray) (w : World) (hs : s.size ≤ 8796093022208) :
    Calls Tryd.prog 20 #[.string s] w fun e w' => e = .returned (.string ⟨(Tx.prep s.data.toList).toArray⟩) ∧ Below w.heap.size w w' := by
  obtain ⟨i0, hi, hz0, hz1, hz2⟩ := info_parts infoI32
  have hrl := Tx.runes_length s.data.toList
  have hsl : s.data.toList.length = s.size := by simp
  have hra := runesFrom_all s
  have hn : (Conv.runesFrom s s.size 0 #[]).size = (Tx.runes s.data.toList).length := by
    have := congrArg List.length hra
    simpa [nums] using this
  have hconv : ∀ W : World, (convert 9 69 (.string s)).run Tryd.prog W = .ok (.slice (some ⟨W.heap.size, 0, none⟩) (Tx.runes s.data.toList).length (grownCap W (Tx.runes s.data.toList).length 0 21)) (W.drew.alloc (.cells (Conv.runesFrom s s.size 0 #[] ++ Array.replicate (grownCap W (Tx.runes s.data.toList).length 0 21 - (Tx.runes s.data.toList).length) (.int .i32 0)) 21)) := fun W => by
    have := run_runes_of_string (P := Tryd.prog) W 9 69 21 s Tryd.underlying9 Tryd.underlying69 Tryd.underlying21 (by rw [hn]; omega)
    rw [hn] at this
    exact this
  have hcells : ∀ (c : Nat) (j : Nat), j < (Tx.runes s.data.toList).length → (Conv.runesFrom s s.size 0 #[] ++ Array.replicate c (.int .i32 0))[j]? = some (.int .i32 ((Tx.runes s.data.toList).getD j 0)) := fun c j hj => by
    rw [Array.getElem?_append_left (by rw [hn]; exact hj), ← Array.getElem?_toList, hra]
    exact nums_at .i32 _ j hj
  have hoks := Tx.runes_ok s.data.toList
  have HPREP := Aside0.mk (show Tx.prep s.data.toList = Tx.enc (Tx.norm (Tx.kinds (Tx.runes s.data.toList))) from rfl)
  have HRL := Aside0.mk (show (Tx.runes s.data.toList).length ≤ 8796093022208 by omega)
  have HOK := Aside0.mk hoks
  have HCELLS := Aside0.mk hcells
  clear hra hn hsl hrl hoks hcells
  generalize Tx.prep s.data.toList = P at *
  generalize Tx.runes s.data.toList = rs at *
  generalize Conv.runesFrom s s.size 0 #[] = A at *
  have hrl := HRL.out
  go_enter Tryd.func20, Tryd.ntmps20
  go_wp2
  have hrow := Aside0.mk (fun j hj => HCELLS.out (grownCap w rs.length 0 21 - rs.length) j hj)
  generalize A ++ Array.replicate (grownCap w rs.length 0 21 - rs.length) (Value.int IntKind.i32 0) = cur at hrow ⊢
  generalize grownCap w rs.length 0 21 = cap
  clear HCELLS hconv
  go_loopw [3, 5, 6] (fun v3 v5 v6 wr => ∃ k : Nat, k ≤ rs.length ∧ v5 = .int .i64 k ∧ wr.ownsRow (w.heap.size + 1) 21 1 v3 (Tx.kinds (rs.take k)).length (nums .i32 (Tx.kinds (rs.take k))) ∧ wr.heap[w.heap.size]? = some (.cells cur 21 (0, 0)) ∧ Below w.heap.size w wr ∧ w.heap.size + 1 ≤ wr.heap.size) (fun _ v5 _ _ => rs.length - (intOf v5).toNat)
  case atStart => exact ⟨0, Nat.zero_le _, rfl, ⟨by simp [nums, Tx.kinds], .inl ⟨rfl, by simp [Tx.kinds]⟩⟩, (show (w.alloc (.cells cur 21)).heap[w.heap.size]? = _ from heap_alloc_new w _), ((Below.refl _ w).alloc (Nat.le_refl _) _).drew, by simp⟩
  case round =>
    obtain ⟨k, hk, rfl, hown, hblk, hbw, hsz⟩ := hrel
    by_cases hlt : k < rs.length
    · have hltz : (k : Int) < (rs.length : Int) := by omega
      have hcell : wr.cell? ⟨w.heap.size, k, none⟩ = some (.int .i32 (rs.getD k 0)) := (blk_cell hblk k).trans (hrow.out k hlt)
      have hok := HOK.out (rs.getD k 0) (by rw [getD_eq _ _ _ hlt]; exact List.getElem_mem _)
      have hsn := Aside0.mk (show Tx.kinds (rs.take (k + 1)) = Tx.kinds (rs.take k) ++ (if 0 ≤ Tx.kind (rs.getD k 0) then [Tx.kind (rs.getD k 0)] else []) by rw [take_snoc' _ _ hlt, kinds_snoc, getD_eq _ _ _ hlt])
      generalize rs.getD k 0 = c at *
      have hc0 : 0 ≤ c := by unfold Tx.Ok at hok; omega
      have hc1 : c ≤ 1114111 := by unfold Tx.Ok at hok; omega
      clear hok
      have hml : (Tx.kinds (rs.take k)).length ≤ k := by
        unfold Tx.kinds
        refine Nat.le_trans (List.length_filter_le _ _) ?_
        simp
        omega
      by_cases cn : Tx.nothing c
      · have HN := Aside0.mk (fun W => nothing_yes c W hc0 (by omega) cn)
        have hsame : Tx.kinds (rs.take (k + 1)) = Tx.kinds (rs.take k) := by rw [hsn.out, kind_nothing cn, if_neg (by omega), List.append_nil]
        rw [← hsame] at hown
        have hfin := Aside0.mk hown
        clear hown hsn cn hsame hml
        go_wp2_with (go_at_call 44; refine (HN.out _).mono ?_; rintro e w' ⟨rfl, rfl⟩)
        go_roundw
        case rel => exact ⟨k + 1, by omega, by go_num, hfin.out, hblk, hbw, hsz⟩
        case measure => simp [intOf]; omega
      have HN := Aside0.mk (fun W => nothing_no c W hc0 (by omega) cn)
      by_cases cg : Tx.great c
      · have HG := Aside0.mk (fun W => great_yes c W hc0 (by omega) cg)
        have HB := Aside0.mk (fun W => blank_no (c + 32) W (by omega) (by omega) (by unfold Tx.blank; unfold Tx.great at cg; omega))
        have hk1 := Aside0.mk (kind_great cg)
        have hk2 : 0 ≤ (c + 32) := by omega
        clear cg cn
        go_wp2_with (first | (go_at_call 44; refine (HN.out _).mono ?_; rintro e w' ⟨rfl, rfl⟩) | (go_at_call 45; refine (HG.out _).mono ?_; rintro e w' ⟨rfl, rfl⟩) | (go_at_call 46; refine (HB.out _).mono ?_; rintro e w' ⟨rfl, rfl⟩) | (at_builtin; refine wpList_append_own _ rfl _ _ 69 rfl (w.heap.size + 1) 21 i0 (.int .i32 0) 1 4 Tryd.underlying69 hi hz0 hz1 hz2 rfl (by decide) _ _ _ rfl (hown.alloc _) ⟨wr.heap.size, 0, none⟩ 1 1 [.int .i32 (c + 32)] rfl rfl ?c1 ?c2 ?c3 ?c4 ?c5 ?_))
        case c1 => exact new_cell _ _ _
        case c2 => exact one_cell _
        case c3 => unfold maxLen; omega
        case c4 => omega
        case c5 => simp; omega
        intro v' w1 hown' hgrow _
        have hblk' : w1.heap[w.heap.size]? = some (.cells cur 21 (0, 0)) := by
          rw [hgrow.block _ (by simp; omega) (own_not hown)]
          rw [Lib.alloc_old wr _ _ (by omega)]
          exact hblk
        have hbw' : Below w.heap.size w w1 := pw_below_grown (hbw.alloc (by omega) _) _ (by simp; omega) hgrow (fun g hg => by have := own_base hown g hg; omega)
        have hsz' : w.heap.size + 1 ≤ w1.heap.size := by have := hgrow.size; simp at this; omega
        have hfin := Aside0.mk (show w1.ownsRow (w.heap.size + 1) 21 1 v' (Tx.kinds (rs.take (k + 1))).length (nums .i32 (Tx.kinds (rs.take (k + 1)))) by
          rw [hsn.out, hk1.out, if_pos hk2, List.length_append, nums_append]
          exact hown')
        clear hown' hgrow hown hblk hbw
        go_wp2
        go_roundw
        case rel => exact ⟨k + 1, by omega, by go_num, hfin.out, hblk', hbw', hsz'⟩
        case measure => simp [intOf]; omega
      by_cases cb : Tx.blank c
      · have HG := Aside0.mk (fun W => great_no c W hc0 (by omega) cg)
        have HB := Aside0.mk (fun W => blank_yes c W hc0 (by omega) cb)
        have hk1 := Aside0.mk (kind_blank cb)
        have hk2 : (0 : Int) ≤ 32 := by omega
        clear cb cg cn
        go_wp2_with (first | (go_at_call 44; refine (HN.out _).mono ?_; rintro e w' ⟨rfl, rfl⟩) | (go_at_call 45; refine (HG.out _).mono ?_; rintro e w' ⟨rfl, rfl⟩) | (go_at_call 46; refine (HB.out _).mono ?_; rintro e w' ⟨rfl, rfl⟩) | (at_builtin; refine wpList_append_own _ rfl _ _ 69 rfl (w.heap.size + 1) 21 i0 (.int .i32 0) 1 4 Tryd.underlying69 hi hz0 hz1 hz2 rfl (by decide) _ _ _ rfl (hown.alloc _) ⟨wr.heap.size, 0, none⟩ 1 1 [.int .i32 32] rfl rfl ?c1 ?c2 ?c3 ?c4 ?c5 ?_))
        case c1 => exact new_cell _ _ _
        case c2 => exact one_cell _
        case c3 => unfold maxLen; omega
        case c4 => omega
        case c5 => simp; omega
        intro v' w1 hown' hgrow _
        have hblk' : w1.heap[w.heap.size]? = some (.cells cur 21 (0, 0)) := by
          rw [hgrow.block _ (by simp; omega) (own_not hown)]
          rw [Lib.alloc_old wr _ _ (by omega)]
          exact hblk
        have hbw' : Below w.heap.size w w1 := pw_below_grown (hbw.alloc (by omega) _) _ (by simp; omega) hgrow (fun g hg => by have := own_base hown g hg; omega)
        have hsz' : w.heap.size + 1 ≤ w1.heap.size := by have := hgrow.size; simp at this; omega
        have hfin := Aside0.mk (show w1.ownsRow (w.heap.size + 1) 21 1 v' (Tx.kinds (rs.take (k + 1))).length (nums .i32 (Tx.kinds (rs.take (k + 1)))) by
          rw [hsn.out, hk1.out, if_pos hk2, List.length_append, nums_append]
          exact hown')
        clear hown' hgrow hown hblk hbw
        go_wp2
        go_roundw
        case rel => exact ⟨k + 1, by omega, by go_num, hfin.out, hblk', hbw', hsz'⟩
        case measure => simp [intOf]; omega
      · have HG := Aside0.mk (fun W => great_no c W hc0 (by omega) cg)
        have HB := Aside0.mk (fun W => blank_no c W hc0 (by omega) cb)
        have hk1 := Aside0.mk (kind_else cn cb cg)
        have hk2 : 0 ≤ c := by omega
        clear cb cg cn
        go_wp2_with (first | (go_at_call 44; refine (HN.out _).mono ?_; rintro e w' ⟨rfl, rfl⟩) | (go_at_call 45; refine (HG.out _).mono ?_; rintro e w' ⟨rfl, rfl⟩) | (go_at_call 46; refine (HB.out _).mono ?_; rintro e w' ⟨rfl, rfl⟩) | (at_builtin; refine wpList_append_own _ rfl _ _ 69 rfl (w.heap.size + 1) 21 i0 (.int .i32 0) 1 4 Tryd.underlying69 hi hz0 hz1 hz2 rfl (by decide) _ _ _ rfl (hown.alloc _) ⟨wr.heap.size, 0, none⟩ 1 1 [.int .i32 c] rfl rfl ?c1 ?c2 ?c3 ?c4 ?c5 ?_))
        case c1 => exact new_cell _ _ _
        case c2 => exact one_cell _
        case c3 => unfold maxLen; omega
        case c4 => omega
        case c5 => simp; omega
        intro v' w1 hown' hgrow _
        have hblk' : w1.heap[w.heap.size]? = some (.cells cur 21 (0, 0)) := by
          rw [hgrow.block _ (by simp; omega) (own_not hown)]
          rw [Lib.alloc_old wr _ _ (by omega)]
          exact hblk
        have hbw' : Below w.heap.size w w1 := pw_below_grown (hbw.alloc (by omega) _) _ (by simp; omega) hgrow (fun g hg => by have := own_base hown g hg; omega)
        have hsz' : w.heap.size + 1 ≤ w1.heap.size := by have := hgrow.size; simp at this; omega
        have hfin := Aside0.mk (show w1.ownsRow (w.heap.size + 1) 21 1 v' (Tx.kinds (rs.take (k + 1))).length (nums .i32 (Tx.kinds (rs.take (k + 1)))) by
          rw [hsn.out, hk1.out, if_pos hk2, List.length_append, nums_append]
          exact hown')
        clear hown' hgrow hown hblk hbw
        go_wp2
        go_roundw
        case rel => exact ⟨k + 1, by omega, by go_num, hfin.out, hblk', hbw', hsz'⟩
        case measure => simp [intOf]; omega
    · have hltz : ¬ (k : Int) < (rs.length : Int) := by omega
      obtain rfl : k = rs.length := by omega
      rw [List.take_length] at hown
      have hml : (Tx.kinds rs).length ≤ rs.length := by
        unfold Tx.kinds
        refine Nat.le_trans (List.length_filter_le _ _) ?_
        simp
      have hmo := Aside0.mk (fun c hc => (Tx.kinds_mem HOK.out c hc).1)
      have hnm := Aside0.mk (show Tx.norm (Tx.kinds rs) = (Tx.pfold ([], false) (Tx.kinds rs)).1 from rfl)
      have hno := Aside0.mk (fun c hc => (Tx.norm_mem HOK.out c hc).1)
      generalize Tx.kinds rs = m at *
      obtain ⟨A3, c3, rfl, hrd⟩ := own_reads hown
      have HRD := Aside0.mk hrd
      clear hown hblk hrd HOK hrow
      obtain ⟨wo, rfl⟩ : ∃ wo : World, wo = wr := ⟨_, rfl⟩
      go_wp2
      go_loopw [7, 8] (fun v7 v8 wr => ∃ k : Nat, k ≤ m.length ∧ v8 = .int .i64 k ∧ wr.ownsRow wo.heap.size 21 1 v7 (Tx.pout (Tx.pfold ([], false) (m.take k))).length (nums .i32 (Tx.pout (Tx.pfold ([], false) (m.take k)))) ∧ Below wo.heap.size wo wr) (fun _ v8 _ => m.length - (intOf v8).toNat)
      case atStart => exact ⟨0, Nat.zero_le _, rfl, ⟨by simp [nums, Tx.pout, Tx.pfold_nil], .inl ⟨rfl, by simp [Tx.pout, Tx.pfold_nil]⟩⟩, Below.refl _ _⟩
      case round =>
        obtain ⟨k, hk, rfl, hown2, hbo⟩ := hrel
        have hgood := good_fold (m.take k) _ good_nil
        have hol := pout_length (m.take k) ([], false)
        have hol2 : (Tx.pout (Tx.pfold ([], false) (m.take k))).length ≤ k := by
          simp [Tx.pout] at hol ⊢
          omega
        clear hol
        obtain ⟨A7, c7, rfl, hrd2⟩ := own_reads hown2
        by_cases hlt : k < m.length
        · have hltz : (k : Int) < (m.length : Int) := by omega
          have hlt2 : k < m.length := hlt
          obtain ⟨ad, rfl, hx⟩ := HRD.out.at_ (k : Int) (by omega) (by omega)
          replace hx := (hbo.cell (World.block_lt_of_cell? _ _ hx)).trans hx
          have hrk : rd m (k : Int) = m[k] := by unfold rd; rw [Int.toNat_natCast]; exact getD_eq _ _ _ hlt
          have hsn := Aside0.mk (show Tx.pfold ([], false) (m.take (k + 1)) = Tx.pstep (Tx.pfold ([], false) (m.take k)) (rd m (k : Int)) by rw [take_snoc' _ _ hlt, pfold_snoc, hrk])
          clear hrk
          rw [Int.toNat_natCast] at hx
          generalize rd m (k : Int) = c at *
          generalize Tx.pfold ([], false) (m.take k) = a at *
          by_cases h32 : c = 32
          · subst h32
            by_cases ho : Tx.pout a = []
            · have h0 : (((Tx.pout a).length : Int) == 0) = true := by rw [ho]; rfl
              have HO := Aside0.mk ho
              have HG := Aside0.mk hgood
              clear ho hgood hol2
              have hsame : Tx.pout (Tx.pfold ([], false) (m.take (k + 1))) = Tx.pout a := by rw [hsn.out, pout_skip _ HG.out (.inl HO.out)]
              rw [← hsame] at hown2
              have hfin := Aside0.mk hown2
              have hls := Aside0.mk hsame
              clear hown2 hrd2 hsame
              go_wp2
              go_roundw
              case rel => exact ⟨k + 1, by omega, by go_num, by have h := hfin.out; rw [hls.out] at h ⊢; exact h, hbo⟩
              case measure => simp [intOf]; omega

            · have h0 : (((Tx.pout a).length : Int) == 0) = false := by
                have := List.length_pos_iff.2 ho
                exact beq_eq_false_iff_ne.2 (by omega)
              have hpos := List.length_pos_iff.2 ho
              obtain ⟨ad7, rfl, hx7⟩ := hrd2.at_ (((Tx.pout a).length : Int) - 1) (by omega) (by omega)
              have hla := getLast_at (Tx.pout a) ho
              have hti : (((Tx.pout a).length : Int) - 1).toNat = (Tx.pout a).length - 1 := by omega
              unfold rd at hx7
              rw [hti] at hx7
              clear hti
              have HG := Aside0.mk hgood
              have HO := Aside0.mk ho
              clear ho hgood
              by_cases hl : (Tx.pout a).getD ((Tx.pout a).length - 1) 0 = 32
              · rw [hl] at hx7 hla
                have HL := Aside0.mk hla
                clear hla hl
                have hsame : Tx.pout (Tx.pfold ([], false) (m.take (k + 1))) = Tx.pout a := by rw [hsn.out, pout_skip _ HG.out (.inr HL.out)]
                rw [← hsame] at hown2
                have hfin := Aside0.mk hown2
                have hls := Aside0.mk hsame
                clear hown2 hrd2 hsame
                go_wp2
                go_roundw
                case rel => exact ⟨k + 1, by omega, by go_num, by have h := hfin.out; rw [hls.out] at h ⊢; exact h, hbo⟩
                case measure => simp [intOf]; omega

              · have hlb : ((Tx.pout a).getD ((Tx.pout a).length - 1) 0 == 32) = false := beq_eq_false_iff_ne.2 hl
                have HL := Aside0.mk (show (Tx.pout a).getLast? ≠ some 32 by rw [hla]; exact fun e => hl (Option.some.inj e))
                clear hla hl
                generalize (Tx.pout a).getD ((Tx.pout a).length - 1) 0 = q at *
                go_wp2_with (at_builtin; refine wpList_append_own _ rfl _ _ 69 rfl wo.heap.size 21 i0 (.int .i32 0) 1 4 Tryd.underlying69 hi hz0 hz1 hz2 rfl (by decide) _ _ _ rfl (hown2.alloc _) ⟨wr.heap.size, 0, none⟩ 1 1 [.int .i32 32] rfl rfl ?c1 ?c2 ?c3 ?c4 ?c5 ?_)
                case c1 => exact new_cell _ _ _
                case c2 => exact one_cell _
                case c3 => unfold maxLen; omega
                case c4 => omega
                case c5 => have := hbo.size; simp; omega
                intro v' w1 hown' hgrow _
                have hbo' : Below wo.heap.size wo w1 := pw_below_grown (hbo.alloc hbo.size _) _ (by have := hbo.size; simp; omega) hgrow (fun g hg => own_base hown2 g hg)
                have hfin := Aside0.mk (show w1.ownsRow wo.heap.size 21 1 v' (Tx.pout (Tx.pfold ([], false) (m.take (k + 1)))).length (nums .i32 (Tx.pout (Tx.pfold ([], false) (m.take (k + 1))))) by
                  rw [hsn.out, pout_blank _ HG.out HO.out HL.out, List.length_append, nums_append]
                  exact hown')
                clear hown' hgrow hown2 hbo hrd2
                go_wp2
                go_roundw
                case rel => exact ⟨k + 1, by omega, by go_num, hfin.out, hbo'⟩
                case measure => simp [intOf]; omega

          · have h32b : (c == 32) = false := beq_eq_false_iff_ne.2 h32
            have HC := Aside0.mk h32
            clear h32 hgood
            go_wp2_with (at_builtin; refine wpList_append_own _ rfl _ _ 69 rfl wo.heap.size 21 i0 (.int .i32 0) 1 4 Tryd.underlying69 hi hz0 hz1 hz2 rfl (by decide) _ _ _ rfl (hown2.alloc _) ⟨wr.heap.size, 0, none⟩ 1 1 [.int .i32 c] rfl rfl ?c1 ?c2 ?c3 ?c4 ?c5 ?_)
            case c1 => exact new_cell _ _ _
            case c2 => exact one_cell _
            case c3 => unfold maxLen; omega
            case c4 => omega
            case c5 => have := hbo.size; simp; omega
            intro v' w1 hown' hgrow _
            have hbo' : Below wo.heap.size wo w1 := pw_below_grown (hbo.alloc hbo.size _) _ (by have := hbo.size; simp; omega) hgrow (fun g hg => own_base hown2 g hg)
            have hfin := Aside0.mk (show w1.ownsRow wo.heap.size 21 1 v' (Tx.pout (Tx.pfold ([], false) (m.take (k + 1)))).length (nums .i32 (Tx.pout (Tx.pfold ([], false) (m.take (k + 1))))) by
              rw [hsn.out, pout_other _ _ HC.out, List.length_append, nums_append]
              exact hown')
            clear hown' hgrow hown2 hbo hrd2
            go_wp2
            go_roundw
            case rel => exact ⟨k + 1, by omega, by go_num, hfin.out, hbo'⟩
            case measure => simp [intOf]; omega

        · have hltz : ¬ (k : Int) < (m.length : Int) := by omega
          obtain rfl : k = m.length := by omega
          rw [List.take_length] at *
          have hend := pout_end _ hgood
          have HN := Aside0.mk (hnm.out)
          have hconv2 := conv_runes wr A7 c7 _ hrd2
          have hoko : ∀ r ∈ (Tx.pfold ([], false) m).1, Tx.Ok r := by rw [← HN.out]; exact hno.out
          have HBEL := Aside0.mk (hbw.trans (hbo.mono (by omega)))
          have HP := Aside0.mk (show P = Tx.enc (Tx.pfold ([], false) m).1 from by rw [HPREP.out, HN.out])
          have HOO := Aside0.mk hoko
          have hle := own_cap hown2
          clear hown2 hoko hbw hbo hgood
          generalize Tx.pfold ([], false) m = a at *
          by_cases ho : Tx.pout a = []
          · have hlen : (Tx.pout a).length = 0 := by rw [ho]; rfl
            have ha1 : a.1 = [] := by rw [hend, ho]; simp
            have hres := Aside0.mk (show (Value.string ⟨P.toArray⟩) = .string (runesBytes ((Tx.pout a).take 0)) by rw [HP.out, ha1]; rfl)
            have hcv := hconv2 0 (Nat.zero_le _)
            rw [hlen]
            clear hconv2 hrd2 hend ho ha1 hlen hol2
            go_wp2
            go_ret
            exact ⟨congrArg Ending.returned hres.out.symm, HBEL.out⟩
          · have hpos := List.length_pos_iff.2 ho
            obtain ⟨ad7, rfl, hx7⟩ := hrd2.at_ (((Tx.pout a).length : Int) - 1) (by omega) (by omega)
            have hla := getLast_at (Tx.pout a) ho
            have hti : (((Tx.pout a).length : Int) - 1).toNat = (Tx.pout a).length - 1 := by omega
            unfold rd at hx7
            rw [hti] at hx7
            by_cases hl : (Tx.pout a).getD ((Tx.pout a).length - 1) 0 = 32
            · rw [hl] at hx7 hla
              rw [if_pos hla] at hend
              have hcv := hconv2 ((Tx.pout a).length - 1) (by omega)
              have hres := Aside0.mk (show (Value.string ⟨P.toArray⟩) = .string (runesBytes ((Tx.pout a).take ((Tx.pout a).length - 1))) by
                rw [← hend, runesBytes_eq _ HOO.out, HP.out])
              clear hconv2 hrd2 hend ho hla hl hti
              go_wp2
              go_ret
              exact ⟨congrArg Ending.returned hres.out.symm, HBEL.out⟩
            · have hlb : ((Tx.pout a).getD ((Tx.pout a).length - 1) 0 == 32) = false := beq_eq_false_iff_ne.2 hl
              rw [if_neg (by rw [hla]; exact fun e => hl (Option.some.inj e))] at hend
              have hcv := hconv2 (Tx.pout a).length (Nat.le_refl _)
              have hres := Aside0.mk (show (Value.string ⟨P.toArray⟩) = .string (runesBytes (Tx.pout a)) by
                rw [← hend, runesBytes_eq _ HOO.out, HP.out])
              clear hconv2 hrd2 hend ho hla hl hti
              generalize (Tx.pout a).getD ((Tx.pout a).length - 1) 0 = q at *
              go_wp2
              go_ret
              exact ⟨congrArg Ending.returned hres.out.symm, HBEL.out⟩
end Go.Proofs.YtpbbcjkbeodeiaaDoor
