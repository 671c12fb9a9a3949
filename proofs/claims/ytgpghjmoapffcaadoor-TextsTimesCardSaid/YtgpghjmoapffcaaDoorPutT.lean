/- texts.PutTime, walked: the day's year, month and day are given as a contract of civil. No condition. -/
import Derived.Test.YtgpghjmoapffcaaDoorPl
import Derived.Test.YtgpghjmoapffcaaDoorProg
import Derived.WalkKit
import Derived.BigCall
import Derived.OwnWalk
import Derived.Deep.LoopGhost
import Derived.Laws.Cover4
import Derived.Laws.OwnMore
import Derived.Laws.AppendOwn
import Derived.Outline
import Derived.BigQuiet
set_option linter.unusedVariables false
set_option linter.unusedSimpArgs false
namespace Go.Proofs.YtgpghjmoapffcaaDoor
open Go.RowKit Go.Proofs.YtgpghjmoapffcaaDoorW.PrintWords
namespace PutT
def two (x : Int) : List Int := [(wrap64 (Int.tdiv x 10)) % 256, (Int.tmod x 10) % 256]
def items (y m d n : Int) : List Int := [Int.tmod y 100, m, d, wrap64 (Int.tdiv (Int.tmod n 86400) 3600), Int.tmod (wrap64 (Int.tdiv (Int.tmod n 86400) 60)) 60, Int.tmod n 60]
def head (y : Int) : List Int := [(wrap64 (Int.tdiv y 1000)) % 256, (Int.tmod (wrap64 (Int.tdiv y 100)) 10) % 256]
def raw (y m d s : Int) : List Int := head y ++ (items y m d s).flatMap two
def up (b : Int) : Int := (b + 48) % 256
def out (y m d s : Int) : List Int := (raw y m d s).map up ++ [90]
theorem raw_len (y m d s : Int) : (raw y m d s).length = 14 := rfl
theorem out_len (y m d s : Int) : (out y m d s).length = 15 := by simp [out, raw_len]
theorem flat_succ (l : List Int) (k : Nat) (h : k < l.length) : (l.take (k + 1)).flatMap two = (l.take k).flatMap two ++ two (l.getD k 0) := by
  rw [List.take_succ_eq_append_getElem h, getD_eq _ _ _ h, List.flatMap_append]
  simp
theorem flat_len (l : List Int) : (l.flatMap two).length = 2 * l.length := by
  induction l with
  | nil => rfl
  | cons x l ih => simp [two] at ih ⊢; omega
theorem two_cells (w : World) (t : TypeId) (a b : Value) : ∀ j u, [a, b][j]? = some u → (w.alloc (.cells #[a, b] t)).cell? ((⟨w.heap.size, 0, none⟩ : Addr).add j) = some u := by
  intro j u hj
  match j, hj with
  | 0, hj => simp at hj; subst hj; simp [Addr.add]
  | 1, hj => simp at hj; subst hj; simp [Addr.add]
  | j + 2, hj => simp at hj
theorem infoU8 : (Tryd.prog.info? 5).map (fun i => (i.zero, i.size, i.bytes)) = some (some (.int .u8 0), 1, 1) := by kernel_rfl
theorem put_up (l : List Int) (k : Nat) (h : k < l.length) : ((l.take k).map up ++ l.drop k).set k (up (l.getD k 0)) = (l.take (k + 1)).map up ++ l.drop (k + 1) := by
  rw [List.take_succ_eq_append_getElem h, getD_eq _ _ _ h, List.map_append]
  have hl : ((l.take k).map up).length = k := by simp; omega
  rw [List.set_append_right _ _ (by omega), hl]
  rw [List.drop_eq_getElem_cons h]
  simp only [Nat.sub_self, List.set_cons_zero, List.map_cons, List.map_nil, List.append_assoc, List.cons_append, List.nil_append]
theorem rd_up (l : List Int) (k : Nat) (h : k < l.length) : rd ((l.take k).map up ++ l.drop k) (k : Int) = l.getD k 0 := by
  have hl : ((l.take k).map up).length = k := by simp; omega
  unfold rd
  rw [Int.toNat_natCast, List.getD_eq_getElem?_getD, List.getElem?_append_right (by omega), hl, Nat.sub_self, List.getElem?_drop, Nat.add_zero, List.getD_eq_getElem?_getD]
theorem one_cell' (w : World) (t : TypeId) (v : Value) : ∀ j u, [v][j]? = some u → (w.alloc (.cells #[v] t)).cell? ((⟨w.heap.size, 0, none⟩ : Addr).add j) = some u := by
  intro j u hj
  match j, hj with
  | 0, hj => simp at hj; subst hj; simp [Addr.add]
  | j + 1, hj => simp at hj
theorem two_one {k : IntKind} (a b : Int) : ∀ u ∈ [Value.int k a, Value.int k b], u.oneCell' = true := by
  intro u hu
  simp at hu
  rcases hu with rfl | rfl <;> rfl
theorem run_at {P : Program} (w : World) (t e : TypeId) (n : Nat) (cs : Array Value) (k : IntKind) (i : Int) (v : Value) (h : P.underlying t = some (.array n e)) (h0 : 0 ≤ i) (ho : i < (n : Int)) (hv : cs[i.toNat]? = some v)
    (hz : ∀ W, (Go.sizeOf e).run P W = .ok 1 W) (hg : ∀ W, (Go.isAgg e).run P W = .ok false W) :
    (Instr.index t (.agg cs) (.int k i)).run P w = .ok v w := by
  have hn : (0 : Int) ≤ i ∧ (i : Int) < (n : Int) := by omega
  simp [Instr.index, run_underlying h, asIntOf, hn, go_sem, hv, hz, hg]
set_option maxHeartbeats 8000000 in
set_option maxRecDepth 1000000 in
theorem walk (a0 y m d : Int) (w : World) (c1 : ¬ a0 < (-631152000)) (c2 : ¬ 253402300799 < a0)
    (hciv : ∀ x W, x = wrap64 ((wrap64 (Int.tdiv (wrap64 (a0 + 631152000)) 86400)) - 7305) → Calls Tryd.prog 36 #[.int .i64 x] W fun e w' => e = .returned (.tuple #[.int .i64 y, .int .i64 m, .int .i64 d]) ∧ Drawn0 W w') :
    Calls Tryd.prog 17 #[.int .i64 a0] w fun e w' => ∃ v1_ : Value, e = .returned (.tuple #[.int .u8 (if y < 2050 then 23 else 24), v1_, .int .i64 0]) ∧ Kd.V (Kd.int .u8) 5 w' w.heap.size (fun k_ => w.heap.size ≤ k_) v1_ (if y < 2050 then (out y m d (wrap64 (a0 + 631152000))).drop 2 else out y m d (wrap64 (a0 + 631152000))) ∧ Below w.heap.size w w' := by
  obtain ⟨i0, hi, hz0, hz1, hz2⟩ := info_parts infoU8
  have HC := Aside0.mk hciv
  clear hciv
  have d1 : decide (a0 < (-631152000)) = false := decide_eq_false c1
  have d2 : decide (a0 > 253402300799) = false := decide_eq_false c2
  have C1 := Aside0.mk c1
  have C2 := Aside0.mk c2
  clear c1 c2
  go_enter Tryd.func17, Tryd.ntmps17
  go_upto_region 1 with (fail)
  go_wp2_with (go_at_call 36; refine (HC.out _ _ rfl).mono ?_; rintro e w1 ⟨rfl, hd1⟩)
  obtain ⟨nd, rfl⟩ := hd1
  go_wp2
  have hits : ∀ s : Int, items y m d s = [Int.tmod y 100, m, d, wrap64 (Int.tdiv (Int.tmod s 86400) 3600), Int.tmod (wrap64 (Int.tdiv (Int.tmod s 86400) 60)) 60, Int.tmod s 60] := fun _ => rfl
  have hraw : ∀ s : Int, raw y m d s = head y ++ (items y m d s).flatMap two := fun _ => rfl
  have hhead : head y = [(wrap64 (Int.tdiv y 1000)) % 256, (Int.tmod (wrap64 (Int.tdiv y 100)) 10) % 256] := rfl
  have HH := Aside0.mk hhead
  have HS := Aside0.mk (show wrap64 (a0 + 631152000) = wrap64 (a0 + 631152000) from rfl)
  generalize hs : wrap64 (a0 + 631152000) = s at *
  clear HS
  have HS := Aside0.mk hs
  clear hs
  have HR := Aside0.mk (hraw s)
  have HI := Aside0.mk (hits s)
  have HL := Aside0.mk (show (items y m d s).length = 6 from rfl)
  clear hits hraw hhead
  generalize y.tmod 100 = p0 at *
  generalize wrap64 ((s.tmod 86400).tdiv 3600) = p3 at *
  generalize (wrap64 ((s.tmod 86400).tdiv 60)).tmod 60 = p4 at *
  generalize s.tmod 60 = p5 at *
  obtain ⟨W0, hW0⟩ : ∃ W0 : World, W0 = w.drewN nd := ⟨_, rfl⟩
  have hB0 : Below w.heap.size w W0 := by rw [hW0]; exact pw_below_drewN (Below.refl _ _) nd
  have hS0 : W0.heap.size = w.heap.size := by rw [hW0]; simp
  rw [← hW0]
  have hl0 := Aside0.mk (World.ownsRow_lit (base := w.heap.size) (e := 5) (size := 1) W0 #[Value.int IntKind.u8 (wrap64 (y.tdiv 1000) % 256), Value.int IntKind.u8 ((wrap64 (y.tdiv 100)).tmod 10 % 256)] 2 (by omega) (by decide) rfl)
  have hBS := Aside0.mk (⟨hB0, hS0⟩ : Below w.heap.size w W0 ∧ W0.heap.size = w.heap.size)
  clear hB0 hS0 hW0
  go_loopw [9, 11, 51] (fun v9 v11 v51 wr => ∃ k : Nat, k ≤ 6 ∧ v51 = .int .i64 k ∧ Aside0 (wr.ownsRow w.heap.size 5 1 v9 (head y ++ ((items y m d s).take k).flatMap two).length (nums .u8 (head y ++ ((items y m d s).take k).flatMap two))) ∧ Aside0 (Below w.heap.size w wr ∧ w.heap.size ≤ wr.heap.size)) (fun _ _ v51 _ => 6 - (intOf v51).toNat)
  case atStart =>
    refine ⟨0, by omega, rfl, ⟨?_⟩, ⟨below_alloc hBS.out.1 _, by have := hBS.out.2; simp; omega⟩⟩
    rw [HH.out]
    exact hl0.out
  case round =>
    obtain ⟨k, hk, rfl, hown, hbel⟩ := hrel
    by_cases hlt : k < 6
    · have hfs := Aside0.mk (flat_succ (items y m d s) k (by rw [HL.out]; exact hlt))
      have hfl := Aside0.mk (show (head y ++ ((items y m d s).take k).flatMap two).length ≤ 14 by
        rw [List.length_append, flat_len, HH.out, List.length_take, HL.out]
        simp only [List.length_cons, List.length_nil]
        omega)
      obtain ⟨xs, hxs⟩ : ∃ xs : List Int, xs = head y ++ ((items y m d s).take k).flatMap two := ⟨_, rfl⟩
      rw [← hxs] at hown hfl
      have hown' := hown.out
      have HXS := Aside0.mk hxs
      clear hxs hown
      obtain ⟨x, hx⟩ : ∃ x : Int, x = (items y m d s).getD k 0 := ⟨_, rfl⟩
      have hcell : (#[Value.int IntKind.i64 p0, Value.int IntKind.i64 m, Value.int IntKind.i64 d, Value.int IntKind.i64 p3, Value.int IntKind.i64 p4, Value.int IntKind.i64 p5])[((k : Int)).toNat]? = some (.int .i64 x) := by
        rw [hx, HI.out]
        have hk6 : k = 0 ∨ k = 1 ∨ k = 2 ∨ k = 3 ∨ k = 4 ∨ k = 5 := by omega
        rcases hk6 with rfl | rfl | rfl | rfl | rfl | rfl <;> rfl
      have hidx := run_at (P := Tryd.prog) wr 57 3 6 _ .i64 (k : Int) _ (by kernel_rfl) (by omega) (by omega) hcell (fun W => by simp [go_sem, Tryd.sizeOf3]) (fun W => by simp [go_sem, Tryd.isAgg3])
      rw [← hx] at hfs
      clear hcell hx
      have hltz : (k : Int) < 6 := by omega
      go_wp2_with (at_builtin; refine wpList_append_own _ rfl _ _ 22 rfl w.heap.size 5 i0 (.int .u8 0) 1 1 Tryd.underlying22 hi hz0 hz1 hz2 rfl (by decide) _ _ _ rfl (hown'.alloc _) ⟨wr.heap.size, 0, none⟩ 2 2 [.int .u8 (wrap64 (x.tdiv 10) % 256), .int .u8 (x.tmod 10 % 256)] rfl rfl ?c1 ?c2 ?c3 ?c4 ?c5 ?_)
      try case c1 => exact two_cells _ _ _ _
      case c2 => first | exact two_one _ _ | exact ⟨rfl, rfl⟩
      case c3 => have := hfl.out; unfold maxLen; omega
      case c4 => have := hfl.out; omega
      case c5 => have := hbel.out.2; simp; omega
      intro v' w1 hown1 hgrow _
      have hsz1 := hgrow.size
      simp only [World.size_alloc] at hsz1
      have hbel1 : Aside0 (Below w.heap.size w w1 ∧ w.heap.size ≤ w1.heap.size) := ⟨pw_below_grown (below_alloc hbel.out.1 _) _ (by have := hbel.out.2; simp; omega) hgrow (fun g hg => own_base hown' g hg), by have := hbel.out.2; omega⟩
      have hfin : Aside0 (w1.ownsRow w.heap.size 5 1 v' (head y ++ ((items y m d s).take (k + 1)).flatMap two).length (nums .u8 (head y ++ ((items y m d s).take (k + 1)).flatMap two))) := ⟨by
        rw [hfs.out, ← List.append_assoc, ← HXS.out, List.length_append, nums_append]
        exact hown1⟩
      clear hown1 hgrow hown' hbel HXS hfs hfl hidx hsz1
      go_wp2
      go_roundw
      case rel => exact ⟨k + 1, by omega, by go_num, hfin, hbel1⟩
      case measure => simp [intOf]; omega
    · obtain rfl : k = 6 := by omega
      have hltz : ¬ (((6 : Nat) : Int) < 6) := by omega
      rw [← HL.out, List.take_length, ← HR.out, raw_len] at hown
      have HRL := Aside0.mk (raw_len y m d s)
      have HOUT := Aside0.mk (show out y m d s = (raw y m d s).map up ++ [90] from rfl)
      generalize raw y m d s = l at *
      rcases hown.out.2 with ⟨_, h0⟩ | ⟨g, cap, cur, rfl, hgb, _, hcap, _⟩
      · exact absurd h0 (by omega)
      clear HL HR HI HH hlt hltz hk
      go_wp2
      go_loopw [12, 66] (fun v12 v66 wr => ∃ k : Nat, k ≤ 14 ∧ v66 = .int .i64 k ∧ Aside0 (wr.ownsRow w.heap.size 5 1 (.slice (some ⟨g, 0, none⟩) 14 cap) 14 (nums .u8 ((l.take k).map up ++ l.drop k))) ∧ Aside0 (Below w.heap.size w wr ∧ w.heap.size ≤ wr.heap.size)) (fun _ v66 _ => 14 - (intOf v66).toNat)
      case atStart => exact ⟨0, by omega, rfl, hown, hbel⟩
      case round =>
        obtain ⟨k, hk, rfl, hown, hbel⟩ := hrel
        by_cases hlt : k < 14
        · have hltz : (k : Int) < 14 := by omega
          have hat := own_at hown.out (k : Int) (by omega) (by omega)
          have hst := Aside0.mk (own_store hown.out (k : Int) (up (l.getD k 0)))
          have hgk := Aside0.mk (put_up l k (by rw [HRL.out]; exact hlt))
          have hrd : rd ((l.take k).map up ++ l.drop k) (k : Int) = l.getD k 0 := rd_up l k (by rw [HRL.out]; exact hlt)
          rw [hrd] at hat
          obtain ⟨hc, hf⟩ := hat
          rw [Int.toNat_natCast] at hc hf
          have hup : up (l.getD k 0) = (l.getD k 0 + 48) % 256 := rfl
          rw [hup] at hst hgk
          clear hup hrd hown
          generalize l.getD k 0 = x at *
          go_wp2
          go_roundw
          case rel =>
            refine ⟨k + 1, by omega, by go_num, ⟨?_⟩, ⟨hbel.out.1.setCell hgb _, by simpa using hbel.out.2⟩⟩
            have h1 := hst.out.1
            rw [Int.toNat_natCast, hgk.out] at h1
            exact h1
          case measure => simp [intOf]; omega
        · obtain rfl : k = 14 := by omega
          have hltz : ¬ (((14 : Nat) : Int) < 14) := by omega
          have hown' : wr.ownsRow w.heap.size 5 1 (.slice (some ⟨g, 0, none⟩) 14 cap) 14 (nums .u8 (l.map up)) := by
            have h1 := hown.out
            rw [← HRL.out, List.take_length, List.drop_length, List.append_nil, HRL.out] at h1
            exact h1
          clear hown
          go_wp2_with (at_builtin; refine wpList_append_own _ rfl _ _ 22 rfl w.heap.size 5 i0 (.int .u8 0) 1 1 Tryd.underlying22 hi hz0 hz1 hz2 rfl (by decide) _ _ _ rfl (hown'.alloc _) ⟨wr.heap.size, 0, none⟩ 1 1 [.int .u8 90] rfl rfl ?e1 ?e2 ?e3 ?e4 ?e5 ?_)
          try case e1 => exact one_cell' _ _ _
          try case e2 => first | (intro u hu; simp at hu; subst hu; rfl) | rfl
          try case e3 => unfold maxLen; omega
          try case e4 => omega
          case e5 => have := hbel.out.2; simp; omega
          intro v' w1 hown1 hgrow _
          have hsz1 := hgrow.size
          simp only [World.size_alloc] at hsz1
          have hbel1 : Aside0 (Below w.heap.size w w1 ∧ w.heap.size ≤ w1.heap.size) := ⟨pw_below_grown (below_alloc hbel.out.1 _) _ (by have := hbel.out.2; simp; omega) hgrow (fun g hg => own_base hown' g hg), by have := hbel.out.2; omega⟩
          rw [show nums .u8 (l.map up) ++ [Value.int .u8 90] = nums .u8 (l.map up ++ [90]) by simp [nums]] at hown1
          have hol : (l.map up ++ [90]).length = 15 := by simp [HRL.out]
          generalize l.map up ++ [90] = o at *
          rcases hown1.2 with ⟨_, h0⟩ | ⟨g1, cap1, cur1, rfl, hgb1, _, hcap1, _⟩
          · exact absurd h0 (by omega)
          have HV : Aside0 (∃ l, Kd.F (Kd.int .u8) w1 (fun k_ => w.heap.size ≤ k_) (some ⟨g1, 0, none⟩) o.length o ∧ l = o) := ⟨by
            have h2 : w1.ownsRow w.heap.size 5 1 (.slice (some ⟨g1, 0, none⟩) o.length cap1) o.length (nums .u8 o) := by rw [hol]; exact hown1
            exact ⟨_, Kd.R_F (Kd.R_of_own (enc := fun n => Value.int .u8 n) (h1 := fun _ => rfl) h2 (fun k hk => own_base hown1 k hk)), rfl⟩⟩
          have HOL := Aside0.mk hol
          have HCAP : 15 ≤ cap1 := hcap1
          clear hown1 hgrow hown' hbel hsz1 hltz hgb hcap hlt hol hcap1
          by_cases hy : y < 2050
          · go_wp2
            go_quiet (fail)
            go_wp2
            go_ret3
            refine ⟨.slice (some ⟨g1, 2, none⟩) 13 (cap1 - 2), rfl, ?_, pw_below_drewN hbel1.out.1 _⟩
            refine Kd.V_drewN ?_ _
            rw [HS.out, HOUT.out]
            obtain ⟨_, hf, _⟩ := HV.out
            have hcut := Kd.F_cut hf (show 2 ≤ o.length by rw [HOL.out]; omega) (show o.length ≤ cap1 by rw [HOL.out]; exact HCAP)
            rw [if_neg (by omega)] at hcut
            exact ⟨_, cap1 - 2, by rw [List.length_drop, HOL.out]; rfl, by rw [List.length_drop, HOL.out]; omega, hcut⟩
          · go_wp2
            go_ret3
            refine ⟨.slice (some ⟨g1, 0, none⟩) 15 cap1, rfl, ?_, hbel1.out.1⟩
            rw [HS.out, HOUT.out]
            obtain ⟨_, hf, _⟩ := HV.out
            exact ⟨_, cap1, by rw [HOL.out], by rw [HOL.out]; exact HCAP, hf⟩
end PutT
end Go.Proofs.YtgpghjmoapffcaaDoor
