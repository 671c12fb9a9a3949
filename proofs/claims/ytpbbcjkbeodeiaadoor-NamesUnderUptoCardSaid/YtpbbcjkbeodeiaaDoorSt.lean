/- A row of the call's own whose elements came in, are made, or are told by their cells: element by element. No condition. -/
import Derived.Test.YtpbbcjkbeodeiaaDoorNx
set_option linter.unusedVariables false
set_option linter.unusedSimpArgs false
namespace Go.Proofs.YtpbbcjkbeodeiaaDoorW.PrintWords
open Go.RowKit
theorem far_cell {w : World} {g o b p : Nat} {v u : Value} (h : g ≠ b) (hc : w.cell? ⟨b, p, none⟩ = some u) : (w.setCell ⟨g, o, none⟩ v).cell? ⟨b, p, none⟩ = some u := by
  rw [World.cell?_setCell_other (w := w) (a := ⟨g, o, none⟩) (b := ⟨b, p, none⟩) (v := v) (by intro h2; injection h2 with h3; exact h h3)]
  exact hc
inductive St (α : Type) where
  | came (x : α)
  | made (x : α)
  | cells (c : List Value)
namespace Kd
/-- Came: read in w0, whatever happens since. -/
def st {α : Type} (d : Kd α) (w0 : World) : Kd (St α) where
  sz := d.sz
  E := d.E
  K := fun w x cs => match x with
    | .came x => d.K w0 x cs
    | .made x => d.K w x cs
    | .cells c => cs = c ∧ cs.length = d.sz ∧ ∀ u ∈ cs, u.oneCell' = true
  M := fun w base ok x cs => match x with
    | .came x => d.K w0 x cs
    | .made x => d.M w base ok x cs
    | .cells c => cs = c ∧ cs.length = d.sz ∧ ∀ u ∈ cs, u.oneCell' = true
  K_len := by
    intro w x cs h
    cases x with
    | came x => exact d.K_len h
    | made x => exact d.K_len h
    | cells c => exact h.2.1
  K_one := by
    intro w x cs h
    cases x with
    | came x => exact d.K_one h
    | made x => exact d.K_one h
    | cells c => exact h.2.2
  K_below := by
    intro w w1 x cs hb h
    cases x with
    | came x => exact h
    | made x => exact d.K_below hb h
    | cells c => exact h
  K_of_M := by
    intro w base ok x cs h
    cases x with
    | came x => exact h
    | made x => exact d.K_of_M h
    | cells c => exact h
  M_mono := by
    intro w base ok ok' x cs hok h
    cases x with
    | came x => exact h
    | made x => exact d.M_mono hok h
    | cells c => exact h
  M_bound := by
    intro w base ok x cs h
    cases x with
    | came x => exact h
    | made x => exact d.M_bound h
    | cells c => exact h
  M_move := by
    intro w w1 base ok x cs hm h
    cases x with
    | came x => exact h
    | made x => exact d.M_move hm h
    | cells c => exact h
  M_lower := by
    intro w base base' ok x cs hb h
    cases x with
    | came x => exact h
    | made x => exact d.M_lower hb h
    | cells c => exact h
section
variable {α : Type} {d : Kd α} {e base n cap g : Nat} {ok okp : Nat → Prop} {w w0 W : World} {A : Option Addr} {v : Value} {l : List α}
theorem st_made (h : (st d w0).R e w base ok v (l.map .made)) : d.R e w base ok v l := by
  obtain ⟨h0, inner, ho, hr⟩ := h
  rw [List.length_map] at ho
  refine ⟨h0, inner, ho, by have := hr.1; rwa [List.length_map] at this, fun j p hj => ?_⟩
  have := hr.2 j (.made p) (by rw [List.getElem?_map, hj]; rfl)
  exact this
/-- A row without elements, in a block of its own. -/
theorem R_empty {α : Type} (d : Kd α) (e : Nat) (W : World) {base : Nat} {ok : Nat → Prop} (hbase : base ≤ W.heap.size) (hfresh : ok W.heap.size) : d.R e (W.alloc (.cells #[] e)) base ok (.slice (some ⟨W.heap.size, 0, none⟩) 0 0) [] := by
  refine ⟨fun k hk => ?_, [], ?_, Reps.none _ _⟩
  · have : W.heap.size = k := by simpa [Value.ownBlock] using hk
    rw [← this]; exact hfresh
  · have := World.ownsRow_lit (base := base) (e := e) (size := d.sz) W #[] 0 hbase (by simp) (by simp)
    simpa using this
def cameR (d : Kd α) (w0 : World) (x : St α) (cs : List Value) : Prop := match x with
  | .came x => d.K w0 x cs
  | _ => False
theorem cameR_M {x : St α} {cs : List Value} (h : cameR d w0 x cs) : (st d w0).M W base okp x cs := by
  cases x with
  | came x => exact h
  | made x => exact h.elim
  | cells c => exact h.elim
/-- What came in, to be appended. -/
theorem st_came (h : d.C w0 A n l) : ReadsRow (cameR d w0) (st d w0).sz w0 A n (l.map .came) := by
  refine ⟨by rw [List.length_map]; exact h.1, h.2.1, fun hp => ?_⟩
  obtain ⟨ad, he, hc⟩ := h.2.2 hp
  refine ⟨ad, he, fun j p hj => ?_⟩
  rw [List.getElem?_map] at hj
  obtain ⟨x, hx, rfl⟩ := Option.map_eq_some_iff.1 hj
  exact hc j x hx
/-- The first i are made. -/
def stage (l : List α) (i : Nat) : List (St α) := (l.take i).map .made ++ (l.drop i).map .came
theorem stage_zero : stage l 0 = l.map .came := by simp [stage]
theorem stage_all : stage l l.length = l.map .made := by simp [stage]
theorem stage_length (i : Nat) : (stage l i).length = l.length := by simp [stage]; omega
theorem stage_at (i : Nat) (h : i < l.length) (z : St α) : (stage l i).getD i z = .came l[i] := by
  have hl : ((l.take i).map (St.made (α := α))).length = i := by simp; omega
  unfold stage
  rw [List.getD_eq_getElem?_getD, List.getElem?_append_right (by omega), hl, Nat.sub_self, List.getElem?_map, List.getElem?_drop, Nat.add_zero, List.getElem?_eq_getElem h]
  rfl
theorem stage_succ (i : Nat) (h : i < l.length) : stage l (i + 1) = (stage l i).set i (.made l[i]) := by
  have hl : ((l.take i).map (St.made (α := α))).length = i := by simp; omega
  unfold stage
  rw [List.take_succ_eq_append_getElem h, List.map_append, List.set_append_right _ _ (by omega), hl, List.drop_eq_getElem_cons h]
  simp only [List.map_append, List.map_cons, List.map_nil, Nat.sub_self, List.set_cons_zero, List.append_assoc, List.cons_append, List.nil_append]
/-- An element told by its cells is what they are. -/
theorem st_tell {xs : List (St α)} (h : (st d w0).R e W base ok (.slice (some ⟨g, 0, none⟩) n cap) xs) (i : Nat) (hi : i < n) {c : List Value} (hc : xs[i]? = some (.cells c)) {x : α} (hM : d.M W base okp x c) (hokp : ∀ k, okp k → ok k ∧ k ≠ g) :
    (st d w0).R e W base ok (.slice (some ⟨g, 0, none⟩) n cap) (xs.set i (.made x)) := by
  obtain ⟨c', hcl, hm, hcc, _⟩ := R_elem h (.cells c) (i : Int) (by omega) (by omega)
  simp only [Int.toNat_natCast] at hm hcc
  rw [List.getD_eq_getElem?_getD, hc] at hm
  have hcc' : c' = c := hm.1
  subst hcc'
  have := (R_seg h (i : Int) (by omega) (by omega) (c := c') (seg := []) (j := 0) hcl (by simpa using hcc) (Nat.zero_le _) (x' := .made x) (okp := okp) (by simpa using (show (st d w0).M W base okp (.made x) c' from hM)) hokp).1
  simpa [World.setCells] using this
/-- A cell of an element is written. -/
theorem st_put {xs : List (St α)} (h : (st d w0).R e W base ok (.slice (some ⟨g, 0, none⟩) n cap) xs) (i : Nat) (hi : i < n) {c : List Value} (hcl : c.length = d.sz) (hcc : ∀ j u, c[j]? = some u → W.cell? ⟨g, i * d.sz + j, none⟩ = some u) (hs : 0 < d.sz) (u : Value) {x' : St α} (hM : (st d w0).M W base okp x' (u :: c.drop 1)) (hokp : ∀ k, okp k → ok k ∧ k ≠ g) :
    (st d w0).R e (W.setCell ⟨g, i * d.sz, none⟩ u) base ok (.slice (some ⟨g, 0, none⟩) n cap) (xs.set i x') := by
  have hcc2 : ∀ j u, c[j]? = some u → W.cell? ⟨g, i * (st d w0).sz + j, none⟩ = some u := hcc
  have := (R_seg h (i : Int) (by omega) (by omega) (c := c) (seg := [u]) (j := 0) hcl (by simpa using hcc2) (show 0 + 1 ≤ d.sz by omega) (x' := x') (by simpa using hM) hokp).1
  exact (by simpa [World.setCells] using this : (st d w0).R e (W.setCell ⟨g, i * (st d w0).sz, none⟩ u) base ok (.slice (some ⟨g, 0, none⟩) n cap) (xs.set i x'))
end
end Kd
end Go.Proofs.YtpbbcjkbeodeiaaDoorW.PrintWords
