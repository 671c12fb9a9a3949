/- A row's arguments, opened by their types: rows of rows, structs, texts, whole numbers; and how great they are. No condition. -/
import Derived.Test.YtpbbcjkbeodeiaaDoorRows
import Derived.Test.YtpbbcjkbeodeiaaDoorWMore
import Derived.ChangeSlices
import Derived.ProofKit
import Derived.DataReads
set_option linter.unusedVariables false
set_option linter.unusedSimpArgs false
namespace Go.Proofs.YtpbbcjkbeodeiaaDoor
open Go.RowKit Go.ChangeShapes Go.Proofs.YtpbbcjkbeodeiaaDoorW.PrintWords
namespace Op2
/-- What reads as a type reads as a kind, and is no greater than its reading. -/
def Opens (P : Program) (t : TypeId) {α : Type} (d : Kd α) (b : α → Nat) : Prop :=
  ∀ (H : Type) (enc : TypeId × Value → H) (W : World) (base : Nat) (fuel : Nat) (cs : List Value) (x : DataW H × List MemPlace),
    DataW.trod enc P W base (fun _ => true) true fuel t cs = some x → ∃ y, d.K W y cs ∧ b y ≤ Rows.uptoBulk x.1
theorem int {P : Program} {t : TypeId} {k : IntKind} (ht : P.underlying t = some (.int k)) : Opens P t (Kd.int k) (fun _ => 1) := by
  intro H enc W base fuel cs x h
  obtain ⟨n, rfl, rfl, hw⟩ := DataW.trod_int ht h
  exact ⟨n, rfl, by simp [Rows.uptoBulk]⟩
theorem bool {P : Program} {t : TypeId} (ht : P.underlying t = some .bool) : Opens P t Kd.bool (fun _ => 1) := by
  intro H enc W base fuel cs x h
  obtain ⟨n, rfl, rfl⟩ := DataW.trod_bool ht h
  exact ⟨n, rfl, by simp [Rows.uptoBulk]⟩
theorem string {P : Program} {t : TypeId} (ht : P.underlying t = some .string) : Opens P t Kd.string (fun s => s.size + 1) := by
  intro H enc W base fuel cs x h
  obtain ⟨s, rfl, rfl, hs⟩ := DataW.trod_string ht h
  exact ⟨s, rfl, by simp [Rows.uptoBulk]⟩
/-- How great a row is. -/
def sumB {α : Type} (b : α → Nat) : List α → Nat
  | [] => 0
  | x :: l => b x + sumB b l
theorem sumB_mem {α : Type} (b : α → Nat) : ∀ (l : List α) (x : α), x ∈ l → b x ≤ sumB b l
  | [], x, h => by cases h
  | y :: l, x, h => by
    simp only [sumB]
    rcases List.mem_cons.1 h with rfl | h
    · omega
    · have := sumB_mem b l x h
      omega
theorem sumB_length {α : Type} (b : α → Nat) (hb : ∀ x, 1 ≤ b x) : ∀ (l : List α), l.length ≤ sumB b l
  | [] => Nat.le_refl _
  | x :: l => by
    simp only [sumB, List.length_cons]
    have := sumB_length b hb l
    have := hb x
    omega
/-- One for one. -/
theorem each {α H : Type} (d : Kd α) (b : α → Nat) (W : World) (Pr : Nat → α → Prop) (elems : List (DataW H × List MemPlace)) :
    ∀ (k : Nat), (∀ i x, elems[i]? = some x → ∃ y, Pr (k + i) y ∧ b y ≤ Rows.uptoBulk x.1) → ∃ ys : List α, ys.length = elems.length ∧ (∀ i y, ys[i]? = some y → Pr (k + i) y) ∧ sumB b ys ≤ Rows.uptoBulkAll (elems.map (·.1)) := by
  induction elems with
  | nil => exact fun k _ => ⟨[], rfl, fun i y h => by simp at h, by simp [sumB, Rows.uptoBulkAll]⟩
  | cons x l ih =>
    intro k h
    obtain ⟨y, hy, hby⟩ := h 0 x rfl
    obtain ⟨ys, hl, hys, hb⟩ := ih (k + 1) (fun i x' hx => by
      obtain ⟨y', h1, h2⟩ := h (i + 1) x' (by simpa using hx)
      exact ⟨y', by rw [show k + 1 + i = k + (i + 1) by omega]; exact h1, h2⟩)
    refine ⟨y :: ys, by simp [hl], fun i y' hy' => ?_, ?_⟩
    · cases i with
      | zero =>
        have : y = y' := by simpa using hy'
        rw [← this]; exact hy
      | succ i => rw [show k + (i + 1) = k + 1 + i by omega]; exact hys i y' (by simpa using hy')
    · simp only [sumB, List.map_cons, Rows.uptoBulkAll]
      omega
theorem slice {P : Program} {t e : TypeId} {α : Type} {d : Kd α} {b : α → Nat} (ht : P.underlying t = some (.slice e)) (hc : P.cellsOf e = d.sz) (he : Opens P e d b) : Opens P t (Kd.slice e d) (fun l => sumB b l + 1) := by
  intro H enc W base fuel cs x h
  rcases DataW.trod_slice ht h with ⟨rfl, rfl⟩ | ⟨a, len, cap, elems, rest, n, rfl, rfl, rfl, hb, hl, hm, hlen, hel, _, _⟩
  · exact ⟨[], ⟨none, 0, rfl, Nat.le_refl _, Kd.C_nil _ _⟩, by simp [sumB, Rows.uptoBulk]⟩
  · obtain ⟨ys, hyl, hys, hbb⟩ := each d b W (fun i y => ∃ c, c.length = d.sz ∧ d.K W y c ∧ ∀ j u, c[j]? = some u → W.cell? (a.add (i * d.sz + j)) = some u) elems 0 (fun i x hx => by
      have hi : i < len := by rw [← hlen]; exact (List.getElem?_eq_some_iff.1 hx).1
      have h1 := hel i hi
      rw [hx, Option.bind_eq_some_iff] at h1
      obtain ⟨c, hcs, htr⟩ := h1
      obtain ⟨y, hK, hby⟩ := he H enc W base n c x htr
      obtain ⟨_, hcl, hcc⟩ := World.cells?_some hcs
      refine ⟨y, ⟨c, by rw [hcl, hc], hK, fun j u hu => ?_⟩, hby⟩
      have hj : j < P.cellsOf e := by rw [← hcl]; exact (List.getElem?_eq_some_iff.1 hu).1
      have h2 := hcc j hj
      rw [hu, add_add, hc] at h2
      simpa [Nat.zero_add] using h2)
    refine ⟨ys, ⟨some a, cap, ?_, by omega, ?_⟩, ?_⟩
    · rw [hyl, hlen]
    · refine ⟨rfl, by unfold maxLen at hm; omega, fun _ => ⟨a, rfl, fun j p hj => ?_⟩⟩
      have h3 := hys j p hj
      rw [Nat.zero_add] at h3
      exact h3
    · simp only [Rows.uptoBulk]
      omega
/-- The fields from one on. -/
def OpensF (P : Program) (fs : List Field) (off tot : Nat) {α : Type} (d : Kd α) (b : α → Nat) : Prop :=
  ∀ (H : Type) (enc : TypeId × Value → H) (W : World) (base : Nat) (fuel : Nat) (cs : List Value) (xs : List (DataW H × List MemPlace)), cs.length = tot → xs.length = fs.length →
    (∀ (i : Nat) (f : Field), fs[i]? = some f → DataW.trod enc P W base (fun _ => true) true fuel f.type ((cs.drop f.offset).take (P.cellsOf f.type)) = xs[i]?) → ∃ y, d.K W y (cs.drop off) ∧ b y ≤ Rows.uptoBulkAll (xs.map (·.1))
theorem last {P : Program} {f : Field} {off tot : Nat} {α : Type} {d : Kd α} {b : α → Nat} (ho : f.offset = off) (hc : P.cellsOf f.type = d.sz) (htot : tot = off + d.sz) (h : Opens P f.type d b) : OpensF P [f] off tot d b := by
  intro H enc W base fuel cs xs hl hx hf
  have h0 := hf 0 f rfl
  cases xs with
  | nil => simp at hx
  | cons x l =>
    obtain ⟨y, hK, hb⟩ := h H enc W base fuel _ x h0
    rw [ho, hc, List.take_of_length_le (by simp; omega)] at hK
    refine ⟨y, hK, ?_⟩
    simp only [List.map_cons, Rows.uptoBulkAll]
    omega
theorem cons {P : Program} {f : Field} {fs : List Field} {off tot off' : Nat} {α β : Type} {d : Kd α} {b : α → Nat} {d' : Kd β} {b' : β → Nat} (ho : f.offset = off) (hc : P.cellsOf f.type = d.sz) (ho' : off' = off + d.sz) (h : Opens P f.type d b) (h' : OpensF P fs off' tot d' b') :
    OpensF P (f :: fs) off tot (Kd.pair d d') (fun y => b y.1 + b' y.2) := by
  intro H enc W base fuel cs xs hl hx hf
  have h0 := hf 0 f rfl
  cases xs with
  | nil => simp at hx
  | cons x l =>
    obtain ⟨y, hK, hb⟩ := h H enc W base fuel _ x h0
    obtain ⟨y', hK', hb'⟩ := h' H enc W base fuel cs l hl (by simpa using hx) (fun i g hg => by simpa using hf (i + 1) g (by simpa using hg))
    rw [ho, hc] at hK
    refine ⟨(y, y'), ⟨_, _, ?_, hK, hK'⟩, ?_⟩
    · rw [ho', ← List.drop_drop, List.take_append_drop]
    · simp only [List.map_cons, Rows.uptoBulkAll]
      omega
theorem struct {P : Program} {t : TypeId} {fs : Array Field} {l : List Field} {tot : Nat} {α β : Type} {d : Kd α} {b : α → Nat} {f : β → α} (g : α → β) (ht : P.underlying t = some (.struct fs)) (hfs : fs.toList = l) (hn : P.cellsOf t = tot) (hfg : ∀ x, f (g x) = x) (h : OpensF P l 0 tot d b) : Opens P t (Kd.iso d f) (fun y => b (f y) + 1) := by
  intro H enc W base fuel cs x hx
  obtain ⟨xs, n, rfl, rfl, hl, hxl, hf⟩ := DataW.trod_struct ht hx
  obtain ⟨y, hK, hb⟩ := h H enc W base n cs xs (by rw [hl, hn]) (by rw [hxl, ← hfs]; simp) (fun i f hf' => hf i f (by rw [← hfs] at hf'; simpa using hf'))
  refine ⟨g y, ?_, ?_⟩
  · show d.K W (f (g y)) cs
    rw [hfg]
    exact hK
  · simp only [hfg, Rows.uptoBulk]
    omega
/-- A row that came in. -/
theorem arg {P : Program} {t e : TypeId} {α : Type} {d : Kd α} {b : List α → Nat} (h : Opens P t (Kd.slice e d) b) {H : Type} {enc : TypeId × Value → H} {W : World} {base : Nat} {A : Option Addr} {n c : Nat} {D : DataW H} {ps : List MemPlace} (hd : DataW.Trod enc P W base (fun _ => true) true t (.slice A n c) D ps) :
    ∃ l, n = l.length ∧ l.length ≤ c ∧ d.C W A l.length l ∧ b l ≤ Rows.uptoBulk D := by
  obtain ⟨fuel, hf⟩ := hd
  obtain ⟨y, ⟨A', c', he, hl, hC⟩, hb⟩ := h H enc W base fuel _ _ hf
  have he' : [Value.slice A n c] = [Value.slice A' y.length c'] := he
  injection he' with he'
  injection he' with h1 h2 h3
  subst h1; subst h3
  exact ⟨y, h2, hl, hC, hb⟩
/-- A struct that came in. -/
theorem argS {P : Program} {t : TypeId} {α : Type} {d : Kd α} {b : α → Nat} (h : Opens P t d b) {H : Type} {enc : TypeId × Value → H} {W : World} {base : Nat} {cs : Array Value} {D : DataW H} {ps : List MemPlace} (hd : DataW.Trod enc P W base (fun _ => true) true t (.agg cs) D ps) :
    ∃ x, d.K W x cs.toList ∧ b x ≤ Rows.uptoBulk D := by
  obtain ⟨fuel, hf⟩ := hd
  exact h H enc W base fuel _ _ hf
theorem okAgg {P : Program} {w : World} {r : Reach} {base : Nat} {t : TypeId} {v : Value} {fs : Array Field} (ht : P.underlying t = some (.struct fs)) (h : Value.okWide P w r base t v) : ∃ cs, v = .agg cs := by
  unfold Value.okWide at h
  rw [ht] at h
  obtain ⟨cs, e, _⟩ := h
  exact ⟨cs, e⟩
end Op2
end Go.Proofs.YtpbbcjkbeodeiaaDoor
