/- Plain lemmas that the hand-written contracts use. No condition. -/
import Derived.Test.YtpbbcjkbeodeiaaDoorWWords
import Derived.Test.YtpbbcjkbeodeiaaDoorWMore
set_option linter.unusedVariables false
set_option linter.unusedSimpArgs false
namespace Go.Proofs.YtpbbcjkbeodeiaaDoor
open Go.RowKit Go.Proofs.YtpbbcjkbeodeiaaDoorW.PrintWords

theorem bytes_inj {a b : ByteArray} (h : a.toList = b.toList) : a = b := by
  rw [ByteArray.toList_eq, ByteArray.toList_eq] at h
  cases a; cases b
  simp only [ByteArray.mk.injEq]
  exact Array.toList_inj.1 h
theorem wrap64_succ {i : Int} {n : Nat} (h0 : 0 ≤ i) (h : i < (n : Int)) (hn : n ≤ 9223372036854775807) : wrap64 (i + 1) = i + 1 := by
  unfold wrap64
  omega
theorem getD_eq {α : Type} (d : α) (l : List α) (i : Nat) (h : i < l.length) : l.getD i d = l[i] := by simp [List.getD, h]
theorem len_of_C {α : Type} {d : Kd α} {w : World} {A : Option Addr} {n : Nat} {xs : List α} (h : d.C w A n xs) : xs.length = n ∧ n ≤ 9223372036854775807 := ⟨h.1, h.2.1⟩
/-- The first place at which p holds; -1: none. -/
def idxp {α : Type} (p : α → Bool) : List α → Int
  | [] => -1
  | x :: l => if p x = true then 0 else if idxp p l < 0 then -1 else idxp p l + 1
theorem idxp_hit {α : Type} (p : α → Bool) : ∀ (l : List α) (k : Nat) (hk : k < l.length), (∀ j (hj : j < l.length), j < k → p l[j] = false) → p l[k] = true → idxp p l = k
  | [], k, hk, _, _ => absurd hk (by simp)
  | x :: l, 0, _, _, h => by
    have : p x = true := h
    simp [idxp, this]
  | x :: l, k + 1, hk, h, h2 => by
    have h0 : p x = false := h 0 (by simp) (by omega)
    have ih := idxp_hit p l k (by simpa using hk) (fun j hj hjk => h (j + 1) (by simpa using hj) (by omega)) h2
    simp only [idxp, h0, Bool.false_eq_true, if_false, ih]
    rw [if_neg (by omega)]
    omega
theorem idxp_miss {α : Type} (p : α → Bool) : ∀ (l : List α), (∀ j (hj : j < l.length), p l[j] = false) → idxp p l = -1
  | [], _ => rfl
  | x :: l, h => by
    have h0 : p x = false := h 0 (by simp)
    have ih := idxp_miss p l (fun j hj => h (j + 1) (by simpa using hj))
    simp [idxp, h0, ih]
theorem idxp_range {α : Type} (p : α → Bool) : ∀ (l : List α), -1 ≤ idxp p l ∧ idxp p l < l.length
  | [] => by simp [idxp]
  | x :: l => by
    have := idxp_range p l
    simp only [idxp, List.length_cons]
    split
    · omega
    · split <;> omega
theorem idxp_none {α : Type} (p : α → Bool) : ∀ (l : List α), idxp p l < 0 → l.find? p = none
  | [], _ => rfl
  | x :: l, h => by
    cases hx : p x with
    | true => simp [idxp, hx] at h
    | false =>
      simp only [idxp, hx, Bool.false_eq_true, if_false] at h
      rw [List.find?_cons_of_neg (by simp [hx])]
      refine idxp_none p l ?_
      split at h <;> omega
theorem idxp_some {α : Type} (p : α → Bool) (d : α) : ∀ (l : List α), 0 ≤ idxp p l → l.find? p = some (l.getD (idxp p l).toNat d)
  | [], h => by simp [idxp] at h
  | x :: l, h => by
    cases hx : p x with
    | true => simp [idxp, hx]
    | false =>
      simp only [idxp, hx, Bool.false_eq_true, if_false] at h ⊢
      rw [List.find?_cons_of_neg (by simp [hx])]
      split at h
      · omega
      · rename_i hn
        rw [if_neg hn, idxp_some p d l (by omega)]
        have : (idxp p l + 1).toNat = (idxp p l).toNat + 1 := by omega
        rw [this, List.getD_cons_succ]
theorem idxp_any {α : Type} (p : α → Bool) : ∀ (l : List α), decide (0 ≤ idxp p l) = l.any p
  | [] => by simp [idxp]
  | x :: l => by
    have ih := idxp_any p l
    cases hx : p x with
    | true => simp [idxp, hx]
    | false =>
      simp only [idxp, hx, Bool.false_eq_true, if_false, List.any_cons, Bool.false_or, ← ih]
      split
      · simp; omega
      · simp; omega
theorem enters {P : Program} {f : FuncId} {fn : Func} {c : Code} (hf : P.funcs[f]? = some fn) (hname : (fn.name == "runtime.NumGoroutine") = false) (hb : fn.body = some c) (args : Array Value) (w : World) : (callFunc f args).run P w = .ok (.enter f args) w := by
  have h1 : fn.name ≠ "runtime.NumGoroutine" := by simpa using hname
  simp [callFunc, hf, h1, hb, mark]
/-- A list of whole numbers that a text lays. -/
theorem lit_read (W : World) (xs : List Int) (e : TypeId) (hs : (nums .i64 xs).toArray.size = xs.length * 1) (hm : xs.length ≤ 1000000 := by decide) : Kd.C (Kd.int .i64) (W.alloc (.cells (nums .i64 xs).toArray e)) (some ⟨W.heap.size, 0, none⟩) xs.length xs := by
  have ho := World.ownsRow_lit (base := W.heap.size) (e := e) (size := 1) W (nums .i64 xs).toArray xs.length (Nat.le_refl _) (by unfold maxLen; omega) hs
  obtain ⟨A, c, he, hr⟩ := own_reads ho
  cases he
  exact Kd.C_of_reads (d := (0 : Int)) (h1 := fun _ => rfl) hr
theorem bcell {B : Nat} {W w1 : World} (hb : Below B W w1) : (∀ b o, b < B → w1.cell? ⟨b, o, none⟩ = W.cell? ⟨b, o, none⟩) ∧ (∀ b o, b < B → w1.frozen? ⟨b, o, none⟩ = W.frozen? ⟨b, o, none⟩) :=
  ⟨fun b o h => hb.cell (p := ⟨b, o, none⟩) h, fun b o h => hb.frozen (p := ⟨b, o, none⟩) h⟩
end Go.Proofs.YtpbbcjkbeodeiaaDoor
