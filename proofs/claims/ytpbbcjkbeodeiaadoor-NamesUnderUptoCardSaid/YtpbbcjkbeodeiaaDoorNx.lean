/- Rows of the call's own whose elements are only read: made by a literal, appended to. No condition. -/
import Derived.Test.YtpbbcjkbeodeiaaDoorWMore
set_option linter.unusedVariables false
set_option linter.unusedSimpArgs false
namespace Go.Proofs.YtpbbcjkbeodeiaaDoorW.PrintWords
open Go.RowKit
namespace Kd
section
variable {α : Type} {d : Kd α} {e base n : Nat} {ok okp : Nat → Prop} {w W w1 : World} {A : Option Addr} {v : Value} {xs : List α}
theorem F_of_C (hd : Heap d) (h : d.C W A n xs) : F d W (fun k => k < W.heap.size) A n xs := fun W' hW => hd.C (fun k hk => hW k hk hk) h
theorem FK_of_K (hd : Heap d) {x : α} {c : List Value} (h : d.K W x c) : FK d W (fun k => k < W.heap.size) x c := fun W' hW => hd.K (fun k hk => hW k hk hk) h
/-- A literal's block, as a row. -/
theorem N_fresh (d : Kd α) (e : Nat) (cs : Array Value) (xs : List α) (hrep : Reps (fun x c => FK d W okp x c) d.sz xs cs.toList) (hokp : ∀ k, okp k → ok k ∧ k < W.heap.size) (hfresh : ok W.heap.size) (hbase : base ≤ W.heap.size) (hm : xs.length ≤ 9223372036854775807) :
    N d e (W.alloc (.cells cs e)) base ok (.slice (some ⟨W.heap.size, 0, none⟩) xs.length xs.length) xs := by
  have hown := World.ownsRow_lit (base := base) (e := e) (size := d.sz) W cs xs.length hbase (by simpa [maxLen] using hm) (by simpa using hrep.1)
  refine ⟨fun k hk => ?_, chunks d.sz xs.length cs.toList, chunks_length _ _ _, ⟨fun k hk => hk.symm, cs.toList, by rw [chunks_length]; exact hown, reps_raw hrep (fun x c hp => ⟨d.K_len (FK_now hp), d.K_one (FK_now hp)⟩)⟩, fun j x c hx hc => ?_⟩
  · have : W.heap.size = k := by simpa [Value.ownBlock] using hk
    rw [← this]; exact hfresh
  · rw [chunks_get hc]
    refine FK_mono (FK_below (hrep.2 j x hx) (below_alloc (Below.refl _ _) _)) (fun k hk => ⟨(hokp k hk).1, fun he => ?_⟩)
    have h3 : k = W.heap.size := by simpa [Value.ownBlock] using he
    have := (hokp k hk).2
    omega
theorem N_empty (d : Kd α) (e : Nat) (W : World) (hbase : base ≤ W.heap.size) (hfresh : ok W.heap.size) : N d e (W.alloc (.cells #[] e)) base ok (.slice (some ⟨W.heap.size, 0, none⟩) 0 0) [] :=
  N_fresh (okp := fun _ => False) d e #[] [] ⟨by simp, fun j x h => by simp at h⟩ (fun _ h => h.elim) hfresh hbase (by simp)
theorem N_one (d : Kd α) (e : Nat) (cs : Array Value) (x : α) (hp : FK d W okp x cs.toList) (hokp : ∀ k, okp k → ok k ∧ k < W.heap.size) (hfresh : ok W.heap.size) (hbase : base ≤ W.heap.size) :
    N d e (W.alloc (.cells cs e)) base ok (.slice (some ⟨W.heap.size, 0, none⟩) 1 1) [x] := by
  have hl := d.K_len (FK_now hp)
  refine N_fresh (xs := [x]) d e cs ⟨by simp [hl], fun j y h => ?_⟩ hokp hfresh hbase (by simp)
  cases j with
  | zero =>
    have : x = y := by simpa using h
    subst this
    simp only [Nat.zero_mul, List.drop_zero]
    rw [List.take_of_length_le (by omega)]
    exact hp
  | succ j => simp at h
/-- What is read of it. -/
theorem N_C (h : N d e w base ok v xs) : ∃ A c, v = .slice A xs.length c ∧ xs.length ≤ c ∧ d.C w A xs.length xs := N_reads h
/-- One element, in a block of its own. -/
theorem C_one (d : Kd α) (e : Nat) (W : World) (cs : Array Value) (x : α) (h : d.K (W.alloc (.cells cs e)) x cs.toList) : d.C (W.alloc (.cells cs e)) (some ⟨W.heap.size, 0, none⟩) 1 [x] := by
  refine ⟨rfl, by simp, fun _ => ⟨_, rfl, fun j p hj => ?_⟩⟩
  cases j with
  | zero =>
    have : x = p := by simpa using hj
    subst this
    refine ⟨cs.toList, d.K_len h, h, fun i u hu => ?_⟩
    rw [add_plain, Nat.zero_mul, Nat.zero_add, blk_cell (heap_alloc_new W (.cells cs e)) i]
    simpa using hu
  | succ j => simp at hj
end
end Kd
end Go.Proofs.YtpbbcjkbeodeiaaDoorW.PrintWords
