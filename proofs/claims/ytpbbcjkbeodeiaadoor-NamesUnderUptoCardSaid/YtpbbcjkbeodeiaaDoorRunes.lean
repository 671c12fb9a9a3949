/- Plain Lean, no program in sight: a text's runes (the decoding of its bytes), what is written of runes, and what a text is, prepared. No condition. -/
import Derived.Lib.MapLaws
set_option linter.unusedVariables false
set_option linter.unusedSimpArgs false
namespace Go.Proofs.YtpbbcjkbeodeiaaDoor.Tx
open Go.Lib

/-! ### 1. the runes of bytes -/
def dec : Nat → List UInt8 → List Int
  | 0, _ => []
  | n + 1, l => if l = [] then [] else ((decodeL l).1 : Int) :: dec n (l.drop (decodeL l).2)
def runes (l : List UInt8) : List Int := dec l.length l
def enc (rs : List Int) : List UInt8 := rs.flatMap encodeRune

theorem dec_nil : ∀ n, dec n [] = []
  | 0 => rfl
  | _ + 1 => by simp [dec]
theorem dec_fuel : ∀ (n m : Nat) (l : List UInt8), l.length ≤ n → l.length ≤ m → dec n l = dec m l
  | 0, m, l, hn, _ => by
    have : l = [] := List.eq_nil_of_length_eq_zero (by omega)
    subst this
    rw [dec_nil, dec_nil]
  | n + 1, 0, l, _, hm => by
    have : l = [] := List.eq_nil_of_length_eq_zero (by omega)
    subst this
    rw [dec_nil, dec_nil]
  | n + 1, m + 1, l, hn, hm => by
    by_cases hne : l = []
    · subst hne
      rw [dec_nil, dec_nil]
    · have hw := decodeL_width l
      have hl : 0 < l.length := List.length_pos_iff.2 hne
      simp only [dec, if_neg hne]
      rw [dec_fuel n m _ (by rw [List.length_drop]; omega) (by rw [List.length_drop]; omega)]
theorem runes_nil : runes [] = [] := rfl
theorem runes_step (l : List UInt8) (hne : l ≠ []) : runes l = ((decodeL l).1 : Int) :: runes (l.drop (decodeL l).2) := by
  have hw := decodeL_width l
  have hl : 0 < l.length := List.length_pos_iff.2 hne
  unfold runes
  obtain ⟨n, hn⟩ : ∃ n, l.length = n + 1 := ⟨l.length - 1, by omega⟩
  rw [hn]
  simp only [dec, if_neg hne]
  rw [dec_fuel n _ _ (by rw [List.length_drop]; omega) (Nat.le_refl _)]
theorem runes_eq_nil {l : List UInt8} (h : runes l = []) : l = [] := by
  by_cases hne : l = []
  · exact hne
  · rw [runes_step l hne] at h
    cases h
theorem runes_length (l : List UInt8) : (runes l).length ≤ l.length := by
  unfold runes
  suffices h : ∀ (n : Nat) (l : List UInt8), (dec n l).length ≤ n from h _ _
  intro n
  induction n with
  | zero => intro l; simp [dec]
  | succ n ih =>
    intro l
    unfold dec
    split
    · simp
    · have := ih (l.drop (decodeL l).2)
      simp
      omega

/-- A rune that may be written. -/
def Ok (r : Int) : Prop := (0 ≤ r ∧ r < 55296) ∨ (57344 ≤ r ∧ r ≤ 1114111)

theorem decodeL_ok (l : List UInt8) : Ok ((decodeL l).1 : Int) := by
  rw [decodeL_N]
  have k0 := (l.getD 0 0).toNat_lt
  have k1 := (l.getD 1 0).toNat_lt
  have k2 := (l.getD 2 0).toNat_lt
  have k3 := (l.getD 3 0).toNat_lt
  unfold Ok
  rcases decodeN_shape l.length (l.getD 0 0).toNat (l.getD 1 0).toNat (l.getD 2 0).toNat (l.getD 3 0).toNat with ⟨c, e⟩ | ⟨c1, c2, c3, cv, e⟩ | ⟨c1, c2, c3, c4, cv, cs, e⟩ | ⟨c1, c2, c3, c4, c5, cv, cw, e⟩ | e
  all_goals (rw [e]; dsimp only; omega)
theorem runes_ok (l : List UInt8) : ∀ r ∈ runes l, Ok r := by
  unfold runes
  suffices h : ∀ (n : Nat) (l : List UInt8), ∀ r ∈ dec n l, Ok r from h _ _
  intro n
  induction n with
  | zero => intro l r h; simp [dec] at h
  | succ n ih =>
    intro l r h
    unfold dec at h
    split at h
    · cases h
    · rcases List.mem_cons.1 h with h | h
      · rw [h]; exact decodeL_ok l
      · exact ih _ r h

/-! ### 2. bytes behind bytes -/
theorem decodeN_cut (n n' b0 b1 b2 b3 c1 c2 c3 : Nat) (hn : 1 ≤ n) (hnn : n ≤ n') (h1 : 1 < n → b1 = c1) (h2 : 2 < n → b2 = c2) (h3 : 3 < n → b3 = c3)
    (g1 : n = 1 → 1 < n' → c1 / 64 ≠ 2) (g2 : n = 2 → 2 < n' → c2 / 64 ≠ 2) (g3 : n = 3 → 3 < n' → c3 / 64 ≠ 2) : decodeN n' b0 c1 c2 c3 = decodeN n b0 b1 b2 b3 := by
  by_cases e1 : n = 1
  · subst e1
    have k : ¬ (1 < n' ∧ c1 / 64 = 2) := fun h => g1 rfl h.1 h.2
    have k' : ¬ (1 < 1 ∧ b1 / 64 = 2) := fun h => absurd h.1 (by omega)
    simp only [decodeN, k, k', false_and, and_false, if_false]
  · obtain rfl := h1 (by omega)
    by_cases e2 : n = 2
    · subst e2
      have k : ¬ (2 < n' ∧ c2 / 64 = 2) := fun h => g2 rfl h.1 h.2
      have k' : ¬ (2 < 2 ∧ b2 / 64 = 2) := fun h => absurd h.1 (by omega)
      have k1 : (1 < n') = True := by simp; omega
      have k1' : (1 < 2) = True := by simp
      simp only [decodeN, k, k', k1, k1', false_and, and_false, if_false, true_and]
    · obtain rfl := h2 (by omega)
      by_cases e3 : n = 3
      · subst e3
        have k : ¬ (3 < n' ∧ c3 / 64 = 2) := fun h => g3 rfl h.1 h.2
        have k' : ¬ (3 < 3 ∧ b3 / 64 = 2) := fun h => absurd h.1 (by omega)
        have k1 : (1 < n') = True := by simp; omega
        have k1' : (1 < 3) = True := by simp
        have k2 : (2 < n') = True := by simp; omega
        have k2' : (2 < 3) = True := by simp
        simp only [decodeN, k, k', k1, k1', k2, k2', false_and, and_false, if_false, true_and]
      · obtain rfl := h3 (by omega)
        have k1 : (1 < n') = True := by simp; omega
        have k1' : (1 < n) = True := by simp; omega
        have k2 : (2 < n') = True := by simp; omega
        have k2' : (2 < n) = True := by simp; omega
        have k3 : (3 < n') = True := by simp; omega
        have k3' : (3 < n) = True := by simp; omega
        simp only [decodeN, k1, k1', k2, k2', k3, k3', true_and]

/-- What begins with no byte that goes on with another one. -/
def Fresh (t : List UInt8) : Prop := ∀ c t', t = c :: t' → c.toNat / 64 ≠ 2

theorem decodeL_append (s t : List UInt8) (hs : s ≠ []) (ht : Fresh t) : decodeL (s ++ t) = decodeL s := by
  rw [decodeL_N, decodeL_N]
  have hl : 0 < s.length := List.length_pos_iff.2 hs
  have at_ : ∀ k, k < s.length → (s ++ t).getD k 0 = s.getD k 0 := by
    intro k hk
    simp [List.getD, List.getElem?_append_left hk]
  have behind : ∀ k, k = s.length → k < (s ++ t).length → ((s ++ t).getD k 0).toNat / 64 ≠ 2 := by
    intro k hk hk2
    subst hk
    cases t with
    | nil => simp at hk2
    | cons c t' =>
      have : (s ++ c :: t').getD s.length 0 = c := by simp [List.getD]
      rw [this]
      exact ht c t' rfl
  rw [at_ 0 hl]
  refine decodeN_cut _ _ _ _ _ _ _ _ _ hl (by simp) ?_ ?_ ?_ ?_ ?_ ?_
  · intro h; rw [at_ 1 h]
  · intro h; rw [at_ 2 h]
  · intro h; rw [at_ 3 h]
  · intro h h'; exact behind 1 h.symm h'
  · intro h h'; exact behind 2 h.symm h'
  · intro h h'; exact behind 3 h.symm h'

theorem runes_append (t : List UInt8) (ht : Fresh t) : ∀ (n : Nat) (s : List UInt8), s.length ≤ n → runes (s ++ t) = runes s ++ runes t := by
  intro n
  induction n with
  | zero =>
    intro s hs
    have : s = [] := List.eq_nil_of_length_eq_zero (by omega)
    subst this
    simp [runes_nil]
  | succ n ih =>
    intro s hs
    by_cases hne : s = []
    · subst hne
      simp [runes_nil]
    · have hw := decodeL_width s
      have hl : 0 < s.length := List.length_pos_iff.2 hne
      have hle := decodeL_le s hne
      rw [runes_step s hne, runes_step (s ++ t) (by simp [hne]), decodeL_append s t hne ht, List.drop_append_of_le_length hle, ih _ (by rw [List.length_drop]; omega)]
      rfl

theorem decodeL_ascii (c : UInt8) (l : List UInt8) (h : c.toNat < 128) : decodeL (c :: l) = (c.toNat, 1) := by
  rw [decodeL_N]
  simp only [List.getD_cons_zero, decodeN, if_pos h]
theorem runes_ascii (c : UInt8) (l : List UInt8) (h : c.toNat < 128) : runes (c :: l) = (c.toNat : Int) :: runes l := by
  rw [runes_step _ (by simp), decodeL_ascii c l h]
  rfl
theorem fresh_ascii (c : UInt8) (l : List UInt8) (h : c.toNat < 128) : Fresh (c :: l) := by
  intro d t' e
  cases e
  omega
theorem fresh_nil : Fresh [] := by intro c t' e; cases e

/-! ### 3. what is written is read -/
theorem toU8 (z : Int) (h0 : 0 ≤ z) (h1 : z < 256) : (z.toNat.toUInt8).toNat = z.toNat := by
  simp
  omega
theorem encodeRune_length (r : Int) : 1 ≤ (encodeRune r).length := by
  have := encodeRuneZ_length r
  simpa [encodeRune] using this.1
theorem encodeRune_le (r : Int) : (encodeRune r).length ≤ 4 := by
  have := encodeRuneZ_length r
  simpa [encodeRune] using this.2
theorem encodeRune_ne (r : Int) : encodeRune r ≠ [] := by
  intro h
  have := encodeRune_length r
  rw [h] at this
  simp at this

theorem decodeL_encode (r : Int) (h : Ok r) (t : List UInt8) : decodeL (encodeRune r ++ t) = (r.toNat, (encodeRune r).length) := by
  rw [decodeL_N]
  unfold Ok at h
  unfold encodeRune
  by_cases a : r ≤ 127
  · rw [encodeRuneZ_one (by omega) a]
    simp only [List.map_cons, List.map_nil, List.cons_append, List.nil_append, List.getD_cons_zero, List.length_cons, List.length_nil]
    rw [toU8 r (by omega) (by omega)]
    have : r.toNat < 128 := by omega
    simp [decodeN, this]
  by_cases b : r ≤ 2047
  · rw [encodeRuneZ_two (by omega) b]
    simp only [List.map_cons, List.map_nil, List.cons_append, List.nil_append, List.getD_cons_zero, List.getD_cons_succ, List.length_cons, List.length_nil]
    rw [toU8 (192 + r / 64) (by omega) (by omega), toU8 (128 + r % 64) (by omega) (by omega)]
    unfold decodeN
    rw [if_neg (by omega), if_pos (by omega), if_pos (by omega)]
    congr 1
    omega
  by_cases c : r ≤ 65535
  · rw [encodeRuneZ_three (by omega)]
    simp only [List.map_cons, List.map_nil, List.cons_append, List.nil_append, List.getD_cons_zero, List.getD_cons_succ, List.length_cons, List.length_nil]
    rw [toU8 (224 + r / 4096) (by omega) (by omega), toU8 (128 + r / 64 % 64) (by omega) (by omega), toU8 (128 + r % 64) (by omega) (by omega)]
    unfold decodeN
    rw [if_neg (by omega), if_neg (by omega), if_pos (by omega), if_pos (by omega)]
    congr 1
    omega
  · rw [encodeRuneZ_four (by omega) (by omega)]
    simp only [List.map_cons, List.map_nil, List.cons_append, List.nil_append, List.getD_cons_zero, List.getD_cons_succ, List.length_cons, List.length_nil]
    rw [toU8 (240 + r / 262144) (by omega) (by omega), toU8 (128 + r / 4096 % 64) (by omega) (by omega), toU8 (128 + r / 64 % 64) (by omega) (by omega), toU8 (128 + r % 64) (by omega) (by omega)]
    unfold decodeN
    rw [if_neg (by omega), if_neg (by omega), if_neg (by omega), if_pos (by omega), if_pos (by omega)]
    congr 1
    omega

theorem enc_nil : enc [] = [] := rfl
theorem enc_cons (r : Int) (rs : List Int) : enc (r :: rs) = encodeRune r ++ enc rs := by simp [enc]
theorem enc_append (a b : List Int) : enc (a ++ b) = enc a ++ enc b := by simp [enc]
theorem enc_one (r : Int) : enc [r] = encodeRune r := by simp [enc]
theorem enc_eq_nil {rs : List Int} : enc rs = [] ↔ rs = [] := by
  cases rs with
  | nil => simp [enc]
  | cons r rs =>
    rw [enc_cons]
    simp [encodeRune_ne]
theorem enc_length (rs : List Int) : (enc rs).length ≤ 4 * rs.length := by
  induction rs with
  | nil => simp [enc]
  | cons r rs ih =>
    rw [enc_cons, List.length_append, List.length_cons]
    have := encodeRune_le r
    omega
theorem runes_enc : ∀ rs : List Int, (∀ r ∈ rs, Ok r) → runes (enc rs) = rs
  | [], _ => rfl
  | r :: rs, h => by
    have hr := h r (by simp)
    rw [enc_cons, runes_step _ (by simp [encodeRune_ne]), decodeL_encode r hr, List.drop_left, runes_enc rs (fun q hq => h q (by simp [hq]))]
    have : (0 : Int) ≤ r := by unfold Ok at hr; omega
    simp only [List.cons.injEq, and_true]
    omega

/-! ### 4. prepared -/
def blank (c : Int) : Prop := (9 ≤ c ∧ c ≤ 13) ∨ c = 32 ∨ c = 0x85 ∨ c = 0xa0 ∨ (0x2000 ≤ c ∧ c ≤ 0x200a) ∨ c = 0x2028 ∨ c = 0x2029 ∨ c = 0x202f ∨ c = 0x3000
def nothing (c : Int) : Prop := c = 0xad ∨ (0x200b ≤ c ∧ c ≤ 0x200d) ∨ c = 0xfeff
def great (c : Int) : Prop := (65 ≤ c ∧ c ≤ 90) ∨ (0xc0 ≤ c ∧ c ≤ 0xd6) ∨ (0xd8 ≤ c ∧ c ≤ 0xde) ∨ (0x391 ≤ c ∧ c ≤ 0x3a1) ∨ (0x3a3 ≤ c ∧ c ≤ 0x3a9) ∨ (0x410 ≤ c ∧ c ≤ 0x42f)
instance (c : Int) : Decidable (blank c) := by unfold blank; infer_instance
instance (c : Int) : Decidable (nothing c) := by unfold nothing; infer_instance
instance (c : Int) : Decidable (great c) := by unfold great; infer_instance
def kind (c : Int) : Int := if nothing c then -1 else if blank c then 32 else if great c then c + 32 else c
def kinds (rs : List Int) : List Int := (rs.map kind).filter fun c => decide (0 ≤ c)

def pstep (a : List Int × Bool) (c : Int) : List Int × Bool := if c = 32 then (a.1, !a.1.isEmpty) else ((if a.2 then a.1 ++ [32] else a.1) ++ [c], false)
def pfold (a : List Int × Bool) (m : List Int) : List Int × Bool := m.foldl pstep a
def norm (m : List Int) : List Int := (pfold ([], false) m).1
def prep (l : List UInt8) : List UInt8 := enc (norm (kinds (runes l)))

theorem kinds_nil : kinds [] = [] := rfl
theorem kinds_append (a b : List Int) : kinds (a ++ b) = kinds a ++ kinds b := by simp [kinds]
theorem kinds_cons (r : Int) (rs : List Int) : kinds (r :: rs) = (if 0 ≤ kind r then [kind r] else []) ++ kinds rs := by
  by_cases h : 0 ≤ kind r
  · simp [kinds, h]
  · simp [kinds, h]
theorem pfold_nil (a : List Int × Bool) : pfold a [] = a := rfl
theorem pfold_cons (a : List Int × Bool) (c : Int) (m : List Int) : pfold a (c :: m) = pfold (pstep a c) m := rfl
theorem pfold_append (a : List Int × Bool) (x y : List Int) : pfold a (x ++ y) = pfold (pfold a x) y := by simp [pfold]

theorem kind_ok {c : Int} (h : Ok c) (h0 : 0 ≤ kind c) : Ok (kind c) := by
  unfold Ok at *
  unfold kind nothing blank great at *
  repeat' split
  all_goals omega
/-- What is kept stays as it is. -/
theorem kind_kind {c : Int} (h : Ok c) (h0 : 0 ≤ kind c) : kind (kind c) = kind c := by
  have a : (kind c = 32) ∨ (¬ nothing (kind c) ∧ ¬ blank (kind c) ∧ ¬ great (kind c)) := by
    unfold Ok at h
    unfold kind at h0 ⊢
    split at h0
    · omega
    · rename_i hn
      rw [if_neg hn] 
      split
      · left; rfl
      · rename_i hb
        right
        split
        · unfold nothing blank great at *; omega
        · rename_i hg
          exact ⟨hn, hb, hg⟩
  rcases a with a | ⟨a, b, d⟩
  · rw [a]; decide
  · generalize kind c = k at a b d ⊢
    unfold kind
    rw [if_neg a, if_neg b, if_neg d]

theorem kinds_fix {rs : List Int} (h : ∀ r ∈ rs, 0 ≤ r ∧ kind r = r) : kinds rs = rs := by
  induction rs with
  | nil => rfl
  | cons r rs ih =>
    have hr := h r (by simp)
    rw [kinds_cons, hr.2, if_pos hr.1, ih (fun q hq => h q (by simp [hq]))]
    rfl
theorem kinds_mem {rs : List Int} (h : ∀ r ∈ rs, Ok r) : ∀ c ∈ kinds rs, Ok c ∧ 0 ≤ c ∧ kind c = c := by
  intro c hc
  simp only [kinds, List.mem_filter, List.mem_map, decide_eq_true_eq] at hc
  obtain ⟨⟨r, hr, rfl⟩, h0⟩ := hc
  exact ⟨kind_ok (h r hr) h0, h0, kind_kind (h r hr) h0⟩

theorem pfold_mem (P : Int → Prop) (h32 : P 32) : ∀ (m : List Int) (a : List Int × Bool), (∀ c ∈ a.1, P c) → (∀ c ∈ m, P c) → ∀ c ∈ (pfold a m).1, P c
  | [], a, ha, _ => ha
  | c :: m, a, ha, hm => by
    rw [pfold_cons]
    refine pfold_mem P h32 m _ ?_ (fun d hd => hm d (by simp [hd]))
    intro d hd
    unfold pstep at hd
    split at hd
    · exact ha d hd
    · simp only [List.mem_append, List.mem_singleton] at hd
      rcases hd with hd | hd
      · split at hd
        · simp only [List.mem_append, List.mem_singleton] at hd
          rcases hd with hd | rfl
          · exact ha d hd
          · exact h32
        · exact ha d hd
      · rw [hd]; exact hm c (by simp)
theorem ok32 : Ok 32 ∧ (0 : Int) ≤ 32 ∧ kind 32 = 32 := ⟨by unfold Ok; omega, by omega, by decide⟩
theorem norm_mem {rs : List Int} (h : ∀ r ∈ rs, Ok r) : ∀ c ∈ norm (kinds rs), Ok c ∧ 0 ≤ c ∧ kind c = c :=
  pfold_mem _ ok32 _ _ (by simp) (kinds_mem h)

/-- The state has begun: a blank that waits comes ahead of what comes. -/
def pout (a : List Int × Bool) : List Int := if a.2 then a.1 ++ [32] else a.1
theorem pfold_begun (o : List Int) (ho : o ≠ []) : ∀ (m p : List Int) (w : Bool), p ≠ [] → pfold (o ++ [32] ++ p, w) m = (o ++ [32] ++ (pfold (p, w) m).1, (pfold (p, w) m).2)
  | [], p, w, _ => rfl
  | c :: m, p, w, hp => by
    rw [pfold_cons, pfold_cons]
    unfold pstep
    by_cases h : c = 32
    · rw [if_pos h, if_pos h]
      have e : (!(o ++ [32] ++ p).isEmpty) = (!p.isEmpty) := by
        cases p with
        | nil => exact absurd rfl hp
        | cons _ _ => simp
      simp only [e]
      exact pfold_begun o ho m p _ hp
    · rw [if_neg h, if_neg h]
      cases w with
      | true =>
        simp only [if_true]
        have := pfold_begun o ho m (p ++ [32] ++ [c]) false (by simp)
        simp only [List.append_assoc] at this ⊢
        exact this
      | false =>
        simp only [Bool.false_eq_true, if_false]
        have := pfold_begun o ho m (p ++ [c]) false (by simp)
        simp only [List.append_assoc] at this ⊢
        exact this
/-- Behind a blank: what comes is prepared for itself. -/
theorem pfold_behind (o : List Int) (ho : o ≠ []) : ∀ (m : List Int), (pfold (o, true) m).1 = if norm m = [] then o else o ++ [32] ++ norm m
  | [] => by simp [pfold_nil, norm]
  | c :: m => by
    unfold norm
    rw [pfold_cons, pfold_cons]
    unfold pstep
    by_cases h : c = 32
    · rw [if_pos h, if_pos h]
      have e : (!o.isEmpty) = true := by
        cases o with
        | nil => exact absurd rfl ho
        | cons _ _ => rfl
      simp only [e]
      exact pfold_behind o ho m
    · rw [if_neg h, if_neg h]
      simp only [if_true, Bool.false_eq_true, if_false, List.nil_append]
      rw [pfold_begun o ho m [c] false (by simp)]
      have hne : (pfold ([c], false) m).1 ≠ [] := pfold_ne m [c] false (by simp)
      rw [if_neg hne]
where
  pfold_ne : ∀ (m p : List Int) (w : Bool), p ≠ [] → (pfold (p, w) m).1 ≠ []
    | [], p, w, h => h
    | c :: m, p, w, h => by
      rw [pfold_cons]
      unfold pstep
      split
      · exact pfold_ne m p _ h
      · exact pfold_ne m _ _ (by simp)
theorem pfold_any (m : List Int) : ∀ (p : List Int) (w : Bool), (p = [] → w = false) → ((pfold (p, w) m).1 = [] → (pfold (p, w) m).2 = false) := by
  induction m with
  | nil => intro p w h h'; exact h h'
  | cons c m ih =>
    intro p w h
    rw [pfold_cons]
    unfold pstep
    split
    · exact ih p _ (by intro e; subst e; rfl)
    · exact ih _ _ (by simp)
theorem norm_joined (x y : List Int) : norm (x ++ [32] ++ y) = if norm x = [] then norm y else if norm y = [] then norm x else norm x ++ [32] ++ norm y := by
  have hx := pfold_any x [] false (fun _ => rfl)
  have e : norm (x ++ [32] ++ y) = (pfold (pstep (pfold ([], false) x) 32) y).1 := by
    unfold norm
    rw [pfold_append, pfold_append]
    rfl
  rw [e]
  unfold norm
  generalize pfold ([], false) x = a at hx
  obtain ⟨o, w⟩ := a
  simp only at hx ⊢
  by_cases ho : o = []
  · subst ho
    have : pstep ([], w) 32 = ([], false) := rfl
    rw [this, if_pos rfl]
  · have : pstep (o, w) 32 = (o, true) := by
      unfold pstep
      cases o with
      | nil => exact absurd rfl ho
      | cons _ _ => rfl
    rw [this, if_neg ho, pfold_behind o ho y]
    rfl
theorem norm_blank_left (m : List Int) : norm ([32] ++ m) = norm m := by
  have := norm_joined [] m
  simpa [norm, pfold_nil] using this
theorem norm_blank_right (m : List Int) : norm (m ++ [32]) = norm m := by
  have := norm_joined m []
  simp only [List.append_nil] at this
  rw [this]
  have e : norm [] = [] := rfl
  rw [e]
  simp
theorem norm_blank_twice (x y : List Int) : norm (x ++ [32] ++ [32] ++ y) = norm (x ++ [32] ++ y) := by
  rw [norm_joined (x ++ [32]) y, norm_blank_right, norm_joined x y]

/-- No blank ahead, none behind, and no two beside each other: it stays. -/
def Tidy : Bool → List Int → Prop   -- the flag: something other than a blank stands ahead
  | _, [] => True
  | f, c :: m => if c = 32 then f = true ∧ m ≠ [] ∧ Tidy false m else Tidy true m
theorem pfold_tidy : ∀ (m : List Int) (o : List Int), (o ≠ [] → Tidy true m → (pfold (o, false) m).1 = o ++ m) ∧ (o ≠ [] → m ≠ [] → Tidy false m → (pfold (o, true) m).1 = o ++ [32] ++ m) ∧ (o = [] → Tidy false m → (pfold (o, false) m).1 = m)
  | [], o => ⟨fun _ _ => by simp [pfold_nil], fun _ h => absurd rfl h, fun h _ => by simp [pfold_nil, h]⟩
  | c :: m, o => by
    refine ⟨fun ho ht => ?_, fun ho _ ht => ?_, fun ho ht => ?_⟩
    · rw [pfold_cons]
      unfold pstep
      unfold Tidy at ht
      by_cases h : c = 32
      · rw [if_pos h] at ht ⊢
        have e : (!o.isEmpty) = true := by
          cases o with
          | nil => exact absurd rfl ho
          | cons _ _ => rfl
        simp only [e]
        rw [(pfold_tidy m o).2.1 ho ht.2.1 ht.2.2, h]
        simp
      · rw [if_neg h] at ht ⊢
        simp only [Bool.false_eq_true, if_false]
        rw [(pfold_tidy m (o ++ [c])).1 (by simp) ht]
        simp
    · rw [pfold_cons]
      unfold pstep
      unfold Tidy at ht
      by_cases h : c = 32
      · rw [if_pos h] at ht
        exact absurd ht.1 (by simp)
      · rw [if_neg h] at ht ⊢
        simp only [if_true]
        rw [(pfold_tidy m (o ++ [32] ++ [c])).1 (by simp) ht]
        simp
    · subst ho
      rw [pfold_cons]
      unfold pstep
      unfold Tidy at ht
      by_cases h : c = 32
      · rw [if_pos h] at ht
        exact absurd ht.1 (by simp)
      · rw [if_neg h] at ht ⊢
        simp only [Bool.false_eq_true, if_false, List.nil_append]
        rw [(pfold_tidy m [c]).1 (by simp) ht]
        simp
theorem tidy_append : ∀ (o : List Int) (f : Bool) (c : Int), c ≠ 32 → Tidy f o → Tidy f (o ++ [c]) 
  | [], f, c, h, _ => by simp [Tidy, h]
  | d :: o, f, c, h, ht => by
    simp only [List.cons_append, Tidy] at ht ⊢
    by_cases e : d = 32
    · rw [if_pos e] at ht ⊢
      exact ⟨ht.1, by simp, tidy_append o _ c h ht.2.2⟩
    · rw [if_neg e] at ht ⊢
      exact tidy_append o _ c h ht
theorem tidy_append2 : ∀ (o : List Int) (f : Bool) (c : Int), c ≠ 32 → (o = [] → f = true) → Tidy f o → Tidy f (o ++ [32] ++ [c])
  | [], f, c, h, hf, _ => by simp [Tidy, h, hf rfl]
  | d :: o, f, c, h, hf, ht => by
    simp only [List.cons_append, Tidy] at ht ⊢
    by_cases e : d = 32
    · rw [if_pos e] at ht ⊢
      exact ⟨ht.1, by simp, tidy_append2 o _ c h (fun e' => absurd e' ht.2.1) ht.2.2⟩
    · rw [if_neg e] at ht ⊢
      exact tidy_append2 o _ c h (fun _ => rfl) ht
theorem pfold_is_tidy : ∀ (m : List Int) (o : List Int) (w : Bool), (o = [] → w = false) → Tidy false o → Tidy false (pfold (o, w) m).1
  | [], o, w, _, h => h
  | c :: m, o, w, hw, h => by
    rw [pfold_cons]
    unfold pstep
    by_cases e : c = 32
    · rw [if_pos e]
      exact pfold_is_tidy m o _ (by intro e'; subst e'; rfl) h
    · rw [if_neg e]
      cases w with
      | true => exact pfold_is_tidy m _ _ (by simp) (by simpa using tidy_append2 o false c e (fun e' => by simpa using hw e') h)
      | false => exact pfold_is_tidy m _ _ (by simp) (by simpa using tidy_append o false c e h)
theorem norm_norm (m : List Int) : norm (norm m) = norm m :=
  (pfold_tidy (norm m) []).2.2 rfl (pfold_is_tidy m [] false (fun _ => rfl) (by simp [Tidy]))

/-! ### 5. prepared texts -/
/-- **Prepared is prepared already.** -/
theorem prep_prep (l : List UInt8) : prep (prep l) = prep l := by
  have h := norm_mem (runes_ok l)
  unfold prep
  rw [runes_enc _ (fun r hr => (h r hr).1), kinds_fix (fun r hr => (h r hr).2), norm_norm]
theorem prep_eq_nil (l : List UInt8) : prep l = [] ↔ norm (kinds (runes l)) = [] := enc_eq_nil
theorem prep_length (l : List UInt8) : (prep l).length ≤ 4 * l.length := by
  unfold prep
  refine Nat.le_trans (enc_length _) ?_
  have h1 := runes_length l
  have h2 : (kinds (runes l)).length ≤ (runes l).length := by
    unfold kinds
    refine Nat.le_trans (List.length_filter_le _ _) (by simp)
  have h3 : ∀ (m : List Int) (o : List Int) (w : Bool), (pfold (o, w) m).1.length + 0 ≤ o.length + (if w then 1 else 0) + m.length := by
    intro m
    induction m with
    | nil => intro o w; simp [pfold_nil]
    | cons c m ih =>
      intro o w
      rw [pfold_cons]
      unfold pstep
      by_cases e : c = 32
      · rw [if_pos e]
        have := ih o (!o.isEmpty)
        have : (if (!o.isEmpty) = true then 1 else 0) ≤ 1 := by split <;> omega
        simp only [List.length_cons] at *
        omega
      · rw [if_neg e]
        cases w with
        | true =>
          have := ih (o ++ [32] ++ [c]) false
          simp only [List.length_append, List.length_cons, List.length_nil, Bool.false_eq_true, if_false, if_true] at *
          omega
        | false =>
          have := ih (o ++ [c]) false
          simp only [List.length_append, List.length_cons, List.length_nil, Bool.false_eq_true, if_false] at *
          omega
  have h4 := h3 (kinds (runes l)) [] false
  simp only [List.length_nil, Bool.false_eq_true, if_false] at h4
  unfold norm
  omega

end Go.Proofs.YtpbbcjkbeodeiaaDoor.Tx
