/- The law TextsYears: what its walk computes is true. No condition. -/
import Derived.Test.YtgpghjmoapffcaaDoorXY1
import Derived.Test.YtgpghjmoapffcaaDoorOpn
set_option linter.unusedVariables false
set_option linter.unusedSimpArgs false
namespace Go.Proofs.YtgpghjmoapffcaaDoor
open Go.RowKit Go.Proofs.YtgpghjmoapffcaaDoorW.PrintWords
namespace Yr
open XY
theorem two_ok (x : Int) (h0 : 0 ≤ x) (h1 : x ≤ 99) : ∀ b ∈ PutT.two x, 0 ≤ b ∧ b ≤ 9 := by
  intro b hb
  unfold PutT.two at hb
  rw [Civ.td _ _ h0, Civ.tm _ _ h0, Civ.wr _ (by omega) (by omega)] at hb
  simp only [List.mem_cons, List.mem_nil_iff, or_false] at hb
  rcases hb with rfl | rfl <;> omega
theorem head_ok (y : Int) (h0 : 0 ≤ y) (h1 : y ≤ 9999) : ∀ b ∈ PutT.head y, 0 ≤ b ∧ b ≤ 9 := by
  intro b hb
  unfold PutT.head at hb
  rw [Civ.td _ _ h0, Civ.td _ _ h0, Civ.wr (y / 1000) (by omega) (by omega), Civ.wr (y / 100) (by omega) (by omega), Civ.tm _ _ (by omega)] at hb
  simp only [List.mem_cons, List.mem_nil_iff, or_false] at hb
  rcases hb with rfl | rfl <;> omega
theorem raw_ok (y m d n : Int) (hy0 : 0 ≤ y) (hy1 : y ≤ 9999) (hm0 : 0 ≤ m) (hm1 : m ≤ 99) (hd0 : 0 ≤ d) (hd1 : d ≤ 99) (hn : 0 ≤ n) : ∀ b ∈ PutT.raw y m d n, 0 ≤ b ∧ b ≤ 9 := by
  intro b hb
  unfold PutT.raw at hb
  rw [List.mem_append] at hb
  rcases hb with hb | hb
  · exact head_ok y hy0 hy1 b hb
  · obtain ⟨x, hx, hb⟩ := List.mem_flatMap.1 hb
    refine two_ok x ?_ ?_ b hb
    all_goals
      unfold PutT.items at hx
      rw [Civ.tm _ _ hy0, Civ.tm n 86400 hn, Civ.tm n 60 hn, Civ.td _ _ (by omega), Civ.td _ _ (by omega), Civ.wr (n % 86400 / 3600) (by omega) (by omega), Civ.wr (n % 86400 / 60) (by omega) (by omega), Civ.tm _ _ (by omega)] at hx
      simp only [List.mem_cons, List.mem_nil_iff, or_false] at hx
      rcases hx with rfl | rfl | rfl | rfl | rfl | rfl <;> omega
/-- A body: digits, and a Z. -/
def Body (l : List Int) : Prop := ∃ p : List Int, l = p ++ [90] ∧ ∀ b ∈ p, 48 ≤ b ∧ b ≤ 57
theorem out_body (y m d n : Int) (h : ∀ b ∈ PutT.raw y m d n, 0 ≤ b ∧ b ≤ 9) : Body (PutT.out y m d n) := by
  refine ⟨(PutT.raw y m d n).map PutT.up, rfl, fun b hb => ?_⟩
  obtain ⟨x, hx, rfl⟩ := List.mem_map.1 hb
  have := h x hx
  unfold PutT.up
  omega
theorem body_drop {l : List Int} (h : Body l) (hl : 2 < l.length) : Body (l.drop 2) := by
  obtain ⟨p, rfl, hp⟩ := h
  simp at hl
  refine ⟨p.drop 2, by rw [List.drop_append_of_le_length (by omega)], fun b hb => hp b (List.mem_of_mem_drop hb)⟩
theorem putf (a : Int) (h0 : -631152000 ≤ a) (h1 : a ≤ 253402300799) : ∃ y m d : Int, Civ.civ ((a + 631152000) / 86400 + 712163) = (y, m, d) ∧ (y < 2050 ↔ a < 2524608000) ∧ 1950 ≤ y ∧ y ≤ 9999 ∧ 1 ≤ m ∧ m ≤ 12 ∧ 1 ≤ d ∧ d ≤ 31 ∧
    texts_PutTime.f a = some (if y < 2050 then 23 else 24, if y < 2050 then (PutT.out y m d (a + 631152000)).drop 2 else PutT.out y m d (a + 631152000), 0) := by
  have hb := Civ.civ_bounds ((a + 631152000) / 86400 + 712163) (by omega) (by omega)
  obtain ⟨⟨y, m, d⟩, hc⟩ : ∃ q, Civ.civ ((a + 631152000) / 86400 + 712163) = q := ⟨_, rfl⟩
  rw [hc] at hb
  simp only at hb
  refine ⟨y, m, d, hc, ⟨fun h => by have := hb.2.2.2.2.2.2.1 h; omega, fun h => hb.2.2.2.2.2.2.2 (by omega)⟩, hb.1, hb.2.1, hb.2.2.1, hb.2.2.2.1, hb.2.2.2.2.1, hb.2.2.2.2.2.1, ?_⟩
  unfold texts_PutTime.f texts_civil.f
  rw [if_neg (by omega), Civ.wr (a + 631152000) (by omega) (by omega), Civ.td _ _ (by omega), Civ.wr ((a + 631152000) / 86400) (by omega) (by omega), Civ.wr ((a + 631152000) / 86400 - 7305) (by omega) (by omega)]
  rw [if_pos (by omega), show (a + 631152000) / 86400 - 7305 + 719468 = (a + 631152000) / 86400 + 712163 by omega, hc]
  rfl
theorem rd_at (l : List Int) (i : Nat) (h : i < l.length) : rd l (i : Int) = l[i] := by
  unfold rd
  rw [Int.toNat_natCast, getD_eq _ _ _ h]
theorem loop (early : Bool) (t : Int) (p : List Int) (hp : ∀ b ∈ p, 48 ≤ b ∧ b ≤ 57) (hlen : p.length ≤ 100) (hok : if early = true then t = 23 ∧ p.length = 12 else t = 24 ∧ p.length = 14) :
    ∀ (n i : Nat), i + n = p.length → warderlaw03_TextsYears.l0 (n + 1) true t (p ++ [90]) early (i : Int) = some true
  | 0, i, hi => by
    have hl : ((p ++ [90]).length : Int) = i + 1 := by simp; omega
    have h90 : rd (p ++ [90]) (i : Int) = 90 := by
      rw [rd_at _ _ (by simp; omega)]
      simp [List.getElem_append_right (show p.length ≤ i by omega)]
    unfold warderlaw03_TextsYears.l0
    rw [hl, wrap64_succ (n := p.length + 1) (by omega) (by omega) (by omega), if_neg (by omega), if_pos rfl, Civ.wr ((i : Int) + 1 - 1) (by omega) (by omega), show (i : Int) + 1 - 1 = i by omega, if_pos (by omega), if_pos (by omega), h90, if_pos rfl]
    cases early with
    | true =>
      rw [if_pos rfl] at hok
      rw [if_pos rfl, if_pos hok.1, if_pos (by omega)]
    | false =>
      rw [if_neg (by decide)] at hok
      rw [if_neg (by decide), if_pos hok.1]
      congr 1
      rw [beq_iff_eq]
      omega
  | n + 1, i, hi => by
    have hl : ((p ++ [90]).length : Int) = p.length + 1 := by simp
    have hlt : i < p.length := by omega
    have hb := hp p[i] (List.getElem_mem hlt)
    have hrd : rd (p ++ [90]) (i : Int) = p[i] := by
      rw [rd_at _ _ (by simp; omega)]
      simp [List.getElem_append_left hlt]
    have ih := loop early t p hp hlen hok n (i + 1) (by omega)
    unfold warderlaw03_TextsYears.l0
    rw [hl, wrap64_succ (n := p.length + 1) (by omega) (by omega) (by omega), if_pos (by omega), if_pos (by omega), if_pos (by omega), hrd, if_neg (by omega), if_neg (by omega)]
    exact ih
theorem mono2 (k : Nat) (x3 : Bool) (x4 : Int) (x5 : List Int) (x7 : Bool) (x8 : Int) (r : Bool) (_ : Unit) (h : warderlaw03_TextsYears.l0 k x3 x4 x5 x7 x8 = some r) : warderlaw03_TextsYears.l0 (k + 2) x3 x4 x5 x7 x8 = some r :=
  warderlaw03_TextsYears.mono_l (k + 1) _ _ _ _ _ _ (warderlaw03_TextsYears.mono_l k _ _ _ _ _ _ h)
theorem f_true (a : Int) : ∃ k, warderlaw03_TextsYears.f k a = some true := by
  by_cases hr : -631152000 ≤ a ∧ a ≤ 253402300799
  · obtain ⟨y, m, d, hc, hy, hy0, hy1, hm0, hm1, hd0, hd1, hf⟩ := putf a hr.1 hr.2
    have hraw := raw_ok y m d (a + 631152000) (by omega) (by omega) (by omega) (by omega) (by omega) (by omega) (by omega)
    have hbody := out_body y m d (a + 631152000) hraw
    have hlen := PutT.out_len y m d (a + 631152000)
    refine ⟨15, ?_⟩
    unfold warderlaw03_TextsYears.f
    rw [show warderlaw03_head.f = some true from rfl, Option.bind_some, hf, Option.bind_some, if_pos rfl]
    simp only
    by_cases h2 : y < 2050
    · have hb2 := body_drop hbody (by omega)
      obtain ⟨p, hp, hpd⟩ := hb2
      have hpl : p.length = 12 := by
        have := congrArg List.length hp
        simp [hlen] at this
        omega
      rw [if_pos h2, if_pos h2, hp, decide_eq_true (hy.1 h2)]
      exact mono2 _ _ _ _ _ _ _ () (loop true 23 p hpd (by omega) (by simp [hpl]) 12 0 (by omega))
    · obtain ⟨p, hp, hpd⟩ := hbody
      have hpl : p.length = 14 := by
        have := congrArg List.length hp
        simp [hlen] at this
        omega
      rw [if_neg h2, if_neg h2, hp, decide_eq_false (fun h => h2 (hy.2 h))]
      exact loop false 24 p hpd (by omega) (by simp [hpl]) 14 0 (by omega)
  · refine ⟨0, ?_⟩
    unfold warderlaw03_TextsYears.f texts_PutTime.f
    rw [show warderlaw03_head.f = some true from rfl, Option.bind_some, if_pos (by omega), Option.bind_some]
    simp only
    rw [if_neg (by decide), if_pos trivial, if_pos trivial]
    by_cases h1 : a < -631152000
    · simp [h1]
    · have : a > 253402300799 := by omega
      simp [h1, this]
end Yr
theorem textsYears.law (a : Int) (ha : -9223372036854775808 ≤ a ∧ a < 9223372036854775808) (w : World) :
    Calls Tryd.prog 9 #[.int .i64 a] w fun e w' => e = .returned (.bool true) ∧ Below w.heap.size w w' := by
  obtain ⟨k, hk⟩ := Yr.f_true a
  exact XY.warderlaw03_TextsYears.calls k a true w hk
end Go.Proofs.YtgpghjmoapffcaaDoor
