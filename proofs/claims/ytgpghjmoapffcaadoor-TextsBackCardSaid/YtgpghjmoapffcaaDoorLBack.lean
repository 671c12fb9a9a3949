/- The law TextsBack: what its walk computes is true. No condition. -/
import Derived.Test.YtgpghjmoapffcaaDoorXB1
import Derived.Test.YtgpghjmoapffcaaDoorTimeF
import Derived.Test.YtgpghjmoapffcaaDoorOpn
import Derived.Shelf.Unicode.DecodeSlow
set_option linter.unusedVariables false
set_option linter.unusedSimpArgs false
namespace Go.Proofs.YtgpghjmoapffcaaDoor
open Go.RowKit Go.Proofs.YtgpghjmoapffcaaDoorW.PrintWords
namespace Bk
open XB
theorem in_range (a q1 : Int) (q2 : List Int) (q3 : Int) (h : XY.texts_PutTime.f a = some (q1, q2, q3)) : (q3 == 0) = decide (-631152000 ≤ a ∧ a ≤ 253402300799) := by
  by_cases c : -631152000 ≤ a ∧ a ≤ 253402300799
  · rw [(Tf.time_put a c.1 c.2 q1 q2 q3 h).1, decide_eq_true c]
    rfl
  · unfold XY.texts_PutTime.f at h
    rw [if_pos (by omega)] at h
    have h2 := Option.some.inj h
    simp only [Prod.mk.injEq] at h2
    rw [← h2.2.2, decide_eq_false c]
    rfl
theorem j2_ok (t : Int) (l : List Int) : warderlaw03_TextsBack.j2 1 t l true false = some true := by
  rw [show (1 : Nat) = 0 + 1 from rfl, warderlaw03_TextsBack.j2, if_neg (by decide)]
  obtain ⟨n, g, hn, hg, hx⟩ := Tf.put_time texts_PutTime.f Tf.put_any t l
  rw [show texts_Time.f t l = Tm.time texts_PutTime.f t l from rfl, hn, Option.bind_some]
  simp only
  by_cases h : g = 0
  · obtain ⟨x, hp, hs⟩ := hx h
    rw [if_pos h, hp, Option.bind_some]
    simp only
    rw [if_pos trivial, if_pos trivial, if_pos trivial, hs]
    simp
  · have h0 : n = 0 := by omega
    rw [if_neg h, if_pos trivial, h0]
    rfl
theorem j1_ok (a b t : Int) (l : List Int) (q1 : Int) (q2 : List Int) (q3 s1 : Int) (s2 : List Int) (s3 : Int) (hq : XY.texts_PutTime.f a = some (q1, q2, q3)) (hs : XY.texts_PutTime.f b = some (s1, s2, s3)) :
    warderlaw03_TextsBack.j1 2 a b t l true q1 q2 q3 s1 s2 s3 = some true := by
  have r1 := in_range a q1 q2 q3 hq
  have r2 := in_range b s1 s2 s3 hs
  rw [show (2 : Nat) = 1 + 1 from rfl, warderlaw03_TextsBack.j1]
  by_cases h1 : q3 = 0
  · rw [if_pos h1]
    by_cases h2 : s3 = 0
    · rw [if_pos h2]
      by_cases h3 : q1 = s1
      · rw [if_pos h3]
        by_cases h4 : q1 = 24
        · rw [if_pos h4]
          have e : (decide (a < b) != Op.bytesLess (strOfNums q2).toList (strOfNums s2).toList) = false := by
            subst h1 h2
            rw [h4] at hq
            rw [← h3, h4] at hs
            have k1 := of_decide_eq_true r1.symm
            have k2 := of_decide_eq_true r2.symm
            rcases Int.lt_trichotomy a b with h | h | h
            · rw [decide_eq_true h, Tf.put_lt a b k1.1 k2.2 h q2 s2 hq hs]
              rfl
            · subst h
              rw [hq] at hs
              have h5 := Option.some.inj hs
              simp only [Prod.mk.injEq] at h5
              rw [h5.2.1, Tf.less_irrefl, decide_eq_false (by omega)]
              rfl
            · rw [decide_eq_false (by omega), Tf.less_asymm _ _ (Tf.put_lt b a k2.1 k1.2 h s2 q2 hs hq)]
              rfl
          rw [e]
          exact j2_ok t l
        · rw [if_neg h4]
          exact j2_ok t l
      · rw [if_neg h3]
        exact j2_ok t l
    · rw [if_neg h2]
      exact j2_ok t l
  · rw [if_neg h1]
    exact j2_ok t l
theorem j0_ok (a b t : Int) (l : List Int) (q1 : Int) (q2 : List Int) (q3 s1 : Int) (s2 : List Int) (s3 : Int) (hq : XY.texts_PutTime.f a = some (q1, q2, q3)) (hs : XY.texts_PutTime.f b = some (s1, s2, s3)) :
    warderlaw03_TextsBack.j0 3 a b t l true q1 q2 q3 s1 s2 s3 false = some true := by
  have r1 := in_range a q1 q2 q3 hq
  rw [show (3 : Nat) = 2 + 1 from rfl, warderlaw03_TextsBack.j0, if_neg (by decide)]
  by_cases h1 : q3 = 0
  · rw [if_pos h1]
    subst h1
    have k1 := of_decide_eq_true r1.symm
    rw [show texts_Time.f q1 q2 = Tm.time XY.texts_PutTime.f q1 q2 from rfl, (Tf.time_put a k1.1 k1.2 q1 q2 0 hq).2.2, Option.bind_some]
    simp only
    rw [if_pos trivial, if_pos trivial]
    exact j1_ok a b t l q1 q2 0 s1 s2 s3 hq hs
  · rw [if_neg h1]
    exact j1_ok a b t l q1 q2 q3 s1 s2 s3 hq hs
theorem f_true (a b t : Int) (l : List Int) : warderlaw03_TextsBack.f 3 a b t l = some true := by
  unfold warderlaw03_TextsBack.f
  obtain ⟨⟨q1, q2, q3⟩, hq⟩ := Tf.put_any a
  obtain ⟨⟨s1, s2, s3⟩, hs⟩ := Tf.put_any b
  have r1 := in_range a q1 q2 q3 hq
  rw [show warderlaw03_head.f = some true from rfl, Option.bind_some, show texts_PutTime.f a = XY.texts_PutTime.f a from rfl, hq, Option.bind_some, show texts_PutTime.f b = XY.texts_PutTime.f b from rfl, hs, Option.bind_some]
  simp only
  by_cases ha : a ≥ -631152000
  · rw [if_pos ha, r1]
    have e : (decide (-631152000 ≤ a ∧ a ≤ 253402300799) != decide (a ≤ 253402300799)) = false := by
      by_cases h2 : a ≤ 253402300799
      · rw [decide_eq_true h2, decide_eq_true ⟨ha, h2⟩]
        rfl
      · rw [decide_eq_false h2, decide_eq_false (fun h => h2 h.2)]
        rfl
    rw [e]
    exact j0_ok a b t l q1 q2 q3 s1 s2 s3 hq hs
  · rw [if_neg ha, r1]
    have e : (decide (-631152000 ≤ a ∧ a ≤ 253402300799) != false) = false := by
      rw [decide_eq_false (fun h => ha h.1)]
      rfl
    rw [e]
    exact j0_ok a b t l q1 q2 q3 s1 s2 s3 hq hs
end Bk
theorem textsBack.law (w : World) (a b t : Int) (A : Option Addr) (c : Nat) (l : List Int) (_ : -9223372036854775808 ≤ a ∧ a < 9223372036854775808) (_ : -9223372036854775808 ≤ b ∧ b < 9223372036854775808) (_ : 0 ≤ t ∧ t < 256)
    (hC : Kd.C (Kd.int .u8) w A l.length l) (hc : l.length ≤ c) (hb : ∀ x ∈ l, 0 ≤ x ∧ x < 256) (_ : Lib.Utf8Tabs 0 1 w) :
    Calls Tryd.prog 11 #[.int .i64 a, .int .i64 b, .int .u8 t, .slice A l.length c] w fun e w' => e = .returned (.bool true) ∧ Below w.heap.size w w' :=
  XB.warderlaw03_TextsBack.calls 3 a b t A c l true w hC hc (Bk.f_true a b t l)
end Go.Proofs.YtgpghjmoapffcaaDoor
