/- What is of both intervals, what comes of it is of the answer: plain numbers. -/
import Derived.Test.YtinmgnlofininaaSpecD
set_option linter.unusedVariables false
set_option linter.unusedSimpArgs false
namespace Go.Proofs.Ytinmgnlofininaa.Spec
open Go.RowKit
theorem has_false (lo hi n : Int) : has (false, lo, hi) n = true ↔ (lo = -1099511627776 ∨ lo ≤ n) ∧ (hi = 1099511627776 ∨ n ≤ hi) := by simp [has]
theorem has_true (lo hi n : Int) : has (true, lo, hi) n = false := by simp [has]
/-- A near integer of an interval lies between its ends. -/
theorem has_near {a : Iv} {x : Int} (ha : Ok a) (hx : -1099511627776 ≤ x ∧ x ≤ 1099511627776) (h : has a x = true) : ∃ lo hi, a = (false, lo, hi) ∧ lo ≤ x ∧ x ≤ hi ∧ -1099511627776 ≤ lo ∧ hi ≤ 1099511627776 ∧ lo < 1099511627776 ∧ -1099511627776 < hi := by
  rcases ha.cases with rfl | ⟨lo, hi, rfl, h1, h2, h3, h4, h5⟩
  · simp [has] at h
  · rw [has_false] at h
    exact ⟨lo, hi, rfl, by omega, by omega, h1, h3, h4, h5⟩
theorem has_hull {l u n : Int} (h : l ≤ n ∨ l ≤ -1099511627776) (g : n ≤ u ∨ 1099511627776 ≤ u) : has (hull l u) n = true := by
  unfold hull clip
  rw [has_false]
  omega
abbrev Near (x : Int) : Prop := -2147483648 ≤ x ∧ x ≤ 2147483648
theorem sound_add {a b : Iv} {x y : Int} (ha : Ok a) (hb : Ok b) (nx : Near x) (ny : Near y) (hx : has a x = true) (hy : has b y = true) : has (add a b) (x + y) = true := by
  obtain ⟨lo, hi, rfl, h1, h2, h3, h4, h5, h6⟩ := has_near ha (by omega) hx
  obtain ⟨l, u, rfl, g1, g2, g3, g4, g5, g6⟩ := has_near hb (by omega) hy
  rw [add_false rfl rfl]
  apply has_hull
  · simp only; unfold sum clip; split <;> (try split) <;> omega
  · simp only; unfold sum clip; split <;> (try split) <;> omega
theorem sound_neg {a : Iv} {x : Int} (ha : Ok a) (nx : Near x) (hx : has a x = true) : has (neg a) (-x) = true := by
  obtain ⟨lo, hi, rfl, h1, h2, h3, h4, h5, h6⟩ := has_near ha (by omega) hx
  rw [neg_false h3 (by omega) h4 h5 h6, has_false]
  omega
theorem sound_sub {a b : Iv} {x y : Int} (ha : Ok a) (hb : Ok b) (nx : Near x) (ny : Near y) (hx : has a x = true) (hy : has b y = true) : has (sub a b) (x - y) = true := by
  have := sound_add ha (neg_ok b) nx (y := -y) (by omega) hx (sound_neg hb ny hy)
  rw [show x - y = x + -y by omega]
  exact this
theorem sound_mul {a b : Iv} {x y : Int} (ha : Ok a) (hb : Ok b) (nx : Near x) (ny : Near y) (hx : has a x = true) (hy : has b y = true) : has (mul a b) (x * y) = true := by
  obtain ⟨lo, hi, rfl, h1, h2, h3, h4, h5, h6⟩ := has_near ha (by omega) hx
  obtain ⟨l, u, rfl, g1, g2, g3, g4, g5, g6⟩ := has_near hb (by omega) hy
  rw [mul_false]
  have p := mul_bd h1 h2 g1 g2
  generalize min4 (lo * l) (lo * u) (hi * l) (hi * u) = m at p ⊢
  generalize max4 (lo * l) (lo * u) (hi * l) (hi * u) = M at p ⊢
  generalize x * y = q at p ⊢
  apply has_hull <;> unfold clip <;> omega
theorem sound_meet {a b : Iv} {x : Int} (ha : Ok a) (hb : Ok b) (nx : Near x) (hx : has a x = true) (hy : has b x = true) : has (meet a b) x = true := by
  obtain ⟨lo, hi, rfl, h1, h2, h3, h4, h5, h6⟩ := has_near ha (by omega) hx
  obtain ⟨l, u, rfl, g1, g2, g3, g4, g5, g6⟩ := has_near hb (by omega) hy
  simp only [meet, Bool.false_eq_true, or_self, if_false]
  rw [no3_false (by omega) (by omega) (by omega) (by omega) (by omega), has_false]
  omega
theorem sound_join_l {a b : Iv} {x : Int} (ha : Ok a) (hb : Ok b) (nx : Near x) (hx : has a x = true) : has (join a b) x = true := by
  obtain ⟨lo, hi, rfl, h1, h2, h3, h4, h5, h6⟩ := has_near ha (by omega) hx
  rcases hb.cases with rfl | ⟨l, u, rfl, g1, g2, g3, g4, g5⟩
  · simpa [join] using hx
  · simp only [join, Bool.false_eq_true, if_false]
    rw [has_false]
    omega
theorem sound_join_r {a b : Iv} {x : Int} (ha : Ok a) (hb : Ok b) (nx : Near x) (hx : has b x = true) : has (join a b) x = true := by
  obtain ⟨lo, hi, rfl, h1, h2, h3, h4, h5, h6⟩ := has_near hb (by omega) hx
  rcases ha.cases with rfl | ⟨l, u, rfl, g1, g2, g3, g4, g5⟩
  · simpa [join] using hx
  · simp only [join, Bool.false_eq_true, if_false]
    rw [has_false]
    omega
theorem sound_abs {a : Iv} {x z : Int} (ha : Ok a) (nx : Near x) (hx : has a x = true) (hz : z = x ∧ 0 ≤ x ∨ z = -x ∧ x < 0) : has (abs a) z = true := by
  have pz : Ok (false, 0, 1099511627776) := .inr ⟨rfl, by simp⟩
  have ph : ∀ w : Int, 0 ≤ w → has (false, 0, 1099511627776) w = true := fun w hw => by rw [has_false]; omega
  unfold abs
  rcases hz with ⟨rfl, h⟩ | ⟨rfl, h⟩
  · exact sound_join_l (meet_ok _ _) (meet_ok _ _) nx (sound_meet ha pz nx hx (ph _ h))
  · exact sound_join_r (meet_ok _ _) (meet_ok _ _) (by omega) (sound_meet (neg_ok _) pz (by omega) (sound_neg ha nx hx) (ph _ (by omega)))
theorem sound_div {a b : Iv} {x y : Int} (ha : Ok a) (hb : Ok b) (nx : Near x) (ny : Near y) (h0 : y ≠ 0) (hx : has a x = true) (hy : has b y = true) : has (div a b) (Int.tdiv x y) = true := by
  obtain ⟨lo, hi, rfl, h1, h2, h3, h4, h5, h6⟩ := has_near ha (by omega) hx
  obtain ⟨l, u, rfl, g1, g2, g3, g4, g5, g6⟩ := has_near hb (by omega) hy
  obtain ⟨⟨q, hq, hle⟩, ⟨q', hq', hle'⟩⟩ := quo_bd h3 h4 g3 g4 h1 h2 g1 g2 h0
  have c0 : ends (false, l, u) ≠ [] := by
    intro hh
    simp [quos, hh] at hq
  have e : ov x y = Int.tdiv x y := by unfold ov; rw [if_neg (by omega)]
  rw [div_false c0]
  rw [e] at hle hle'
  have m := (foldl_min (quos (false, lo, hi) (false, l, u)) 1099511627776).2.1 q hq
  have M := (foldl_max (quos (false, lo, hi) (false, l, u)) (-1099511627776)).2.1 q' hq'
  exact has_hull (by omega) (by omega)
end Go.Proofs.Ytinmgnlofininaa.Spec
