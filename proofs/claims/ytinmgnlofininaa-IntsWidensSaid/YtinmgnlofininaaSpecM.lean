/- Products and quotients of intervals, and that all operations are monotone: plain numbers. -/
import Derived.Test.YtinmgnlofininaaSpec
set_option linter.unusedVariables false
set_option linter.unusedSimpArgs false
namespace Go.Proofs.Ytinmgnlofininaa.Spec
open Go.RowKit
theorem clip_mono {x y : Int} (h : x ≤ y) : clip x ≤ clip y := by unfold clip; omega
theorem clip_id {x : Int} (h : -1099511627776 ≤ x) (h' : x ≤ 1099511627776) : clip x = x := by unfold clip; omega
theorem mul_bd1 {a b x : Int} (y : Int) (h1 : a ≤ x) (h2 : x ≤ b) : min (a * y) (b * y) ≤ x * y ∧ x * y ≤ max (a * y) (b * y) := by
  by_cases hy : 0 ≤ y
  · have := Int.mul_le_mul_of_nonneg_right h1 hy
    have := Int.mul_le_mul_of_nonneg_right h2 hy
    omega
  · have := Int.mul_le_mul_of_nonpos_right h1 (show y ≤ 0 by omega)
    have := Int.mul_le_mul_of_nonpos_right h2 (show y ≤ 0 by omega)
    omega
theorem mul_bd2 {c d y : Int} (x : Int) (h1 : c ≤ y) (h2 : y ≤ d) : min (x * c) (x * d) ≤ x * y ∧ x * y ≤ max (x * c) (x * d) := by
  have := mul_bd1 x h1 h2
  rw [Int.mul_comm c, Int.mul_comm d, Int.mul_comm y] at this
  exact this
def min4 (a b c d : Int) : Int := min (min a b) (min c d)
def max4 (a b c d : Int) : Int := max (max a b) (max c d)
theorem mul_bd {a b c d x y : Int} (h1 : a ≤ x) (h2 : x ≤ b) (h3 : c ≤ y) (h4 : y ≤ d) : min4 (a * c) (a * d) (b * c) (b * d) ≤ x * y ∧ x * y ≤ max4 (a * c) (a * d) (b * c) (b * d) := by
  have h := mul_bd1 y h1 h2
  have ha := mul_bd2 a h3 h4
  have hb := mul_bd2 b h3 h4
  unfold min4 max4
  omega
def mul (a b : Iv) : Iv := if a.1 = true ∨ b.1 = true then (true, 0, 0) else
  hull (min4 (clip (a.2.1 * b.2.1)) (clip (a.2.1 * b.2.2)) (clip (a.2.2 * b.2.1)) (clip (a.2.2 * b.2.2))) (max4 (clip (a.2.1 * b.2.1)) (clip (a.2.1 * b.2.2)) (clip (a.2.2 * b.2.1)) (clip (a.2.2 * b.2.2)))
theorem clip_min4 (a b c d : Int) : min4 (clip a) (clip b) (clip c) (clip d) = clip (min4 a b c d) := by unfold min4 clip; omega
theorem clip_max4 (a b c d : Int) : max4 (clip a) (clip b) (clip c) (clip d) = clip (max4 a b c d) := by unfold max4 clip; omega
theorem mul_false (lo hi l u : Int) : mul (false, lo, hi) (false, l, u) = hull (clip (min4 (lo * l) (lo * u) (hi * l) (hi * u))) (clip (max4 (lo * l) (lo * u) (hi * l) (hi * u))) := by
  rw [← clip_min4, ← clip_max4]
  rfl
theorem min4_le (a b c d : Int) : min4 a b c d ≤ a ∧ min4 a b c d ≤ b ∧ min4 a b c d ≤ c ∧ min4 a b c d ≤ d := by unfold min4; omega
theorem max4_le (a b c d : Int) : a ≤ max4 a b c d ∧ b ≤ max4 a b c d ∧ c ≤ max4 a b c d ∧ d ≤ max4 a b c d := by unfold max4; omega
theorem clip_clip (a : Int) : clip (clip a) = clip a := by unfold clip; omega
theorem inside_false {lo hi lo' hi' : Int} : inside (false, lo, hi) (false, lo', hi') = true ↔ lo' ≤ lo ∧ hi ≤ hi' := by simp [inside]
theorem hull_le {l u l' u' : Int} (h : l' ≤ l) (g : u ≤ u') : inside (hull l u) (hull l' u') = true := by
  unfold hull clip
  rw [inside_false]
  omega
theorem hull_ok' {l u : Int} (h : l ≤ u) : Ok (hull l u) := by
  apply hull_ok
  unfold clip
  omega
theorem mul_ok (a b : Iv) : Ok (mul a b) := by
  unfold mul
  split
  · exact .inl rfl
  · apply hull_ok'
    unfold min4 max4
    omega
/-! ### one in another -/
theorem inside_true (b : Iv) : inside (true, 0, 0) b = true := rfl
theorem inside_cases {a b : Iv} (ha : Ok a) (hb : Ok b) (h : inside a b = true) : a = (true, 0, 0) ∨ ∃ lo hi lo' hi', a = (false, lo, hi) ∧ b = (false, lo', hi') ∧ lo' ≤ lo ∧ hi ≤ hi' ∧ -1099511627776 ≤ lo' ∧ lo ≤ hi ∧ hi' ≤ 1099511627776 ∧ lo < 1099511627776 ∧ -1099511627776 < hi := by
  rcases ha.cases with rfl | ⟨lo, hi, rfl, h1, h2, h3, h4, h5⟩
  · exact .inl rfl
  · rcases hb.cases with rfl | ⟨lo', hi', rfl, g1, g2, g3, g4, g5⟩
    · simp [inside] at h
    · rw [inside_false] at h
      exact .inr ⟨lo, hi, lo', hi', rfl, rfl, h.1, h.2, g1, h2, g3, h4, h5⟩
theorem inside_join_l {a b : Iv} (ha : Ok a) (hb : Ok b) : inside a (join a b) = true := by
  rcases ha.cases with rfl | ⟨lo, hi, rfl, h1, h2, h3, h4, h5⟩
  · rfl
  · rcases hb.cases with rfl | ⟨lo', hi', rfl, g1, g2, g3, g4, g5⟩
    · simp [join, inside]
    · simp only [join, Bool.false_eq_true, if_false, inside_false]; omega
theorem inside_join_r {a b : Iv} (ha : Ok a) (hb : Ok b) : inside b (join a b) = true := by
  rcases ha.cases with rfl | ⟨lo, hi, rfl, h1, h2, h3, h4, h5⟩
  · rcases hb.cases with rfl | ⟨lo', hi', rfl, g1, g2, g3, g4, g5⟩ <;> simp [join, inside]
  · rcases hb.cases with rfl | ⟨lo', hi', rfl, g1, g2, g3, g4, g5⟩
    · rfl
    · simp only [join, Bool.false_eq_true, if_false, inside_false]; omega
theorem inside_meet_l {a b : Iv} (ha : Ok a) (hb : Ok b) : inside (meet a b) a = true := by
  rcases ha.cases with rfl | ⟨lo, hi, rfl, h1, h2, h3, h4, h5⟩
  · rfl
  · rcases hb.cases with rfl | ⟨lo', hi', rfl, g1, g2, g3, g4, g5⟩
    · rfl
    · simp only [meet, Bool.false_eq_true, or_self, if_false, no3]
      split
      · rfl
      · rw [inside_false]; omega
theorem inside_meet_r {a b : Iv} (ha : Ok a) (hb : Ok b) : inside (meet a b) b = true := by
  rcases ha.cases with rfl | ⟨lo, hi, rfl, h1, h2, h3, h4, h5⟩
  · rfl
  · rcases hb.cases with rfl | ⟨lo', hi', rfl, g1, g2, g3, g4, g5⟩
    · rfl
    · simp only [meet, Bool.false_eq_true, or_self, if_false, no3]
      split
      · rfl
      · rw [inside_false]; omega
theorem neg_mono {a b : Iv} (ha : Ok a) (hb : Ok b) (h : inside a b = true) : inside (neg a) (neg b) = true := by
  rcases inside_cases ha hb h with rfl | ⟨lo, hi, lo', hi', rfl, rfl, h1, h2, h3, h4, h5, h6, h7⟩
  · rfl
  · rw [neg_false (by omega) (by omega) (by omega) (by omega) (by omega), neg_false (by omega) (by omega) (by omega) (by omega) (by omega), inside_false]
    omega
theorem meet_mono {a b c : Iv} (ha : Ok a) (hb : Ok b) (hc : Ok c) (h : inside a b = true) : inside (meet a c) (meet b c) = true := by
  rcases inside_cases ha hb h with rfl | ⟨lo, hi, lo', hi', rfl, rfl, h1, h2, h3, h4, h5, h6, h7⟩
  · rfl
  · rcases hc.cases with rfl | ⟨l, u, rfl, g1, g2, g3, g4, g5⟩
    · rfl
    · simp only [meet, Bool.false_eq_true, or_self, if_false, no3]
      split
      · rfl
      · rename_i p
        split
        · rename_i q
          simp only [false_or] at p q
          omega
        · rw [inside_false]; omega
theorem join_mono {a b c d : Iv} (ha : Ok a) (hb : Ok b) (hc : Ok c) (hd : Ok d) (h : inside a c = true) (g : inside b d = true) : inside (join a b) (join c d) = true := by
  rcases inside_cases ha hc h with rfl | ⟨lo, hi, lo', hi', rfl, rfl, h1, h2, h3, h4, h5, h6, h7⟩
  · rcases inside_cases hb hd g with rfl | ⟨l, u, l', u', rfl, rfl, g1, g2, g3, g4, g5, g6, g7⟩
    · rfl
    · rcases hc.cases with rfl | ⟨m, n, rfl, k1, k2, k3, k4, k5⟩
      · simpa [join, inside] using g
      · simp only [join, Bool.false_eq_true, if_false, if_true, inside_false]; omega
  · rcases inside_cases hb hd g with rfl | ⟨l, u, l', u', rfl, rfl, g1, g2, g3, g4, g5, g6, g7⟩
    · rcases hd.cases with rfl | ⟨m, n, rfl, k1, k2, k3, k4, k5⟩
      · simpa [join, inside] using h
      · simp only [join, Bool.false_eq_true, if_false, if_true, inside_false]; omega
    · simp only [join, Bool.false_eq_true, if_false, inside_false]; omega
theorem abs_mono {a b : Iv} (ha : Ok a) (hb : Ok b) (h : inside a b = true) : inside (abs a) (abs b) = true := by
  have z : Ok (false, 0, 1099511627776) := .inr ⟨rfl, by simp⟩
  exact join_mono (meet_ok _ _) (meet_ok _ _) (meet_ok _ _) (meet_ok _ _) (meet_mono ha hb z h) (meet_mono (neg_ok _) (neg_ok _) z (neg_mono ha hb h))
theorem add_mono {a b c d : Iv} (ha : Ok a) (hb : Ok b) (hc : Ok c) (hd : Ok d) (h : inside a c = true) (g : inside b d = true) : inside (add a b) (add c d) = true := by
  rcases inside_cases ha hc h with rfl | ⟨lo, hi, lo', hi', rfl, rfl, h1, h2, h3, h4, h5, h6, h7⟩
  · rfl
  · rcases inside_cases hb hd g with rfl | ⟨l, u, l', u', rfl, rfl, g1, g2, g3, g4, g5, g6, g7⟩
    · simp [add, inside]
    · rw [add_false rfl rfl, add_false rfl rfl]
      exact hull_le (sum_mono (x := lo') (x' := lo) (y := l') (y' := l) h3 (by omega) g3 (by omega) h1 g1) (sum_mono (x := hi) (x' := hi') (y := u) (y' := u') (by omega) h5 (by omega) g5 h2 g2)
theorem sub_mono {a b c d : Iv} (ha : Ok a) (hb : Ok b) (hc : Ok c) (hd : Ok d) (h : inside a c = true) (g : inside b d = true) : inside (sub a b) (sub c d) = true :=
  add_mono ha (neg_ok _) hc (neg_ok _) h (neg_mono hb hd g)
theorem mul_mono {a b c d : Iv} (ha : Ok a) (hb : Ok b) (hc : Ok c) (hd : Ok d) (h : inside a c = true) (g : inside b d = true) : inside (mul a b) (mul c d) = true := by
  rcases inside_cases ha hc h with rfl | ⟨lo, hi, lo', hi', rfl, rfl, h1, h2, h3, h4, h5, h6, h7⟩
  · rfl
  · rcases inside_cases hb hd g with rfl | ⟨l, u, l', u', rfl, rfl, g1, g2, g3, g4, g5, g6, g7⟩
    · simp [mul, inside]
    · rw [mul_false, mul_false]
      have p1 := mul_bd (a := lo') (b := hi') (c := l') (d := u') (x := lo) (y := l) h1 (by omega) g1 (by omega)
      have p2 := mul_bd (a := lo') (b := hi') (c := l') (d := u') (x := lo) (y := u) h1 (by omega) (by omega) g2
      have p3 := mul_bd (a := lo') (b := hi') (c := l') (d := u') (x := hi) (y := l) (by omega) h2 g1 (by omega)
      have p4 := mul_bd (a := lo') (b := hi') (c := l') (d := u') (x := hi) (y := u) (by omega) h2 (by omega) g2
      generalize min4 (lo' * l') (lo' * u') (hi' * l') (hi' * u') = m at p1 p2 p3 p4 ⊢
      generalize max4 (lo' * l') (lo' * u') (hi' * l') (hi' * u') = M at p1 p2 p3 p4 ⊢
      apply hull_le <;> apply clip_mono
      · unfold min4; omega
      · unfold max4; omega
end Go.Proofs.Ytinmgnlofininaa.Spec
