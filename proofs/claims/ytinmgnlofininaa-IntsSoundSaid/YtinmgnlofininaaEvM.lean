/- Products and quotients of intervals (package ints) answer as the plain ones (Spec) say. -/
import Derived.Test.YtinmgnlofininaaPAllx6
import Derived.Test.YtinmgnlofininaaPAllx7
import Derived.Test.YtinmgnlofininaaPAllx8
import Derived.Test.YtinmgnlofininaaEvA
import Derived.Test.YtinmgnlofininaaSpecD
set_option linter.unusedVariables false
set_option linter.unusedSimpArgs false
namespace Go.Proofs.Ytinmgnlofininaa.Ev
open Go.RowKit Go.Proofs.Ytinmgnlofininaa.PAll Go.Proofs.YtinmgnlofininaaW.PrintWords Go.Proofs.YtinmgnlofininaaW.PrintLast Go.Proofs.YtinmgnlofininaaW.PrintMore Go.Proofs.Ytinmgnlofininaa.Spec
theorem iabs_f {x : Int} (h : -1099511627776 ≤ x ∧ x ≤ 1099511627776) : ints_abs.f x = some (max x (-x)) := by
  unfold ints_abs.f
  rw [mx_eq, wrap_id (by omega) (by omega)]
theorem abs_mul (x y : Int) : max x (-x) * max y (-y) = x * y ∨ max x (-x) * max y (-y) = -(x * y) := by
  rcases (show max x (-x) = x ∨ max x (-x) = -x by omega) with h | h <;> rcases (show max y (-y) = y ∨ max y (-y) = -y by omega) with g | g <;> rw [h, g]
  · exact .inl rfl
  · exact .inr (by rw [Int.mul_neg])
  · exact .inr (by rw [Int.neg_mul])
  · exact .inl (by rw [Int.neg_mul_neg])
theorem times_f (k : Nat) (hk : 0 < k) {x y : Int} (hx : -1099511627776 ≤ x ∧ x ≤ 1099511627776) (hy : -1099511627776 ≤ y ∧ y ≤ 1099511627776) : ints_times.f k x y = some (clip (x * y)) := by
  obtain ⟨k, rfl⟩ : ∃ m, k = m + 1 := ⟨k - 1, by omega⟩
  unfold ints_times.f
  by_cases h1 : x = 0
  · subst h1; simp [ints_times.j0, clip]; omega
  · by_cases h2 : y = 0
    · subst h2; simp [ints_times.j0, clip, h1]; omega
    · rw [if_neg h1]
      simp only [ints_times.j0, iabs_f hx, iabs_f hy, Option.bind_some]
      rw [if_neg (by simp [h2]), if_neg (by omega)]
      have ny : 0 < max y (-y) := by omega
      have e : Int.tdiv 1099511627776 (max y (-y)) = 1099511627776 / max y (-y) := Int.tdiv_eq_ediv_of_nonneg (by omega)
      have b0 : 0 ≤ 1099511627776 / max y (-y) := Int.ediv_nonneg (by omega) (by omega)
      have b1 : 1099511627776 / max y (-y) ≤ 1099511627776 := Int.ediv_le_self _ (by omega)
      rw [e, wrap_id (by omega) (by omega)]
      have hd := Int.le_ediv_iff_mul_le (a := max x (-x)) (b := 1099511627776) ny
      have hm := abs_mul x y
      have hp : 0 ≤ max x (-x) * max y (-y) := Int.mul_nonneg (by omega) (by omega)
      by_cases c : max x (-x) ≤ 1099511627776 / max y (-y)
      · rw [if_pos c]
        have := hd.mp c
        rw [wrap_id (by omega) (by omega), clip_id (by omega) (by omega)]
      · rw [if_neg c]
        have : ¬ max x (-x) * max y (-y) ≤ 1099511627776 := fun h => c (hd.mpr h)
        have s : (decide (x < 0) != decide (y < 0)) = true ↔ x * y < 0 := by
          rcases Int.lt_or_gt_of_ne h1 with p | p <;> rcases Int.lt_or_gt_of_ne h2 with q | q
          · have := Int.mul_pos_of_neg_of_neg p q
            simp [p, q]; omega
          · have := Int.mul_neg_of_neg_of_pos p q
            simp [p, show ¬ y < 0 by omega, this]
          · have := Int.mul_neg_of_pos_of_neg p q
            simp [q, show ¬ x < 0 by omega, this]
          · have := Int.mul_pos p q
            simp [show ¬ x < 0 by omega, show ¬ y < 0 by omega]; omega
        by_cases c2 : (decide (x < 0) != decide (y < 0)) = true
        · rw [if_pos c2]
          have := s.mp c2
          congr 1
          unfold clip
          omega
        · rw [if_neg c2]
          have : ¬ x * y < 0 := fun h => c2 (s.mpr h)
          congr 1
          unfold clip
          omega
theorem mul_f (k : Nat) (hk : 12 < k) (e : Bool) (lo hi : Int) (e' : Bool) (lo' hi' : Int) : ints_Mul.f k e lo hi e' lo' hi' = some (mul (no3 e lo hi) (no3 e' lo' hi')) := by
  obtain ⟨k, rfl⟩ : ∃ m, k = m + 13 := ⟨k - 13, by omega⟩
  unfold ints_Mul.f
  simp only [norm_f, Option.bind_some]
  rcases (no3_ok e lo hi).cases with h | ⟨l, u, h, h1, h2, h3, h4, h5⟩ <;> rw [h]
  · simp [ints_Mul.j0, mul, ints_none.f]
  · rcases (no3_ok e' lo' hi').cases with g | ⟨l', u', g, g1, g2, g3, g4, g5⟩ <;> rw [g]
    · simp [ints_Mul.j0, mul, ints_none.f]
    · have r0 : ∀ a b : Int, rd [a, b] 0 = a := fun _ _ => rfl
      have r1 : ∀ a b : Int, rd [a, b] 1 = b := fun _ _ => rfl
      have w0 : wrap64 (0 + 1) = 1 := wrap_id (by omega) (by omega)
      have w1 : wrap64 (1 + 1) = 2 := wrap_id (by omega) (by omega)
      have n2 : ∀ a b : Int, (([a, b] : List Int).length : Int) = 2 := fun _ _ => rfl
      have t := fun (k : Nat) (hk : 0 < k) => And.intro (times_f k hk (x := l) (y := l') (by omega) (by omega)) (And.intro (times_f k hk (x := l) (y := u') (by omega) (by omega)) (And.intro (times_f k hk (x := u) (y := l') (by omega) (by omega)) (times_f k hk (x := u) (y := u') (by omega) (by omega))))
      simp only [ints_Mul.j0, Bool.false_eq_true, if_false, ints_cornersTimes.f, Option.bind_some, ints_cornersTimes.l0, ints_cornersTimes.l1, n2, r0, r1, w0, w1]
      simp only [show ((0 : Int) < 2) = True by simp, show ((1 : Int) < 2) = True by simp, show ((2 : Int) < 2) = False by simp, show ((0 : Int) ≤ 0) = True by simp, show ((0 : Int) ≤ 1) = True by simp, if_true, if_false]
      rw [(t _ (by omega)).1, (t _ (by omega)).2.1]
      simp only [Option.bind_some]
      rw [(t _ (by omega)).2.2.1, (t _ (by omega)).2.2.2]
      simp only [Option.bind_some, hull_f, mx_eq, mn_eq, mul, Bool.false_eq_true, or_self, if_false]
      have c1 := clip_bd (l * l')
      have c2 := clip_bd (l * u')
      have c3 := clip_bd (u * l')
      have c4 := clip_bd (u * u')
      have em : ∀ a b c d a' : Int, a ≤ a' → min (min (min (min a' a) b) c) d = min4 a b c d := fun a b c d a' _ => by unfold min4; omega
      have eM : ∀ a b c d a' : Int, a' ≤ a → max (max (max (max a' a) b) c) d = max4 a b c d := fun a b c d a' _ => by unfold max4; omega
      rw [em _ _ _ _ _ c1.2, eM _ _ _ _ _ c1.1]
end Go.Proofs.Ytinmgnlofininaa.Ev
