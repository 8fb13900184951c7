/- The printed functions of package ints answer as the plain ones (Spec) say. -/
import Derived.Test.YtinmgnlofininaaPAllx3
import Derived.Test.YtinmgnlofininaaPAllx4
import Derived.Test.YtinmgnlofininaaPAllx5
import Derived.Test.YtinmgnlofininaaSpec
set_option linter.unusedVariables false
set_option linter.unusedSimpArgs false
namespace Go.Proofs.Ytinmgnlofininaa.Ev
open Go.RowKit Go.Proofs.Ytinmgnlofininaa.PAll Go.Proofs.YtinmgnlofininaaW.PrintWords Go.Proofs.YtinmgnlofininaaW.PrintLast Go.Proofs.YtinmgnlofininaaW.PrintMore Go.Proofs.Ytinmgnlofininaa.Spec
theorem norm_f (e : Bool) (lo hi : Int) : ints_norm.f e lo hi = some (no3 e lo hi) := by
  unfold ints_norm.f ints_none.f no3
  cases e
  · simp only [Bool.false_eq_true, if_false, false_or, Option.bind_some, mx_eq, mn_eq]
    by_cases h1 : lo > hi
    · simp [h1]
    · by_cases h2 : lo ≥ 1099511627776
      · simp [h1, h2]
      · by_cases h3 : hi ≤ -1099511627776
        · simp [h1, h2, h3]
        · simp [h1, h2, h3]
  · simp
theorem make_f (lo hi : Int) : ints_Make.f lo hi = some (no3 false lo hi) := by
  unfold ints_Make.f
  rw [norm_f]
  rfl
theorem neg_f {e : Bool} {lo hi : Int} : ints_Neg.f e lo hi = some (neg (no3 e lo hi)) := by
  unfold ints_Neg.f
  rw [norm_f]
  rcases (no3_ok e lo hi).cases with h | ⟨l, u, h, h1, h2, h3, h4, h5⟩
  · rw [h]; rfl
  · rw [h]
    simp only [Option.bind_some, Bool.false_eq_true, if_false]
    rw [wrap_id (by omega) (by omega), wrap_id (by omega) (by omega), make_f]
    rfl
theorem clip_f (n : Int) : ints_clip.f n = some (clip n) := by unfold ints_clip.f clip; rw [mx_eq, mn_eq]
theorem hull_f (x y : Int) : ints_hull.f x y = some (hull x y) := by
  unfold ints_hull.f
  simp only [clip_f, Option.bind_some, mx_eq, mn_eq]
  rfl
theorem far_f (n : Int) : ints_far.f n = some (decide (n ≥ 1099511627776 ∨ n ≤ -1099511627776)) := by
  unfold ints_far.f
  split
  · rename_i h; simp [h]
  · rename_i h; simp [h]
theorem sum_f {x y : Int} (hx : -1099511627776 ≤ x ∧ x ≤ 1099511627776) (hy : -1099511627776 ≤ y ∧ y ≤ 1099511627776) : ints_sum.f x y = some (sum x y) := by
  unfold ints_sum.f sum
  simp only [far_f, clip_f, Option.bind_some, decide_eq_true_eq]
  rw [wrap_id (by omega) (by omega)]
  split
  · rfl
  · split <;> rfl
theorem add_f (k : Nat) (hk : 0 < k) (e : Bool) (lo hi : Int) (e' : Bool) (lo' hi' : Int) : ints_Add.f k e lo hi e' lo' hi' = some (add (no3 e lo hi) (no3 e' lo' hi')) := by
  obtain ⟨k, rfl⟩ : ∃ m, k = m + 1 := ⟨k - 1, by omega⟩
  unfold ints_Add.f
  simp only [norm_f, Option.bind_some]
  rcases (no3_ok e lo hi).cases with h | ⟨l, u, h, h1, h2, h3, h4, h5⟩
  · rw [h]; simp [ints_Add.j0, add, ints_none.f]
  · rcases (no3_ok e' lo' hi').cases with g | ⟨l', u', g, g1, g2, g3, g4, g5⟩
    · rw [h, g]; simp [ints_Add.j0, add, ints_none.f]
    · rw [h, g, add_false rfl rfl]
      simp only [ints_Add.j0, Bool.false_eq_true, if_false]
      rw [sum_f (by omega) (by omega), sum_f (by omega) (by omega)]
      simp only [Option.bind_some, hull_f]
theorem sub_f (k : Nat) (hk : 0 < k) (e : Bool) (lo hi : Int) (e' : Bool) (lo' hi' : Int) : ints_Sub.f k e lo hi e' lo' hi' = some (sub (no3 e lo hi) (no3 e' lo' hi')) := by
  unfold ints_Sub.f
  simp only [neg_f, Option.bind_some, add_f k hk]
  rw [show no3 (neg (no3 e' lo' hi')).1 (neg (no3 e' lo' hi')).2.1 (neg (no3 e' lo' hi')).2.2 = neg (no3 e' lo' hi') from nr_ok (neg_ok _)]
  rfl
theorem join0_f (k : Nat) (hk : 0 < k) : ints_Join.f k [] = some (true, 0, 0) := by
  obtain ⟨k, rfl⟩ : ∃ m, k = m + 1 := ⟨k - 1, by omega⟩
  simp [ints_Join.f, ints_Join.l0, ints_none.f]
theorem join1_f (k : Nat) (hk : 1 < k) (e : Bool) (lo hi : Int) : ints_Join.f k [(⟨e, lo, hi⟩ : S23)] = some (no3 e lo hi) := by
  obtain ⟨k, rfl⟩ : ∃ m, k = m + 2 := ⟨k - 2, by omega⟩
  have h0 : rd_T23 [(⟨e, lo, hi⟩ : S23)] 0 = ⟨e, lo, hi⟩ := rfl
  simp only [ints_Join.f, ints_none.f, Option.bind_some, ints_Join.l0, List.length_singleton, h0, norm_f]
  rcases (no3_ok e lo hi).cases with h | ⟨l, u, h, _⟩ <;> rw [h] <;> simp [wrap64]
theorem join2_f (k : Nat) (hk : 2 < k) (e : Bool) (lo hi : Int) (e' : Bool) (lo' hi' : Int) : ints_Join.f k [(⟨e, lo, hi⟩ : S23), (⟨e', lo', hi'⟩ : S23)] = some (join (no3 e lo hi) (no3 e' lo' hi')) := by
  obtain ⟨k, rfl⟩ : ∃ m, k = m + 3 := ⟨k - 3, by omega⟩
  have h0 : rd_T23 [(⟨e, lo, hi⟩ : S23), (⟨e', lo', hi'⟩ : S23)] 0 = ⟨e, lo, hi⟩ := rfl
  have h1 : rd_T23 [(⟨e, lo, hi⟩ : S23), (⟨e', lo', hi'⟩ : S23)] 1 = ⟨e', lo', hi'⟩ := rfl
  have w0 : wrap64 (0 + 1) = 1 := by unfold wrap64; omega
  have w1 : wrap64 (1 + 1) = 2 := by unfold wrap64; omega
  simp only [ints_Join.f, ints_none.f, Option.bind_some, ints_Join.l0, h0, h1, w0, w1, norm_f, mx_eq, mn_eq]
  rcases (no3_ok e lo hi).cases with h | ⟨l, u, h, _⟩ <;> rcases (no3_ok e' lo' hi').cases with g | ⟨l', u', g, _⟩ <;> rw [h, g] <;> simp [join]
theorem point_f (n : Int) : ints_Point.f n = some (no3 false n n) := by
  unfold ints_Point.f
  rw [make_f]
  rfl
theorem has_f (e : Bool) (lo hi n : Int) : ints_Has.f e lo hi n = some (has (no3 e lo hi) n) := by
  unfold ints_Has.f
  rw [norm_f]
  rcases (no3_ok e lo hi).cases with h | ⟨l, u, h, h1, h2, h3, h4, h5⟩ <;> rw [h]
  · rfl
  · simp only [Option.bind_some, has, Bool.false_eq_true, if_false, Bool.not_false, Bool.true_and]
    by_cases c1 : l = -1099511627776 <;> by_cases c2 : u = 1099511627776 <;> by_cases c3 : n ≥ l <;> simp [c1, c2, c3] <;> omega
theorem inside_f (e : Bool) (lo hi : Int) (e' : Bool) (lo' hi' : Int) : ints_Inside.f e lo hi e' lo' hi' = some (inside (no3 e lo hi) (no3 e' lo' hi')) := by
  unfold ints_Inside.f
  simp only [norm_f, Option.bind_some]
  rcases (no3_ok e lo hi).cases with h | ⟨l, u, h, h1, h2, h3, h4, h5⟩ <;> rw [h]
  · rfl
  · rcases (no3_ok e' lo' hi').cases with g | ⟨l', u', g, g1, g2, g3, g4, g5⟩ <;> rw [g]
    · rfl
    · simp only [inside, Bool.false_eq_true, if_false, Bool.not_false, Bool.true_and, Bool.false_or]
      by_cases c : l' ≤ l <;> simp [c]
theorem meet_f (k : Nat) (hk : 0 < k) (e : Bool) (lo hi : Int) (e' : Bool) (lo' hi' : Int) : ints_Meet.f k e lo hi e' lo' hi' = some (meet (no3 e lo hi) (no3 e' lo' hi')) := by
  obtain ⟨k, rfl⟩ : ∃ m, k = m + 1 := ⟨k - 1, by omega⟩
  unfold ints_Meet.f
  simp only [norm_f, Option.bind_some]
  rcases (no3_ok e lo hi).cases with h | ⟨l, u, h, h1, h2, h3, h4, h5⟩ <;> rw [h]
  · simp [ints_Meet.j0, meet, ints_none.f]
  · rcases (no3_ok e' lo' hi').cases with g | ⟨l', u', g, g1, g2, g3, g4, g5⟩ <;> rw [g]
    · simp [ints_Meet.j0, meet, ints_none.f]
    · simp only [ints_Meet.j0, meet, Bool.false_eq_true, if_false, make_f, Option.bind_some, mx_eq, mn_eq, or_self]
theorem abs_f (k : Nat) (hk : 2 < k) (e : Bool) (lo hi : Int) : ints_Abs.f k e lo hi = some (abs (no3 e lo hi)) := by
  unfold ints_Abs.f
  have z : no3 false 0 1099511627776 = (false, 0, 1099511627776) := no3_false (by omega) (by omega) (by omega) (by omega) (by omega)
  have r : ∀ s : Iv, Ok s → no3 s.1 s.2.1 s.2.2 = s := fun s h => nr_ok h
  simp only [make_f, Option.bind_some, z, meet_f k (by omega), neg_f, join2_f k hk, r _ (meet_ok _ _), r _ (neg_ok _)]
  rfl
end Go.Proofs.Ytinmgnlofininaa.Ev
