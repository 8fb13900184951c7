/- IntsEnds, over numbers alone: sums' and differences' ends are just those sums, or none. -/
import Derived.Test.YtinmgnlofininaaPAllx12
import Derived.Test.YtinmgnlofininaaEvA
import Derived.Test.YtinmgnlofininaaEvW
set_option linter.unusedVariables false
set_option linter.unusedSimpArgs false
namespace Go.Proofs.Ytinmgnlofininaa.Pure
open Go.RowKit Go.Proofs.Ytinmgnlofininaa.PAll Go.Proofs.YtinmgnlofininaaW.PrintWords Go.Proofs.YtinmgnlofininaaW.PrintLast Go.Proofs.YtinmgnlofininaaW.PrintMore Go.Proofs.Ytinmgnlofininaa.Spec Go.Proofs.Ytinmgnlofininaa.Ev
theorem sumEnd_f (k : Nat) (hk : 0 < k) {x y : Int} (hx : -1099511627776 ≤ x ∧ x ≤ 1099511627776) (hy : -1099511627776 ≤ y ∧ y ≤ 1099511627776) : flyballlaw17_sumEnd.f k x y = some (sum x y) := by
  obtain ⟨k, rfl⟩ : ∃ m, k = m + 1 := ⟨k - 1, by omega⟩
  unfold flyballlaw17_sumEnd.f sum
  simp only [flyballlaw17_sumEnd.j0, mx_eq, mn_eq]
  rw [wrap_id (by omega) (by omega)]
  by_cases h1 : x = 1099511627776
  · simp [h1]
  · by_cases h2 : x = -1099511627776
    · simp [h2]
    · have e : (x == -1099511627776) = false := by simp [h2]
      rw [if_neg h1, e]
      simp only [Bool.false_eq_true, if_false]
      rw [if_neg (show ¬ (x ≥ 1099511627776 ∨ x ≤ -1099511627776) by omega)]
      by_cases h3 : y = 1099511627776
      · rw [if_pos h3, if_pos (by omega)]
      · rw [if_neg h3]
        by_cases h4 : y = -1099511627776
        · rw [if_pos h4, if_pos (by omega)]
        · rw [if_neg h4, if_neg (by omega)]
          rfl
theorem clip_sum {x y : Int} (hx : -1099511627776 ≤ x ∧ x ≤ 1099511627776) (hy : -1099511627776 ≤ y ∧ y ≤ 1099511627776) : clip (sum x y) = sum x y := by
  have := sum_bd hx hy
  generalize sum x y = s at *
  unfold clip
  omega
theorem IntsEnds_at (k : Nat) (hk : 30 ≤ k) (a0_0 : Bool) (a0_1 a0_2 : Int) (a1_0 : Bool) (a1_1 a1_2 : Int) : flyballlaw17_IntsEnds.f (k + 1) a0_0 a0_1 a0_2 a1_0 a1_1 a1_2 = some true := by
  unfold flyballlaw17_IntsEnds.f
  rw [works17 _ (by omega)]
  simp only [Option.bind_some, if_true, join1_f (k + 1) (by omega), add_f (k + 1) (by omega), sub_f (k + 1) (by omega)]
  rcases (no3_ok a0_0 a0_1 a0_2).cases with h | ⟨l, u, h, h1, h2, h3, h4, h5⟩
  · simp only [h, if_true, flyballlaw17_IntsEnds.j0]
    simp [add, sub]
  · rcases (no3_ok a1_0 a1_1 a1_2).cases with g | ⟨l', u', g, g1, g2, g3, g4, g5⟩
    · simp only [h, g, if_true, flyballlaw17_IntsEnds.j0]
      simp [add, sub, neg]
    · have w1 : wrap64 (-u') = -u' := wrap_id (by omega) (by omega)
      have w2 : wrap64 (-l') = -l' := wrap_id (by omega) (by omega)
      have w3 : wrap64 (-u) = -u := wrap_id (by omega) (by omega)
      have w4 : wrap64 (-l) = -l := wrap_id (by omega) (by omega)
      simp only [h, g, Bool.false_eq_true, if_false, flyballlaw17_IntsEnds.j0, w1, w2, w3, w4]
      rw [sumEnd_f k (by omega) (by omega) (by omega), sumEnd_f k (by omega) (by omega) (by omega), sumEnd_f k (by omega) (by omega) (by omega), sumEnd_f k (by omega) (by omega) (by omega), neg_f, h]
      simp only [Option.bind_some, if_true, sub, neg_false h1 h2 h3 h4 h5, neg_false g1 g2 g3 g4 g5, add, Bool.false_eq_true, or_self, if_false, hull, mx_eq, mn_eq]
      rw [clip_sum (by omega) (by omega), clip_sum (by omega) (by omega), clip_sum (by omega) (by omega), clip_sum (by omega) (by omega)]
      simp
theorem IntsEnds (a0_0 : Bool) (a0_1 a0_2 : Int) (a1_0 : Bool) (a1_1 a1_2 : Int) (_ : (Lit.int .i64 a0_1).wf = true) (_ : (Lit.int .i64 a0_2).wf = true) (_ : (Lit.int .i64 a1_1).wf = true) (_ : (Lit.int .i64 a1_2).wf = true) :
    ∃ k, flyballlaw17_IntsEnds.f k a0_0 a0_1 a0_2 a1_0 a1_1 a1_2 = some true := ⟨31, IntsEnds_at 30 (by omega) _ _ _ _ _ _⟩
end Go.Proofs.Ytinmgnlofininaa.Pure
