/- The printed functions of the reference (layer 17) answer as the plain ones (Spec) say. -/
import Derived.Test.YtinmgnlofininaaPAllx16
import Derived.Test.YtinmgnlofininaaPAllx17
import Derived.Test.YtinmgnlofininaaSpec
set_option linter.unusedVariables false
set_option linter.unusedSimpArgs false
namespace Go.Proofs.Ytinmgnlofininaa.Ev
open Go.RowKit Go.Proofs.Ytinmgnlofininaa.PAll Go.Proofs.YtinmgnlofininaaW.PrintWords Go.Proofs.YtinmgnlofininaaW.PrintLast Go.Proofs.YtinmgnlofininaaW.PrintMore Go.Proofs.Ytinmgnlofininaa.Spec
theorem rnorm_f (e : Bool) (lo hi : Int) : flyballref17_Norm.f e lo hi = some (no3 e lo hi) := by
  unfold flyballref17_Norm.f no3
  cases e
  · simp only [Bool.false_eq_true, if_false, false_or, mx_eq, mn_eq]
    by_cases h1 : lo > hi
    · simp [h1]
    · by_cases h2 : lo ≥ 1099511627776
      · simp [h1, h2]
      · by_cases h3 : hi ≤ -1099511627776
        · simp [h1, h2, h3]
        · simp [h1, h2, h3]
  · simp
theorem rhas_f (e : Bool) (lo hi n : Int) : flyballref17_Has.f e lo hi n = some (has (no3 e lo hi) n) := by
  unfold flyballref17_Has.f
  rw [rnorm_f]
  rcases (no3_ok e lo hi).cases with h | ⟨l, u, h, h1, h2, h3, h4, h5⟩ <;> rw [h]
  · rfl
  · simp only [Option.bind_some, has, Bool.false_eq_true, if_false, Bool.not_false, Bool.true_and]
    by_cases c1 : l = -1099511627776 <;> by_cases c2 : u = 1099511627776 <;> by_cases c3 : n ≥ l <;> simp [c1, c2, c3] <;> omega
theorem rinside_f (e : Bool) (lo hi : Int) (e' : Bool) (lo' hi' : Int) : flyballref17_Inside.f e lo hi e' lo' hi' = some (inside (no3 e lo hi) (no3 e' lo' hi')) := by
  unfold flyballref17_Inside.f
  simp only [rnorm_f, Option.bind_some]
  rcases (no3_ok e lo hi).cases with h | ⟨l, u, h, h1, h2, h3, h4, h5⟩ <;> rw [h]
  · rfl
  · rcases (no3_ok e' lo' hi').cases with g | ⟨l', u', g, g1, g2, g3, g4, g5⟩ <;> rw [g]
    · rfl
    · simp only [inside, Bool.false_eq_true, if_false, Bool.not_false, Bool.true_and, Bool.false_or]
      by_cases c : l' ≤ l <;> simp [c]
theorem rjoin_f (e : Bool) (lo hi : Int) (e' : Bool) (lo' hi' : Int) : flyballref17_Join.f e lo hi e' lo' hi' = some (join (no3 e lo hi) (no3 e' lo' hi')) := by
  unfold flyballref17_Join.f
  simp only [rnorm_f, Option.bind_some, mx_eq, mn_eq]
  rcases (no3_ok e lo hi).cases with h | ⟨l, u, h, h1, h2, h3, h4, h5⟩ <;> rw [h]
  · rfl
  · rcases (no3_ok e' lo' hi').cases with g | ⟨l', u', g, g1, g2, g3, g4, g5⟩ <;> rw [g] <;> rfl
theorem rmeet_f (e : Bool) (lo hi : Int) (e' : Bool) (lo' hi' : Int) : flyballref17_Meet.f e lo hi e' lo' hi' = some (meet (no3 e lo hi) (no3 e' lo' hi')) := by
  unfold flyballref17_Meet.f
  simp only [rnorm_f, Option.bind_some, mx_eq, mn_eq]
  rcases (no3_ok e lo hi).cases with h | ⟨l, u, h, h1, h2, h3, h4, h5⟩ <;> rw [h]
  · rfl
  · rcases (no3_ok e' lo' hi').cases with g | ⟨l', u', g, g1, g2, g3, g4, g5⟩ <;> rw [g] <;> rfl
end Go.Proofs.Ytinmgnlofininaa.Ev
