/- IntsWidens, over numbers alone: where an interval goes on to is what the document says, and not less than both. -/
import Derived.Test.YtinmgnlofininaaPAllx24
import Derived.Test.YtinmgnlofininaaEvX
import Derived.Test.YtinmgnlofininaaEvW
set_option linter.unusedVariables false
set_option linter.unusedSimpArgs false
namespace Go.Proofs.Ytinmgnlofininaa.Pure
open Go.RowKit Go.Proofs.Ytinmgnlofininaa.PAll Go.Proofs.YtinmgnlofininaaW.PrintWords Go.Proofs.YtinmgnlofininaaW.PrintLast Go.Proofs.YtinmgnlofininaaW.PrintMore Go.Proofs.Ytinmgnlofininaa.Spec Go.Proofs.Ytinmgnlofininaa.Ev
theorem IntsWidens (a0_0 : Bool) (a0_1 a0_2 : Int) (a1_0 : Bool) (a1_1 a1_2 : Int) (l2 : List Int) (_ : (Lit.int .i64 a0_1).wf = true) (_ : (Lit.int .i64 a0_2).wf = true) (_ : (Lit.int .i64 a1_1).wf = true) (_ : (Lit.int .i64 a1_2).wf = true) (_ : l2.length ≤ maxLen) (_ : l2.length * 8 ≤ 140737488351232) (_ : ∀ x ∈ l2, (Lit.int .i64 x).wf = true) :
    ∃ k, flyballlaw17_IntsWidens.f k a0_0 a0_1 a0_2 a1_0 a1_1 a1_2 l2 = some true := by
  suffices h : ∀ k, 1000 ≤ k → flyballlaw17_IntsWidens.f k a0_0 a0_1 a0_2 a1_0 a1_1 a1_2 l2 = some true from ⟨_, h 1000 (by omega)⟩
  intro k hk
  unfold flyballlaw17_IntsWidens.f
  rw [works17 _ (by omega)]
  simp only [Option.bind_some, if_true]
  by_cases c : (l2.length : Int) > 200
  · rw [if_pos c]
  · rw [if_neg c, widen_f k l2 (by omega) (by omega), rwiden_f k l2 (by omega) (by omega)]
    have oa := no3_ok a0_0 a0_1 a0_2
    have ob := no3_ok a1_0 a1_1 a1_2
    have ow := widen_ok (o := no3 a0_0 a0_1 a0_2) ob l2
    have i := inside_widen oa ob l2
    simp only [Option.bind_some, inside_f, beq_self_eq_true, Bool.and_self, if_true]
    rw [show no3 _ _ _ = _ from nr_ok ow, if_pos i.1, i.2]
end Go.Proofs.Ytinmgnlofininaa.Pure
