/- IntsMakes, over numbers alone: the program's intervals and the document's are made, asked, joined and met alike. -/
import Derived.Test.YtinmgnlofininaaPAllx18
import Derived.Test.YtinmgnlofininaaEvA
import Derived.Test.YtinmgnlofininaaEvR
import Derived.Test.YtinmgnlofininaaEvW
set_option linter.unusedVariables false
set_option linter.unusedSimpArgs false
namespace Go.Proofs.Ytinmgnlofininaa.Pure
open Go.RowKit Go.Proofs.Ytinmgnlofininaa.PAll Go.Proofs.YtinmgnlofininaaW.PrintWords Go.Proofs.YtinmgnlofininaaW.PrintLast Go.Proofs.YtinmgnlofininaaW.PrintMore Go.Proofs.Ytinmgnlofininaa.Spec Go.Proofs.Ytinmgnlofininaa.Ev
theorem IntsMakes (a0_0 : Bool) (a0_1 a0_2 : Int) (a1_0 : Bool) (a1_1 a1_2 : Int) (a2 : Int) (_ : (Lit.int .i64 a0_1).wf = true) (_ : (Lit.int .i64 a0_2).wf = true) (_ : (Lit.int .i64 a1_1).wf = true) (_ : (Lit.int .i64 a1_2).wf = true) (_ : (Lit.int .i64 a2).wf = true) :
    ∃ k, flyballlaw17_IntsMakes.f k a0_0 a0_1 a0_2 a1_0 a1_1 a1_2 a2 = some true := by
  refine ⟨30, ?_⟩
  unfold flyballlaw17_IntsMakes.f
  rw [works17 _ (by omega)]
  simp only [Option.bind_some, if_true, join1_f 30 (by omega), join0_f 30 (by omega), join2_f 30 (by omega), meet_f 30 (by omega), make_f, point_f, has_f, inside_f, rnorm_f, rhas_f, rinside_f, rjoin_f, rmeet_f]
  simp
end Go.Proofs.Ytinmgnlofininaa.Pure
