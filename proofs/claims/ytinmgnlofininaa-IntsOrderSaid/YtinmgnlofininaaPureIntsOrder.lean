/- IntsOrder, over numbers alone: more in, more out. -/
import Derived.Test.YtinmgnlofininaaPAllx15
import Derived.Test.YtinmgnlofininaaEvD
import Derived.Test.YtinmgnlofininaaEvW
set_option linter.unusedVariables false
set_option linter.unusedSimpArgs false
namespace Go.Proofs.Ytinmgnlofininaa.Pure
open Go.RowKit Go.Proofs.Ytinmgnlofininaa.PAll Go.Proofs.YtinmgnlofininaaW.PrintWords Go.Proofs.YtinmgnlofininaaW.PrintLast Go.Proofs.YtinmgnlofininaaW.PrintMore Go.Proofs.Ytinmgnlofininaa.Spec Go.Proofs.Ytinmgnlofininaa.Ev
theorem IntsOrder (a0_0 : Bool) (a0_1 a0_2 : Int) (a1_0 : Bool) (a1_1 a1_2 : Int) (a2_0 : Bool) (a2_1 a2_2 : Int) (a3_0 : Bool) (a3_1 a3_2 : Int) (_ : (Lit.int .i64 a0_1).wf = true) (_ : (Lit.int .i64 a0_2).wf = true) (_ : (Lit.int .i64 a1_1).wf = true) (_ : (Lit.int .i64 a1_2).wf = true) (_ : (Lit.int .i64 a2_1).wf = true) (_ : (Lit.int .i64 a2_2).wf = true) (_ : (Lit.int .i64 a3_1).wf = true) (_ : (Lit.int .i64 a3_2).wf = true) :
    ∃ k, flyballlaw17_IntsOrder.f k a0_0 a0_1 a0_2 a1_0 a1_1 a1_2 a2_0 a2_1 a2_2 a3_0 a3_1 a3_2 = some true := by
  refine ⟨40, ?_⟩
  unfold flyballlaw17_IntsOrder.f
  rw [works17 _ (by omega)]
  have oa := no3_ok a0_0 a0_1 a0_2
  have ob := no3_ok a1_0 a1_1 a1_2
  have oc := no3_ok a2_0 a2_1 a2_2
  have od := no3_ok a3_0 a3_1 a3_2
  have r : ∀ s : Iv, Ok s → no3 s.1 s.2.1 s.2.2 = s := fun s h => nr_ok h
  simp only [Option.bind_some, if_true, join2_f 40 (by omega), meet_f 40 (by omega), add_f 40 (by omega), sub_f 40 (by omega), mul_f 40 (by omega), div_f 40 (by omega), abs_f 40 (by omega), neg_f, inside_f,
    r _ (join_ok oa oc), r _ (join_ok ob od), r _ (meet_ok _ _), r _ (neg_ok _), r _ (abs_ok _), r _ (mul_ok _ _), r _ (add_ok oa ob), r _ (sub_ok oa), r _ (div_ok oa ob), r _ (add_ok (join_ok oa oc) (join_ok ob od)), r _ (sub_ok (join_ok oa oc)), r _ (div_ok (join_ok oa oc) (join_ok ob od))]
  have ja := inside_join_l oa oc
  have jb := inside_join_l ob od
  have oj := join_ok oa oc
  have ok' := join_ok ob od
  rw [if_pos ja, if_pos (inside_meet_l oa oc), if_pos (inside_meet_r oa oc), if_pos (add_mono oa ob oj ok' ja jb), if_pos (sub_mono oa ob oj ok' ja jb), if_pos (mul_mono oa ob oj ok' ja jb), if_pos (div_mono oa ob oj ok' ja jb), if_pos (abs_mono oa oj ja), neg_mono oa oj ja]
end Go.Proofs.Ytinmgnlofininaa.Pure
