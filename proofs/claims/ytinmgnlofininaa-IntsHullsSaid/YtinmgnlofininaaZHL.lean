/- The row of the law IntsHulls: for every input it returns true, and each argument reads as it read before. No condition. -/
import Derived.Test.YtinmgnlofininaaRows
import Derived.WalkKit
import Derived.ProofKit
import Derived.OpenShut
import Derived.ShutString
import Derived.ChangeOld
import Derived.Below
import Derived.SizedLaws
import Derived.Test.YtinmgnlofininaaZHW
import Derived.Test.YtinmgnlofininaaZHx21
import Derived.Test.YtinmgnlofininaaZHO
namespace Go.Proofs.Ytinmgnlofininaa.intsHulls
open Go.ChangeShapes Go.WideShapes Go.ChangeAt Go.RowKit Go.Proofs.YtinmgnlofininaaAid Go.Proofs.YtinmgnlofininaaW.PrintWords
set_option linter.unusedVariables false
theorem own : ownKnob Try.prog.godebug = none := by kernel_rfl
set_option maxRecDepth 100000 in
theorem lifted (os : Os) (started : os.Started) (H : Type) (enc : TypeId × Value → H) :
    ReturnsInHanded {} Try.checked os 8 .any (Rows.intsHullsSpec.pre6 enc Try.prog Try.f8 Rows.intsHullsRow.domain false) (Rows.intsHullsSpec.post enc Try.prog Try.f8 false true false false) := by
  refine returnsInHanded_of_change_sized (C := Try.checked) own started (by kernel_rfl) Try.func8
    (ChangeSpec.witness6 (enc := enc) (C := Try.checked) false ⟨#[], #[.agg #[.bool false, .int .i64 0, .int .i64 0], .agg #[.bool false, .int .i64 0, .int .i64 0]], []⟩ 8 (by kernel_rfl) (by kernel_rfl) (by kernel_rfl) (by kernel_rfl)) ?_
  intro W base args ds gs before hval0 hW hcnd hsz0 _
  have hsz : (DataW.weightsEach Try.prog (Try.f8.params.toList ++ Rows.intsHullsSpec.plain.varTypes Try.prog) (ds ++ gs)).all (· ≤ reachBytes) = true := hsz0
  have hval : ∀ (j : Nat) t v, Try.f8.params[j]? = some t → args[j]? = some v → Value.okWide Try.prog W .any base t v := hval0
  have hW' := hW
  obtain ⟨p, q, hA0, hV, rfl, hfz, hnd⟩ := hW
  have hA : DataW.TrodAll enc Try.prog W 0 (fun _ => true) true Try.f8.params.toList args.toList ds p := hA0
  rw [Try.params8] at hA hval hsz
  obtain ⟨v0, vs0, d0, ds0, p0, q0, hargs, rfl, rfl, h0, r0⟩ := trodAll_cons hA
  obtain ⟨v1, vs1, d1, ds1, p1, q1, rfl, rfl, rfl, h1, r1⟩ := trodAll_cons r0
  obtain ⟨rfl, rfl, rfl⟩ := trodAll_nil r1
  obtain rfl : args = #[v0, v1] := by cases args; simp_all
  obtain ⟨rfl, rfl⟩ := trodVars_none hV
  obtain ⟨a0_0, a0_1, a0_2, rfl, rfl, rfl, w0_1, w0_2⟩ := open_bii Try.underlying23 (by kernel_rfl) (by kernel_rfl) Try.underlying4 Try.underlying2 Try.underlying2 (hval 0 23 v0 rfl rfl) h0
  obtain ⟨a1_0, a1_1, a1_2, rfl, rfl, rfl, w1_1, w1_2⟩ := open_bii Try.underlying23 (by kernel_rfl) (by kernel_rfl) Try.underlying4 Try.underlying2 Try.underlying2 (hval 1 23 v1 rfl rfl) h1
  clear hA0 hval0 hsz0 hsz
  obtain ⟨k, h⟩ := Pure.IntsHulls a0_0 a0_1 a0_2 a1_0 a1_1 a1_2 w0_1 w0_2 w1_1 w1_2
  refine (PAll.flyballlaw17_IntsHulls.calls k a0_0 a0_1 a0_2 a1_0 a1_1 a1_2 true W h).mono fun e W' ⟨he, bel⟩ => ?_
  subst he
  exact ⟨_, rfl, _, _, _, [], _, [], hW', trodAll_mk1 (shut_bool Try.underlying4 _), (trodAll_cons_mk (shut_bii Try.underlying23 (by kernel_rfl) (by kernel_rfl) Try.underlying4 Try.underlying2 Try.underlying2 w0_1 w0_2) (trodAll_cons_mk (shut_bii Try.underlying23 (by kernel_rfl) (by kernel_rfl) Try.underlying4 Try.underlying2 Try.underlying2 w1_1 w1_2) trodAll_mk0)), rfl, bel.frame _, fun h => by cases h⟩
theorem over : Rows.intsHullsRow.holds Try.pinned (OpenSpec.ofChange Rows.intsHullsSpec) :=
  OpenClaim.holds_of_wide 8 Try.f8 rfl rfl rfl rfl rfl rfl rfl ⟨rfl, rfl, rfl, rfl, rfl⟩ rfl rfl rfl rfl rfl (by kernel_rfl) Try.func8 (by kernel_rfl)
    (of_decide_eq_true (by kernel_rfl)) (by unfold Func.isWrapper; first | (rw [if_pos (by decide +kernel)]; kernel_rfl) | (rw [if_neg (by decide +kernel)]; exact ⟨rfl, rfl⟩))
    (fun os started H enc _ => lifted os started H enc)
end Go.Proofs.Ytinmgnlofininaa.intsHulls
namespace Go.Proofs.Ytinmgnlofininaa
theorem intsHulls_holds : Rows.IntsHullsSaid := intsHulls.over
#print axioms intsHulls_holds
end Go.Proofs.Ytinmgnlofininaa
