/- The row of the law WideThrees: for every input it returns true, and each argument reads as it read before. No condition. -/
import Derived.Test.YtdchdapllehppaaRows
import Derived.WalkKit
import Derived.ProofKit
import Derived.OpenShut
import Derived.ShutString
import Derived.ChangeOld
import Derived.Below
import Derived.SizedLaws
import Derived.Test.YtdchdapllehppaaZTW
import Derived.Test.YtdchdapllehppaaZTx24
import Derived.Test.YtdchdapllehppaaZTO
namespace Go.Proofs.Ytdchdapllehppaa.wideThrees
open Go.ChangeShapes Go.WideShapes Go.ChangeAt Go.RowKit Go.Proofs.YtdchdapllehppaaAid Go.Proofs.YtdchdapllehppaaW.PrintWords
set_option linter.unusedVariables false
theorem own : ownKnob Try.prog.godebug = none := by kernel_rfl
theorem laidOut : laidOutB Try.prog = true := by kernel_rfl
def IsRow (k : IntKind) (w : World) (a : Option Addr) (len cap : Nat) (zs : List Int) : Prop :=
  (a = none ∧ len = 0 ∧ cap = 0 ∧ zs = []) ∨
  ∃ x, a = some x ∧ len ≤ cap ∧ cap ≤ maxLen ∧ zs.length = cap ∧ (∀ i, i < zs.length → w.cell? (x.add i) = some (.int k (zs.getD i 0))) ∧ ∀ n ∈ zs, (Lit.int k n).wf = true
set_option maxRecDepth 100000 in
theorem lifted (os : Os) (started : os.Started) (H : Type) (enc : TypeId × Value → H) :
    ReturnsInHanded {} Try.checked os 9 .any (Rows.wideThreesSpec.pre6 enc Try.prog Try.f9 Rows.wideThreesRow.domain false) (Rows.wideThreesSpec.post enc Try.prog Try.f9 false true false false) := by
  refine returnsInHanded_of_change_sized (C := Try.checked) own started (by kernel_rfl) Try.func9
    (ChangeSpec.witness6 (enc := enc) (C := Try.checked) false ⟨#[], #[.agg #[.int .u64 0, .int .u64 0, .int .u64 0], .agg #[.int .u64 0, .int .u64 0, .int .u64 0], .slice none 0 0], []⟩ 8 (by kernel_rfl) (by kernel_rfl) (by kernel_rfl) (by kernel_rfl)) ?_
  intro W base args ds gs before hval0 hW hcnd hsz0 _
  have hsz : (DataW.weightsEach Try.prog (Try.f9.params.toList ++ Rows.wideThreesSpec.plain.varTypes Try.prog) (ds ++ gs)).all (· ≤ reachBytes) = true := hsz0
  have hval : ∀ (j : Nat) t v, Try.f9.params[j]? = some t → args[j]? = some v → Value.okWide Try.prog W .any base t v := hval0
  have hW' := hW
  obtain ⟨p, q, hA0, hV, rfl, hfz, hnd⟩ := hW
  have hA : DataW.TrodAll enc Try.prog W 0 (fun _ => true) true Try.f9.params.toList args.toList ds p := hA0
  rw [Try.params9] at hA hval hsz
  obtain ⟨v0, vs0, d0, ds0, p0, q0, hargs, rfl, rfl, h0, r0⟩ := trodAll_cons hA
  obtain ⟨v1, vs1, d1, ds1, p1, q1, rfl, rfl, rfl, h1, r1⟩ := trodAll_cons r0
  obtain ⟨v2, vs2, d2, ds2, p2, q2, rfl, rfl, rfl, h2, r2⟩ := trodAll_cons r1
  obtain ⟨rfl, rfl, rfl⟩ := trodAll_nil r2
  obtain rfl : args = #[v0, v1, v2] := by cases args; simp_all
  obtain ⟨rfl, rfl⟩ := trodVars_none hV
  obtain ⟨a0_0, a0_1, a0_2, rfl, rfl, rfl, w0_0, w0_1, w0_2⟩ := open_uuu Try.underlying26 (by kernel_rfl) (by kernel_rfl) Try.underlying22 Try.underlying22 Try.underlying22 (hval 0 26 v0 rfl rfl) h0
  obtain ⟨a1_0, a1_1, a1_2, rfl, rfl, rfl, w1_0, w1_1, w1_2⟩ := open_uuu Try.underlying26 (by kernel_rfl) (by kernel_rfl) Try.underlying22 Try.underlying22 Try.underlying22 (hval 1 26 v1 rfl rfl) h1
  obtain ⟨a2, len2, cap2, rfl⟩ := okWide_slice Try.underlying63 (hval 2 63 v2 rfl rfl)
  have k2 := h2
  have lt2 : ∀ x ∈ p2, x.block < W.heap.size := by obtain ⟨m, hm⟩ := k2; exact DataW.trod_lt m _ _ _ hm
  obtain ⟨fuel2, hf2⟩ := h2
  obtain ⟨l2, rfl, hc2, hr2, hw2⟩ := open_sU2 Try.underlying63 Try.underlying24 (by kernel_rfl) (by kernel_rfl) Try.underlying22 Try.underlying22 hf2
  clear hA0 hval0 hsz0 hsz
  obtain ⟨k, h⟩ := Pure.WideThrees a0_0 a0_1 a0_2 a1_0 a1_1 a1_2 l2 w0_0 w0_1 w0_2 w1_0 w1_1 w1_2 hw2
  refine (PAll.flyballlaw01_WideThrees.calls k a0_0 a0_1 a0_2 a1_0 a1_1 a1_2 _ _ l2 true W hr2 hc2 h).mono fun e W' ⟨he, bel⟩ => ?_
  subst he
  exact ⟨_, rfl, _, _, _, [], _, [], hW', trodAll_mk1 (shut_bool Try.underlying4 _), (trodAll_cons_mk (shut_uuu Try.underlying26 (by kernel_rfl) (by kernel_rfl) Try.underlying22 Try.underlying22 Try.underlying22 w0_0 w0_1 w0_2) (trodAll_cons_mk (shut_uuu Try.underlying26 (by kernel_rfl) (by kernel_rfl) Try.underlying22 Try.underlying22 Try.underlying22 w1_0 w1_1 w1_2) (trodAll_cons_mk (Below.trod laidOut (by kernel_rfl) (of_decide_eq_true (by kernel_rfl)) k2 bel lt2) trodAll_mk0))), rfl, bel.frame _, fun h => by cases h⟩
theorem over : Rows.wideThreesRow.holds Try.pinned (OpenSpec.ofChange Rows.wideThreesSpec) :=
  OpenClaim.holds_of_wide 9 Try.f9 rfl rfl rfl rfl rfl rfl rfl ⟨rfl, rfl, rfl, rfl, rfl⟩ rfl rfl rfl rfl rfl (by kernel_rfl) Try.func9 (by kernel_rfl)
    (of_decide_eq_true (by kernel_rfl)) (by unfold Func.isWrapper; first | (rw [if_pos (by decide +kernel)]; kernel_rfl) | (rw [if_neg (by decide +kernel)]; exact ⟨rfl, rfl⟩))
    (fun os started H enc _ => lifted os started H enc)
end Go.Proofs.Ytdchdapllehppaa.wideThrees
namespace Go.Proofs.Ytdchdapllehppaa
theorem wideThrees_holds : Rows.WideThreesSaid := wideThrees.over
#print axioms wideThrees_holds
end Go.Proofs.Ytdchdapllehppaa
