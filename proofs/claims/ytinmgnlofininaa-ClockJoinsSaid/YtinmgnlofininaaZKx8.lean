/- Functions of the print, turned to this claim. -/
import Derived.Test.YtinmgnlofininaaZKW
import Derived.Test.YtinmgnlofininaaZKx0
import Derived.Test.YtinmgnlofininaaZKx3
import Derived.Test.YtinmgnlofininaaZKx5
section
namespace Go.Proofs.Ytinmgnlofininaa.PAll
open Go.RowKit Go.Proofs.YtinmgnlofininaaW.PrintWords Go.Proofs.YtinmgnlofininaaW.PrintLast Go.Proofs.YtinmgnlofininaaW.PrintMore
attribute [local go_sem] max2_int min2_int max_two min_two max_three min_three max_four min_four   -- for this text's walks alone
set_option linter.unusedVariables false
set_option linter.unusedSimpArgs false
/-! ### ints_Full: function 60 -/
def ints_Full.f  : Option (Bool × Int × Int) := (ints_Make.f (-2147483648) 2147483647).bind fun bt3552 => (some (bt3552.1, bt3552.2.1, bt3552.2.2))
set_option maxHeartbeats 8000000 in
set_option maxRecDepth 100000 in
theorem ints_Full.calls  (r1 : Bool) (r2 : Int) (r3 : Int) (w : World) (h : ints_Full.f  = some (r1, r2, r3)) :
    Calls Try.prog 60 #[] w fun e w' => e = .returned (.agg #[.bool r1, .int .i64 r2, .int .i64 r3]) ∧ Below w.heap.size w w' := by
  have hu23 := Try.underlying23
  have HB := Aside0.mk (Below.refl w.heap.size w)
  have H := h
  clear h
  unfold ints_Full.f at H
  obtain ⟨⟨t3552, t3553, t3554⟩, A10, H⟩ := Option.bind_eq_some_iff.mp H
  have A1 := Aside0.mk A10
  clear A10
  (try dsimp only at H)
  simp only [Option.some.injEq, Prod.mk.injEq] at H
  obtain ⟨rfl, rfl, rfl⟩ := H
  go_enter Try.func60, Try.ntmps60
  go_wp2_with (first | ((with_reducible refine gate_dst (N := 0) rfl ?_); refine kx 0 #[.bool false, .int .i64 0, .int .i64 0] 23 ?_; intro gb3551 hg w2 hbox hb; have BK3551 := Aside0.mk (hbox); have GW3551 := kg HB hg; have GE3551 := kg HB hg; replace HB := kh HB hb; clear hb hbox hg) | ((with_reducible refine gate_callee (f := 37) rfl ?_); refine kc (some 1) Try.func37 #[.int .i64 (-2147483648), .int .i64 2147483647] (ints_Make.calls (-2147483648) 2147483647 t3552 t3553 t3554 _ A1.out) ?_; intro w3 hb; replace BK3551 := kb BK3551 hb; replace HB := kh HB hb; (try clear hb); have ⟨hcz4_0, hcz4_1, hcz4_2, hfz4_0, hfz4_1, hfz4_2⟩ := kz3f BK3551))
  refine bodyPost_ret (results_cell_row rfl _ _ gb3551 23 #[.bool t3552, .int .i64 t3553, .int .i64 t3554] (0, 0) _ rfl (pK BK3551) Try.underlying23 rfl (by kernel_rfl)) rfl ?_
  exact ⟨pe, pl HB⟩
end Go.Proofs.Ytinmgnlofininaa.PAll
end
