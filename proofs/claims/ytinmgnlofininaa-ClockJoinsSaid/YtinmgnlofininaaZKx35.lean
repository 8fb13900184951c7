/- Functions of the print, turned to this claim. -/
import Derived.Test.YtinmgnlofininaaZKW
import Derived.Test.YtinmgnlofininaaZKx0
import Derived.Test.YtinmgnlofininaaZKx34
section
namespace Go.Proofs.Ytinmgnlofininaa.PAll
open Go.RowKit Go.Proofs.YtinmgnlofininaaW.PrintWords Go.Proofs.YtinmgnlofininaaW.PrintLast Go.Proofs.YtinmgnlofininaaW.PrintMore
attribute [local go_sem] max2_int min2_int max_two min_two max_three min_three max_four min_four   -- for this text's walks alone
set_option linter.unusedVariables false
set_option linter.unusedSimpArgs false
/-! ### flyballlaw21_of: function 19 -/
def flyballlaw21_of.f (a0_0 : Bool) (a0_1 : Int) (a0_2 : Int) (a0_3 : Bool) (a0_4 : Int) (a0_5 : Int) : Option (Bool × Int × Int × Bool × Int × Int) := some (a0_0, a0_1, a0_2, a0_3, a0_4, a0_5)
set_option maxHeartbeats 8000000 in
set_option maxRecDepth 100000 in
theorem flyballlaw21_of.calls (a0_0 : Bool) (a0_1 : Int) (a0_2 : Int) (a0_3 : Bool) (a0_4 : Int) (a0_5 : Int) (r1 : Bool) (r2 : Int) (r3 : Int) (r4 : Bool) (r5 : Int) (r6 : Int) (w : World) (h : flyballlaw21_of.f a0_0 a0_1 a0_2 a0_3 a0_4 a0_5 = some (r1, r2, r3, r4, r5, r6)) :
    Calls Try.prog 19 #[.agg #[.bool a0_0, .int .i64 a0_1, .int .i64 a0_2, .bool a0_3, .int .i64 a0_4, .int .i64 a0_5]] w fun e w' => e = .returned (.agg #[.bool r1, .int .i64 r2, .int .i64 r3, .bool r4, .int .i64 r5, .int .i64 r6]) ∧ Below w.heap.size w w' := by
  have hu25 := Try.underlying25
  have hu29 := Try.underlying29
  have hu23 := Try.underlying23
  have HB := Aside0.mk (Below.refl w.heap.size w)
  have H := h
  clear h
  unfold flyballlaw21_of.f at H
  simp only [Option.some.injEq, Prod.mk.injEq] at H
  obtain ⟨rfl, rfl, rfl, rfl, rfl, rfl⟩ := H
  go_enter Try.func19, Try.ntmps19
  go_wp2_with (first | ((with_reducible refine gate_dst (N := 1) rfl ?_); refine kx 1 #[.bool a0_0, .int .i64 a0_1, .int .i64 a0_2, .bool a0_3, .int .i64 a0_4, .int .i64 a0_5] 25 ?_; intro gb11201 hg w2 hbox hb; have BK11201 := Aside0.mk (hbox); have GW11201 := kg HB hg; have GE11201 := kg HB hg; replace HB := kh HB hb; clear hb hbox hg) | ((with_reducible refine gate_dst (N := 2) rfl ?_); refine kx 2 #[.bool false, .int .i64 0, .int .i64 0, .bool false, .int .i64 0, .int .i64 0] 29 ?_; intro gb11202 hg w3 hbox hb; have BK11202 := Aside0.mk (hbox); have GW11202 := kg HB hg; have GE11202 := kg HB hg; have NB11201_11202 := kn BK11201 hg; have NB11202_11201 := km BK11201 hg; replace BK11201 := kb BK11201 hb; replace HB := kh HB hb; clear hb hbox hg; have hnb4 := NB11201_11202.out; have hnc4 := NB11202_11201.out; have ⟨hcz5_0, hcz5_1, hcz5_2, hcz5_3, hcz5_4, hcz5_5, hfz5_0, hfz5_1, hfz5_2, hfz5_3, hfz5_4, hfz5_5⟩ := kz6f BK11201; have ⟨hcz6_0, hcz6_1, hcz6_2, hcz6_3, hcz6_4, hcz6_5, hfz6_0, hfz6_1, hfz6_2, hfz6_3, hfz6_4, hfz6_5⟩ := kz6f BK11202))
  refine bodyPost_ret (results_cell_row rfl _ _ gb11202 29 #[.bool a0_0, .int .i64 a0_1, .int .i64 a0_2, .bool a0_3, .int .i64 a0_4, .int .i64 a0_5] (0, 0) _ rfl (pK BK11202) Try.underlying29 rfl (by kernel_rfl)) rfl ?_
  exact ⟨pe, pl HB⟩
end Go.Proofs.Ytinmgnlofininaa.PAll
end
