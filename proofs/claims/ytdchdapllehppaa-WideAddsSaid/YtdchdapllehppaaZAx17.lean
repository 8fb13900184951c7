/- Functions of the print, turned to this claim. -/
import Derived.Test.YtdchdapllehppaaZAW
import Derived.Test.YtdchdapllehppaaZAx0
import Derived.Test.YtdchdapllehppaaZAx5
section
namespace Go.Proofs.Ytdchdapllehppaa.PAll
open Go.RowKit Go.Proofs.YtdchdapllehppaaW.PrintWords Go.Proofs.YtdchdapllehppaaW.PrintLast Go.Proofs.YtdchdapllehppaaW.PrintMore
attribute [local go_sem] max2_int min2_int max_two min_two max_three min_three max_four min_four   -- for this text's walks alone
set_option linter.unusedVariables false
set_option linter.unusedSimpArgs false
/-! ### wide_U128_Add: function 21 -/
def wide_U128_Add.f (a0_0 : Int) (a0_1 : Int) (a1_0 : Int) (a1_1 : Int) : Option (Int × Int × Int) := (bits_Add64.f a0_1 a1_1 0).bind fun bt5654 => ((bits_Add64.f a0_0 a1_0 bt5654.2).bind fun bt5656 => (some (bt5656.1, bt5654.1, bt5656.2)))
set_option maxHeartbeats 8000000 in
set_option maxRecDepth 100000 in
theorem wide_U128_Add.calls (a0_0 : Int) (a0_1 : Int) (a1_0 : Int) (a1_1 : Int) (r1 : Int) (r2 : Int) (r3 : Int) (w : World) (h : wide_U128_Add.f a0_0 a0_1 a1_0 a1_1 = some (r1, r2, r3)) :
    Calls Try.prog 21 #[.agg #[.int .u64 a0_0, .int .u64 a0_1], .agg #[.int .u64 a1_0, .int .u64 a1_1]] w fun e w' => e = .returned (.tuple #[.agg #[.int .u64 r1, .int .u64 r2], .int .u64 r3]) ∧ Below w.heap.size w w' := by
  have hu24 := Try.underlying24
  have HB := Aside0.mk (Below.refl w.heap.size w)
  have H := h
  clear h
  unfold wide_U128_Add.f at H
  obtain ⟨⟨t5654, t5655⟩, A30, H⟩ := Option.bind_eq_some_iff.mp H
  have A3 := Aside0.mk A30
  clear A30
  (try dsimp only at H)
  obtain ⟨⟨t5656, t5657⟩, A40, H⟩ := Option.bind_eq_some_iff.mp H
  have A4 := Aside0.mk A40
  clear A40
  (try dsimp only at H)
  simp only [Option.some.injEq, Prod.mk.injEq] at H
  obtain ⟨rfl, rfl, rfl⟩ := H
  go_enter Try.func21, Try.ntmps21
  go_wp2_with (first | ((with_reducible refine gate_dst (N := 2) rfl ?_); refine kx 2 #[.int .u64 a0_0, .int .u64 a0_1] 24 ?_; intro gb5651 hg w5 hbox hb; have BK5651 := Aside0.mk (hbox); have GW5651 := kg HB hg; have GE5651 := kg HB hg; replace HB := kh HB hb; clear hb hbox hg) | ((with_reducible refine gate_dst (N := 3) rfl ?_); refine kx 3 #[.int .u64 a1_0, .int .u64 a1_1] 24 ?_; intro gb5652 hg w6 hbox hb; have BK5652 := Aside0.mk (hbox); have GW5652 := kg HB hg; have GE5652 := kg HB hg; have NB5651_5652 := kn BK5651 hg; have NB5652_5651 := km BK5651 hg; replace BK5651 := kb BK5651 hb; replace HB := kh HB hb; clear hb hbox hg) | ((with_reducible refine gate_dst (N := 4) rfl ?_); refine kx 4 #[.int .u64 0, .int .u64 0] 24 ?_; intro gb5653 hg w7 hbox hb; have BK5653 := Aside0.mk (hbox); have GW5653 := kg HB hg; have GE5653 := kg HB hg; have NB5651_5653 := kn BK5651 hg; have NB5653_5651 := km BK5651 hg; have NB5652_5653 := kn BK5652 hg; have NB5653_5652 := km BK5652 hg; replace BK5651 := kb BK5651 hb; replace BK5652 := kb BK5652 hb; replace HB := kh HB hb; clear hb hbox hg; have hnb8 := NB5651_5652.out; have hnc8 := NB5652_5651.out; have hnb9 := NB5651_5653.out; have hnc9 := NB5653_5651.out; have hcz10_0 : w7.cell? ⟨gb5651, 0, none⟩ = some (.int .u64 a0_0) := bc BK5651 0; have hcz10_1 : w7.cell? ⟨gb5651, 1, none⟩ = some (.int .u64 a0_1) := bc BK5651 1; have hfz10_0 := blk_frozen BK5651.out 0; have hfz10_1 := blk_frozen BK5651.out 1; have hnb11 := NB5652_5653.out; have hnc11 := NB5653_5652.out; have hcz12_0 : w7.cell? ⟨gb5652, 0, none⟩ = some (.int .u64 a1_0) := bc BK5652 0; have hcz12_1 : w7.cell? ⟨gb5652, 1, none⟩ = some (.int .u64 a1_1) := bc BK5652 1; have hfz12_0 := blk_frozen BK5652.out 0; have hfz12_1 := blk_frozen BK5652.out 1) | ((with_reducible refine gate_callee (f := 47) rfl ?_); refine kcE (some 14) Try.func47 #[.int .u64 a0_1, .int .u64 a1_1, .int .u64 0] (bits_Add64.calls a0_1 a1_1 0 t5654 t5655 _ A3.out) ?_; intro w13 hb; replace BK5651 := kb BK5651 hb; replace BK5652 := kb BK5652 hb; replace BK5653 := kb BK5653 hb; replace HB := kh HB hb; (try clear hb); have hcz14_0 : w13.cell? ⟨gb5651, 0, none⟩ = some (.int .u64 a0_0) := bc BK5651 0; have hcz14_1 : w13.cell? ⟨gb5651, 1, none⟩ = some (.int .u64 a0_1) := bc BK5651 1; have hfz14_0 := blk_frozen BK5651.out 0; have hfz14_1 := blk_frozen BK5651.out 1; have hcz15_0 : w13.cell? ⟨gb5652, 0, none⟩ = some (.int .u64 a1_0) := bc BK5652 0; have hcz15_1 : w13.cell? ⟨gb5652, 1, none⟩ = some (.int .u64 a1_1) := bc BK5652 1; have hfz15_0 := blk_frozen BK5652.out 0; have hfz15_1 := blk_frozen BK5652.out 1) | ((with_reducible refine gate_callee (f := 47) rfl ?_); refine kcE (some 23) Try.func47 #[.int .u64 a0_0, .int .u64 a1_0, .int .u64 t5655] (bits_Add64.calls a0_0 a1_0 t5655 t5656 t5657 _ A4.out) ?_; intro w16 hb; replace BK5651 := kb BK5651 hb; replace BK5652 := kb BK5652 hb; replace BK5653 := kb BK5653 hb; replace HB := kh HB hb; (try clear hb); have hcz17_0 : w16.cell? ⟨gb5653, 0, none⟩ = some (.int .u64 0) := bc BK5653 0; have hcz17_1 : w16.cell? ⟨gb5653, 1, none⟩ = some (.int .u64 0) := bc BK5653 1; have hfz17_0 := blk_frozen BK5653.out 0; have hfz17_1 := blk_frozen BK5653.out 1))
  refine bodyPost_ret (results_ct rfl _ _ gb5653 24 #[.int .u64 t5656, .int .u64 t5654] (0, 0) _ rfl (pK BK5653) Try.underlying24 rfl (by kernel_rfl)) rfl ?_
  exact ⟨pe, pl HB⟩
end Go.Proofs.Ytdchdapllehppaa.PAll
end
