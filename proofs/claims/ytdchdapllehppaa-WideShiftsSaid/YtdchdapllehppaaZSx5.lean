/- Functions of the print, turned to this claim. -/
import Derived.Test.YtdchdapllehppaaZSW
import Derived.Test.YtdchdapllehppaaZSx0
import Derived.Test.YtdchdapllehppaaZSx4
section
namespace Go.Proofs.Ytdchdapllehppaa.PAll
open Go.RowKit Go.Proofs.YtdchdapllehppaaW.PrintWords Go.Proofs.YtdchdapllehppaaW.PrintLast Go.Proofs.YtdchdapllehppaaW.PrintMore
attribute [local go_sem] max2_int min2_int max_two min_two max_three min_three max_four min_four   -- for this text's walks alone
set_option linter.unusedVariables false
set_option linter.unusedSimpArgs false
/-! ### wide_U128_Div: function 12 -/
def wide_U128_Div.f (k : Nat) (a0_0 : Int) (a0_1 : Int) (a1 : Int) : Option (Int × Int × Int) := if a1 = 0 then (some (0, 0, 0)) else ((bits_Div64.f k 0 a0_0 a1).bind fun bt553 => ((bits_Div64.f k bt553.2 a0_1 a1).bind fun bt555 => (some (bt553.1, bt555.1, bt555.2))))
theorem wide_U128_Div.mono : ∀ a0 a1 a2 k, LeO (wide_U128_Div.f k a0 a1 a2) (wide_U128_Div.f (k + 1) a0 a1 a2) := by
  intro a0 a1 a2 k
  unfold wide_U128_Div.f
  repeat' first
      | (with_reducible exact bits_Div64.mono _ _ _ _)
      | (with_reducible exact LeO.refl _)
      | (with_reducible exact LeO.none _)
      | (with_reducible refine LeO.ite ?_ ?_)
      | (with_reducible refine LeO.bind ?_ (fun _ => ?_))
      | exact bits_Div64.mono _ _ _ _
      | exact LeO.none _
      | refine LeO.ite ?_ ?_
      | refine LeO.bind ?_ (fun _ => ?_)
set_option maxHeartbeats 8000000 in
set_option maxRecDepth 100000 in
theorem wide_U128_Div.calls (k : Nat) (a0_0 : Int) (a0_1 : Int) (a1 : Int) (r1 : Int) (r2 : Int) (r3 : Int) (w : World) (h : wide_U128_Div.f k a0_0 a0_1 a1 = some (r1, r2, r3)) :
    Calls Try.prog 12 #[.agg #[.int .u64 a0_0, .int .u64 a0_1], .int .u64 a1] w fun e w' => e = .returned (.tuple #[.agg #[.int .u64 r1, .int .u64 r2], .int .u64 r3]) ∧ Below w.heap.size w w' := by
  have hu24 := Try.underlying24
  have HB := Aside0.mk (Below.refl w.heap.size w)
  have H := h
  clear h
  unfold wide_U128_Div.f at H
  by_cases c3 : a1 = 0
  · rw [if_pos c3] at H
    have c3b0 : (a1 == 0) = true := beq_iff_eq.mpr c3
    have c3b1 : (a1 != 0) = false := bne_eq_false_iff_eq.mpr c3
    clear c3
    simp only [Option.some.injEq, Prod.mk.injEq] at H
    obtain ⟨rfl, rfl, rfl⟩ := H
    go_enter Try.func12, Try.ntmps12
    go_wp2_with (first | ((with_reducible refine gate_dst (N := 2) rfl ?_); refine kx 2 #[.int .u64 a0_0, .int .u64 a0_1] 24 ?_; intro gb551 hg w4 hbox hb; have BK551 := Aside0.mk (hbox); have GW551 := kg HB hg; have GE551 := kg HB hg; replace HB := kh HB hb; clear hb hbox hg) | ((with_reducible refine gate_dst (N := 4) rfl ?_); refine kx 4 #[.int .u64 0, .int .u64 0] 24 ?_; intro gb552 hg w5 hbox hb; have BK552 := Aside0.mk (hbox); have GW552 := kg HB hg; have GE552 := kg HB hg; have NB551_552 := kn BK551 hg; have NB552_551 := km BK551 hg; replace BK551 := kb BK551 hb; replace HB := kh HB hb; clear hb hbox hg; have hnb6 := NB552_551.out; have hnc6 := NB551_552.out; have hcz7_0 : w5.cell? ⟨gb552, 0, none⟩ = some (.int .u64 0) := bc BK552 0; have hcz7_1 : w5.cell? ⟨gb552, 1, none⟩ = some (.int .u64 0) := bc BK552 1; have hfz7_0 := blk_frozen BK552.out 0; have hfz7_1 := blk_frozen BK552.out 1))
    refine bodyPost_ret (results_ct rfl _ _ gb552 24 #[.int .u64 0, .int .u64 0] (0, 0) _ rfl (pK BK552) Try.underlying24 rfl (by kernel_rfl)) rfl ?_
    exact ⟨pe, pl HB⟩
  · rw [if_neg c3] at H
    have c3b0 : (a1 == 0) = false := beq_eq_false_iff_ne.mpr c3
    have c3b1 : (a1 != 0) = true := bne_iff_ne.mpr c3
    obtain ⟨⟨t553, t554⟩, A80, H⟩ := Option.bind_eq_some_iff.mp H
    have A8 := Aside0.mk A80
    clear A80
    (try dsimp only at H)
    obtain ⟨⟨t555, t556⟩, A90, H⟩ := Option.bind_eq_some_iff.mp H
    have A9 := Aside0.mk A90
    clear A90
    (try dsimp only at H)
    simp only [Option.some.injEq, Prod.mk.injEq] at H
    obtain ⟨rfl, rfl, rfl⟩ := H
    go_enter Try.func12, Try.ntmps12
    go_wp2_with (first | ((with_reducible refine gate_dst (N := 2) rfl ?_); refine kx 2 #[.int .u64 a0_0, .int .u64 a0_1] 24 ?_; intro gb551 hg w10 hbox hb; have BK551 := Aside0.mk (hbox); have GW551 := kg HB hg; have GE551 := kg HB hg; replace HB := kh HB hb; clear hb hbox hg) | ((with_reducible refine gate_dst (N := 4) rfl ?_); refine kx 4 #[.int .u64 0, .int .u64 0] 24 ?_; intro gb552 hg w11 hbox hb; have BK552 := Aside0.mk (hbox); have GW552 := kg HB hg; have GE552 := kg HB hg; have NB551_552 := kn BK551 hg; have NB552_551 := km BK551 hg; replace BK551 := kb BK551 hb; replace HB := kh HB hb; clear hb hbox hg; have hnb12 := NB551_552.out; have hnc12 := NB552_551.out; have hcz13_0 : w11.cell? ⟨gb551, 0, none⟩ = some (.int .u64 a0_0) := bc BK551 0; have hcz13_1 : w11.cell? ⟨gb551, 1, none⟩ = some (.int .u64 a0_1) := bc BK551 1; have hfz13_0 := blk_frozen BK551.out 0; have hfz13_1 := blk_frozen BK551.out 1) | ((with_reducible refine gate_callee (f := 45) rfl ?_); refine goesL_ (some 16) rfl rfl Try.func45 (by kernel_rfl) rfl #[.int .u64 0, .int .u64 a0_0, .int .u64 a1] rfl pa ?_; (with_reducible refine (bits_Div64.calls k 0 a0_0 a1 t553 t554 _ A8.out).mono ?_); rintro e w' ⟨rfl, ⟨nd, rfl⟩⟩; refine ⟨_, rfl, ?_⟩; (try (rw [drewN_self w11]; generalize hq_ : World.drewN w11 _ = w11; have n0_ : Aside0 (w11.heap[gb551]? = some (.cells #[.int .u64 a0_0, .int .u64 a0_1] 24 (0, 0))) := ⟨by rw [← hq_]; exact (pk BK551)⟩; have n1_ : Aside0 (w11.heap[gb552]? = some (.cells #[.int .u64 0, .int .u64 0] 24 (0, 0))) := ⟨by rw [← hq_]; exact (pk BK552)⟩; have n2_ : Aside0 (Below w.heap.size w w11) := ⟨by rw [← hq_]; exact (pl HB)⟩; clear BK551 BK552 HB hq_; have BK551 := n0_; have BK552 := n1_; have HB := n2_; clear n0_ n1_ n2_; have hczqgb551_0 : w11.cell? ⟨gb551, 0, none⟩ = some (.int .u64 a0_0) := bc BK551 0; have hfzqgb551_0 := blk_frozen BK551.out 0; have hczqgb551_1 : w11.cell? ⟨gb551, 1, none⟩ = some (.int .u64 a0_1) := bc BK551 1; have hfzqgb551_1 := blk_frozen BK551.out 1; have hczqgb552_0 : w11.cell? ⟨gb552, 0, none⟩ = some (.int .u64 0) := bc BK552 0; have hfzqgb552_0 := blk_frozen BK552.out 0; have hczqgb552_1 : w11.cell? ⟨gb552, 1, none⟩ = some (.int .u64 0) := bc BK552 1; have hfzqgb552_1 := blk_frozen BK552.out 1))) | ((with_reducible refine gate_callee (f := 45) rfl ?_); refine goesL_ (some 24) rfl rfl Try.func45 (by kernel_rfl) rfl #[.int .u64 t554, .int .u64 a0_1, .int .u64 a1] rfl pa ?_; (with_reducible refine (bits_Div64.calls k t554 a0_1 a1 t555 t556 _ A9.out).mono ?_); rintro e w' ⟨rfl, ⟨nd, rfl⟩⟩; refine ⟨_, rfl, ?_⟩; (try (rw [drewN_self w11]; generalize hq_ : World.drewN w11 _ = w11; have n0_ : Aside0 (w11.heap[gb551]? = some (.cells #[.int .u64 a0_0, .int .u64 a0_1] 24 (0, 0))) := ⟨by rw [← hq_]; exact (pk BK551)⟩; have n1_ : Aside0 (w11.heap[gb552]? = some (.cells #[.int .u64 0, .int .u64 0] 24 (0, 0))) := ⟨by rw [← hq_]; exact (pk BK552)⟩; have n2_ : Aside0 (Below w.heap.size w w11) := ⟨by rw [← hq_]; exact (pl HB)⟩; clear BK551 BK552 HB hq_; have BK551 := n0_; have BK552 := n1_; have HB := n2_; clear n0_ n1_ n2_; have hczqgb551_0 : w11.cell? ⟨gb551, 0, none⟩ = some (.int .u64 a0_0) := bc BK551 0; have hfzqgb551_0 := blk_frozen BK551.out 0; have hczqgb551_1 : w11.cell? ⟨gb551, 1, none⟩ = some (.int .u64 a0_1) := bc BK551 1; have hfzqgb551_1 := blk_frozen BK551.out 1; have hczqgb552_0 : w11.cell? ⟨gb552, 0, none⟩ = some (.int .u64 0) := bc BK552 0; have hfzqgb552_0 := blk_frozen BK552.out 0; have hczqgb552_1 : w11.cell? ⟨gb552, 1, none⟩ = some (.int .u64 0) := bc BK552 1; have hfzqgb552_1 := blk_frozen BK552.out 1)); have hcz14_0 : w11.cell? ⟨gb552, 0, none⟩ = some (.int .u64 0) := bc BK552 0; have hcz14_1 : w11.cell? ⟨gb552, 1, none⟩ = some (.int .u64 0) := bc BK552 1; have hfz14_0 := blk_frozen BK552.out 0; have hfz14_1 := blk_frozen BK552.out 1))
    refine bodyPost_ret (results_ct rfl _ _ gb552 24 #[.int .u64 t553, .int .u64 t555] (0, 0) _ rfl (pK BK552) Try.underlying24 rfl (by kernel_rfl)) rfl ?_
    exact ⟨pe, pl HB⟩
/-! ### bits_Mul64: function 50 -/
def bits_Mul64.f (a0 : Int) (a1 : Int) : Option (Int × Int) := some (IntKind.u64.wrap ((IntKind.u64.wrap ((IntKind.u64.wrap ((a0 / 4294967296) * (a1 / 4294967296))) + ((IntKind.u64.wrap ((IntKind.u64.wrap ((a0 / 4294967296) * (Go.bits .and .u64 a1 4294967295))) + ((IntKind.u64.wrap ((Go.bits .and .u64 a0 4294967295) * (Go.bits .and .u64 a1 4294967295))) / 4294967296))) / 4294967296))) + ((IntKind.u64.wrap ((Go.bits .and .u64 (IntKind.u64.wrap ((IntKind.u64.wrap ((a0 / 4294967296) * (Go.bits .and .u64 a1 4294967295))) + ((IntKind.u64.wrap ((Go.bits .and .u64 a0 4294967295) * (Go.bits .and .u64 a1 4294967295))) / 4294967296))) 4294967295) + (IntKind.u64.wrap ((Go.bits .and .u64 a0 4294967295) * (a1 / 4294967296))))) / 4294967296)), IntKind.u64.wrap (a0 * a1))
set_option maxHeartbeats 8000000 in
set_option maxRecDepth 100000 in
theorem bits_Mul64.calls (a0 : Int) (a1 : Int) (r1 : Int) (r2 : Int) (w : World) (h : bits_Mul64.f a0 a1 = some (r1, r2)) :
    Calls Try.prog 50 #[.int .u64 a0, .int .u64 a1] w fun e w' => e = .returned (.tuple #[.int .u64 r1, .int .u64 r2]) ∧ Drawn0 w w' := by
  have H := h
  clear h
  unfold bits_Mul64.f at H
  simp only [Option.some.injEq, Prod.mk.injEq] at H
  obtain ⟨rfl, rfl⟩ := H
  go_enter Try.func50, Try.ntmps50
  go_wp2
  go_ret2
  exact ⟨by first | rfl | (simp; done) | (simp [*]; done), by repeat (first | exact Drawn0.refl _ | apply Drawn0.step)⟩
/-! ### wide_Mul: function 27 -/
def wide_Mul.f (a0 : Int) (a1 : Int) : Option (Int × Int) := (bits_Mul64.f a0 a1).bind fun bt852 => (some (bt852.1, bt852.2))
set_option maxHeartbeats 8000000 in
set_option maxRecDepth 100000 in
theorem wide_Mul.calls (a0 : Int) (a1 : Int) (r1 : Int) (r2 : Int) (w : World) (h : wide_Mul.f a0 a1 = some (r1, r2)) :
    Calls Try.prog 27 #[.int .u64 a0, .int .u64 a1] w fun e w' => e = .returned (.agg #[.int .u64 r1, .int .u64 r2]) ∧ Below w.heap.size w w' := by
  have hu24 := Try.underlying24
  have HB := Aside0.mk (Below.refl w.heap.size w)
  have H := h
  clear h
  unfold wide_Mul.f at H
  obtain ⟨⟨t852, t853⟩, A30, H⟩ := Option.bind_eq_some_iff.mp H
  have A3 := Aside0.mk A30
  clear A30
  (try dsimp only at H)
  simp only [Option.some.injEq, Prod.mk.injEq] at H
  obtain ⟨rfl, rfl⟩ := H
  go_enter Try.func27, Try.ntmps27
  go_wp2_with (first | ((with_reducible refine gate_dst (N := 4) rfl ?_); refine kx 4 #[.int .u64 0, .int .u64 0] 24 ?_; intro gb851 hg w4 hbox hb; have BK851 := Aside0.mk (hbox); have GW851 := kg HB hg; have GE851 := kg HB hg; replace HB := kh HB hb; clear hb hbox hg) | ((with_reducible refine gate_callee (f := 50) rfl ?_); refine goesL_ (some 10) rfl rfl Try.func50 (by kernel_rfl) rfl #[.int .u64 a0, .int .u64 a1] rfl pa ?_; (with_reducible refine (bits_Mul64.calls a0 a1 t852 t853 _ A3.out).mono ?_); rintro e w' ⟨rfl, ⟨nd, rfl⟩⟩; refine ⟨_, rfl, ?_⟩; (try (rw [drewN_self w4]; generalize hq_ : World.drewN w4 _ = w4; have n0_ : Aside0 (w4.heap[gb851]? = some (.cells #[.int .u64 0, .int .u64 0] 24 (0, 0))) := ⟨by rw [← hq_]; exact (pk BK851)⟩; have n1_ : Aside0 (Below w.heap.size w w4) := ⟨by rw [← hq_]; exact (pl HB)⟩; clear BK851 HB hq_; have BK851 := n0_; have HB := n1_; clear n0_ n1_; have hczqgb851_0 : w4.cell? ⟨gb851, 0, none⟩ = some (.int .u64 0) := bc BK851 0; have hfzqgb851_0 := blk_frozen BK851.out 0; have hczqgb851_1 : w4.cell? ⟨gb851, 1, none⟩ = some (.int .u64 0) := bc BK851 1; have hfzqgb851_1 := blk_frozen BK851.out 1)); have hcz5_0 : w4.cell? ⟨gb851, 0, none⟩ = some (.int .u64 0) := bc BK851 0; have hcz5_1 : w4.cell? ⟨gb851, 1, none⟩ = some (.int .u64 0) := bc BK851 1; have hfz5_0 := blk_frozen BK851.out 0; have hfz5_1 := blk_frozen BK851.out 1))
  refine bodyPost_ret (results_cell_row rfl _ _ gb851 24 #[.int .u64 t852, .int .u64 t853] (0, 0) _ rfl (pK BK851) Try.underlying24 rfl (by kernel_rfl)) rfl ?_
  exact ⟨pe, pl HB⟩
/-! ### bits_Add64: function 47 -/
def bits_Add64.f (a0 : Int) (a1 : Int) (a2 : Int) : Option (Int × Int) := if 0 ≤ a0 ∧ 0 ≤ a1 ∧ 0 ≤ a2 ∧ a2 ≤ 1 then some ((a0 + a1 + a2) % 18446744073709551616, (a0 + a1 + a2) / 18446744073709551616) else none
theorem bits_Add64.calls (a0 : Int) (a1 : Int) (a2 : Int) (r1 : Int) (r2 : Int) (w : World) (h : bits_Add64.f a0 a1 a2 = some (r1, r2)) :
    (callFunc 47 #[.int .u64 a0, .int .u64 a1, .int .u64 a2]).run Try.prog w = .ok (.value (.tuple #[.int .u64 r1, .int .u64 r2])) w := by
  unfold bits_Add64.f at h
  split at h
  · rename_i g
    obtain ⟨h0, h1, h2, h3⟩ := g
    simp only [Option.some.injEq, Prod.mk.injEq] at h
    obtain ⟨rfl, rfl⟩ := h
    rw [run_callFunc_extern Try.func47 (by kernel_rfl) (by kernel_rfl) (by kernel_rfl) (e := add64Entry) (by kernel_rfl), run_add64 a0 a1 a2 h0 h1 h2 h3]
    rfl
  · cases h
end Go.Proofs.Ytdchdapllehppaa.PAll
end
