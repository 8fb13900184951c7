/- Functions of the print, turned to this claim. -/
import Derived.Test.YtdchdapllehppaaZVW
import Derived.Test.YtdchdapllehppaaZVx0
import Derived.Test.YtdchdapllehppaaZVx1
import Derived.Test.YtdchdapllehppaaZVx9
import Derived.Test.YtdchdapllehppaaZVx10
import Derived.Test.YtdchdapllehppaaZVx11
section
namespace Go.Proofs.Ytdchdapllehppaa.PAll
open Go.RowKit Go.Proofs.YtdchdapllehppaaW.PrintWords Go.Proofs.YtdchdapllehppaaW.PrintLast Go.Proofs.YtdchdapllehppaaW.PrintMore
attribute [local go_sem] max2_int min2_int max_two min_two max_three min_three max_four min_four   -- for this text's walks alone
set_option linter.unusedVariables false
set_option linter.unusedSimpArgs false
attribute [local go_sem high] eqA24
/-! ### wide_U192_Div: function 13 -/
def wide_U192_Div.l0 : Nat → Int → Int → Int → Int → Int → Int → Int → Int → Int → Int → Int → Int → Int → Option (Int × Int × Int × Int × Int)
  | 0, _, _, _, _, _, _, _, _, _, _, _, _, _ => none
  | k + 1, x9, x3852000, x3852001, x3852002, x3856000, x3856001, x3856002, x3857000, x3857001, x3857002, x3858000, x3858001, x3858002 => if x9 ≥ 0 then ((wide_U192_Shr.f k x3852000 x3852001 x3852002 x9).bind fun bt3859 => ((wide_U192_Shl.f k x3857000 x3857001 x3857002 1).bind fun bt3864 => ((wide_U192_Shl.f k x3856000 x3856001 x3856002 1).bind fun bt3867 => ((wide_U192_Cmp.f k bt3864.1 bt3864.2.1 (Go.bits .or .u64 bt3864.2.2 (Go.bits .and .u64 bt3859.2.2.1 1)) x3858000 x3858001 x3858002).bind fun t3870 => (if t3870 ≥ 0 then ((wide_U192_Sub.f bt3864.1 bt3864.2.1 (Go.bits .or .u64 bt3864.2.2 (Go.bits .and .u64 bt3859.2.2.1 1)) x3858000 x3858001 x3858002).bind fun bt3871 => (wide_U192_Div.l0 k (wrap64 (x9 - 1)) x3852000 x3852001 x3852002 bt3867.1 bt3867.2.1 (Go.bits .or .u64 bt3867.2.2 1) bt3871.1 bt3871.2.1 bt3871.2.2.1 x3858000 x3858001 x3858002)) else (wide_U192_Div.l0 k (wrap64 (x9 - 1)) x3852000 x3852001 x3852002 bt3867.1 bt3867.2.1 bt3867.2.2 bt3864.1 bt3864.2.1 (Go.bits .or .u64 bt3864.2.2 (Go.bits .and .u64 bt3859.2.2.1 1)) x3858000 x3858001 x3858002)))))) else (some (x3856000, x3856001, x3856002, x3857001, x3857002))
def wide_U192_Div.f (k : Nat) (a0_0 : Int) (a0_1 : Int) (a0_2 : Int) (a1_0 : Int) (a1_1 : Int) : Option (Int × Int × Int × Int × Int) := if (a1_0 == 0 && (a1_1 == 0)) = true then (some (0, 0, 0, 0, 0)) else ((wide_U192_Len.f k a0_0 a0_1 a0_2).bind fun t3858 => (wide_U192_Div.l0 k (wrap64 (t3858 - 1)) a0_0 a0_1 a0_2 0 0 0 0 0 0 0 a1_0 a1_1))
theorem wide_U192_Div.mono_l : ∀ k, (∀ y0 y1 y2 y3 y4 y5 y6 y7 y8 y9 y10 y11 y12, LeO (wide_U192_Div.l0 k y0 y1 y2 y3 y4 y5 y6 y7 y8 y9 y10 y11 y12) (wide_U192_Div.l0 (k + 1) y0 y1 y2 y3 y4 y5 y6 y7 y8 y9 y10 y11 y12))
  | 0 => fun _ _ _ _ _ _ _ _ _ _ _ _ _ r h => by simp [wide_U192_Div.l0] at h
  | k + 1 => by
    have ih0 := wide_U192_Div.mono_l k
    · intro y0 y1 y2 y3 y4 y5 y6 y7 y8 y9 y10 y11 y12
      unfold wide_U192_Div.l0
      repeat' first
      | (with_reducible exact ih0 _ _ _ _ _ _ _ _ _ _ _ _ _)
      | (with_reducible exact wide_U192_Cmp.mono _ _ _ _ _ _ _)
      | (with_reducible exact wide_U192_Len.mono _ _ _ _)
      | (with_reducible exact wide_U192_Shl.mono _ _ _ _ _)
      | (with_reducible exact wide_U192_Shr.mono _ _ _ _ _)
      | (with_reducible exact LeO.refl _)
      | (with_reducible exact LeO.none _)
      | (with_reducible refine LeO.ite ?_ ?_)
      | (with_reducible refine LeO.bind ?_ (fun _ => ?_))
      | exact ih0 _ _ _ _ _ _ _ _ _ _ _ _ _
      | exact wide_U192_Cmp.mono _ _ _ _ _ _ _
      | exact wide_U192_Len.mono _ _ _ _
      | exact wide_U192_Shl.mono _ _ _ _ _
      | exact wide_U192_Shr.mono _ _ _ _ _
      | exact LeO.none _
      | refine LeO.ite ?_ ?_
      | refine LeO.bind ?_ (fun _ => ?_)
theorem wide_U192_Div.mono : ∀ a0 a1 a2 a3 a4 k, LeO (wide_U192_Div.f k a0 a1 a2 a3 a4) (wide_U192_Div.f (k + 1) a0 a1 a2 a3 a4) := by
  intro a0 a1 a2 a3 a4 k
  have ih0 := wide_U192_Div.mono_l k
  unfold wide_U192_Div.f
  repeat' first
      | (with_reducible exact ih0 _ _ _ _ _ _ _ _ _ _ _ _ _)
      | (with_reducible exact wide_U192_Cmp.mono _ _ _ _ _ _ _)
      | (with_reducible exact wide_U192_Len.mono _ _ _ _)
      | (with_reducible exact wide_U192_Shl.mono _ _ _ _ _)
      | (with_reducible exact wide_U192_Shr.mono _ _ _ _ _)
      | (with_reducible exact LeO.refl _)
      | (with_reducible exact LeO.none _)
      | (with_reducible refine LeO.ite ?_ ?_)
      | (with_reducible refine LeO.bind ?_ (fun _ => ?_))
      | exact ih0 _ _ _ _ _ _ _ _ _ _ _ _ _
      | exact wide_U192_Cmp.mono _ _ _ _ _ _ _
      | exact wide_U192_Len.mono _ _ _ _
      | exact wide_U192_Shl.mono _ _ _ _ _
      | exact wide_U192_Shr.mono _ _ _ _ _
      | exact LeO.none _
      | refine LeO.ite ?_ ?_
      | refine LeO.bind ?_ (fun _ => ?_)
def wide_U192_Div.T16 : Bool × List (List Nat × List Nat) := (true, [([], []), ([], []), ([1], [1]), ([], []), ([3], [3]), ([2, 4], [2, 4]), ([0, 0], [0]), ([5, 6, 0, 1, 2, 3, 4, 5, 6], [5])])
def wide_U192_Div.B16 : List Nat := [0, 0, 2, 0, 8, 30, 1, 127]
theorem wide_U192_Div.tab16 : rtab .any (opsOf Try.f13 16) = wide_U192_Div.T16 := by kernel_rfl
theorem wide_U192_Div.bits16 : waitsOk wide_U192_Div.T16.2 wide_U192_Div.B16 = true := by kernel_rfl
set_option maxHeartbeats 8000000 in
set_option maxRecDepth 100000 in
theorem wide_U192_Div.calls (k : Nat) (a0_0 : Int) (a0_1 : Int) (a0_2 : Int) (a1_0 : Int) (a1_1 : Int) (r1 : Int) (r2 : Int) (r3 : Int) (r4 : Int) (r5 : Int) (w : World) (h : wide_U192_Div.f k a0_0 a0_1 a0_2 a1_0 a1_1 = some (r1, r2, r3, r4, r5)) :
    Calls Try.prog 13 #[.agg #[.int .u64 a0_0, .int .u64 a0_1, .int .u64 a0_2], .agg #[.int .u64 a1_0, .int .u64 a1_1]] w fun e w' => e = .returned (.tuple #[.agg #[.int .u64 r1, .int .u64 r2, .int .u64 r3], .agg #[.int .u64 r4, .int .u64 r5]]) ∧ Below w.heap.size w w' := by
  have hu26 := Try.underlying26
  have hu24 := Try.underlying24
  have HB := Aside0.mk (Below.refl w.heap.size w)
  have H := h
  clear h
  unfold wide_U192_Div.f at H
  by_cases c3 : (a1_0 == 0 && (a1_1 == 0)) = true
  · rw [if_pos c3] at H
    have c3b0 : (a1_0 == 0 && (a1_1 == 0)) = true := c3
    (try (have c3b1 : decide (a1_0 = 0 && (a1_1 == 0)) = true := by simpa using c3))
    (try (have c3b2 : (a1_0 == 0 && (a1_1 == 0)) = true := by simpa using c3))
    clear c3
    simp only [Option.some.injEq, Prod.mk.injEq] at H
    obtain ⟨rfl, rfl, rfl, rfl, rfl⟩ := H
    go_enter Try.func13, Try.ntmps13
    go_wp2_with (first | ((with_reducible refine gate_dst (N := 2) rfl ?_); refine kx 2 #[.int .u64 a0_0, .int .u64 a0_1, .int .u64 a0_2] 26 ?_; intro gb3851 hg w4 hbox hb; have BK3851 := Aside0.mk (hbox); have GW3851 := kg HB hg; have GE3851 := kg HB hg; replace HB := kh HB hb; clear hb hbox hg) | ((with_reducible refine gate_dst (N := 3) rfl ?_); refine kx 3 #[.int .u64 a1_0, .int .u64 a1_1] 24 ?_; intro gb3852 hg w5 hbox hb; have BK3852 := Aside0.mk (hbox); have GW3852 := kg HB hg; have GE3852 := kg HB hg; have NB3851_3852 := kn BK3851 hg; have NB3852_3851 := km BK3851 hg; replace BK3851 := kb BK3851 hb; replace HB := kh HB hb; clear hb hbox hg) | ((with_reducible refine gate_dst (N := 4) rfl ?_); refine kx 4 #[.int .u64 0, .int .u64 0, .int .u64 0] 26 ?_; intro gb3853 hg w6 hbox hb; have BK3853 := Aside0.mk (hbox); have GW3853 := kg HB hg; have GE3853 := kg HB hg; have NB3851_3853 := kn BK3851 hg; have NB3853_3851 := km BK3851 hg; have NB3852_3853 := kn BK3852 hg; have NB3853_3852 := km BK3852 hg; replace BK3851 := kb BK3851 hb; replace BK3852 := kb BK3852 hb; replace HB := kh HB hb; clear hb hbox hg) | ((with_reducible refine gate_dst (N := 5) rfl ?_); refine kx 5 #[.int .u64 0, .int .u64 0] 24 ?_; intro gb3854 hg w7 hbox hb; have BK3854 := Aside0.mk (hbox); have GW3854 := kg HB hg; have GE3854 := kg HB hg; have NB3851_3854 := kn BK3851 hg; have NB3854_3851 := km BK3851 hg; have NB3852_3854 := kn BK3852 hg; have NB3854_3852 := km BK3852 hg; have NB3853_3854 := kn BK3853 hg; have NB3854_3853 := km BK3853 hg; replace BK3851 := kb BK3851 hb; replace BK3852 := kb BK3852 hb; replace BK3853 := kb BK3853 hb; replace HB := kh HB hb; clear hb hbox hg) | ((with_reducible refine gate_dst (N := 6) rfl ?_); refine kx 6 #[.int .u64 0, .int .u64 0, .int .u64 0] 26 ?_; intro gb3855 hg w8 hbox hb; have BK3855 := Aside0.mk (hbox); have GW3855 := kg HB hg; have GE3855 := kg HB hg; have NB3851_3855 := kn BK3851 hg; have NB3855_3851 := km BK3851 hg; have NB3852_3855 := kn BK3852 hg; have NB3855_3852 := km BK3852 hg; have NB3853_3855 := kn BK3853 hg; have NB3855_3853 := km BK3853 hg; have NB3854_3855 := kn BK3854 hg; have NB3855_3854 := km BK3854 hg; replace BK3851 := kb BK3851 hb; replace BK3852 := kb BK3852 hb; replace BK3853 := kb BK3853 hb; replace BK3854 := kb BK3854 hb; replace HB := kh HB hb; clear hb hbox hg) | ((with_reducible refine gate_dst (N := 7) rfl ?_); refine kx 7 #[.int .u64 0, .int .u64 0, .int .u64 0] 26 ?_; intro gb3856 hg w9 hbox hb; have BK3856 := Aside0.mk (hbox); have GW3856 := kg HB hg; have GE3856 := kg HB hg; have NB3851_3856 := kn BK3851 hg; have NB3856_3851 := km BK3851 hg; have NB3852_3856 := kn BK3852 hg; have NB3856_3852 := km BK3852 hg; have NB3853_3856 := kn BK3853 hg; have NB3856_3853 := km BK3853 hg; have NB3854_3856 := kn BK3854 hg; have NB3856_3854 := km BK3854 hg; have NB3855_3856 := kn BK3855 hg; have NB3856_3855 := km BK3855 hg; replace BK3851 := kb BK3851 hb; replace BK3852 := kb BK3852 hb; replace BK3853 := kb BK3853 hb; replace BK3854 := kb BK3854 hb; replace BK3855 := kb BK3855 hb; replace HB := kh HB hb; clear hb hbox hg; have hnb10 := NB3852_3851.out; have hnc10 := NB3851_3852.out; have hnb11 := NB3852_3853.out; have hnc11 := NB3853_3852.out; have hnb12 := NB3852_3854.out; have hnc12 := NB3854_3852.out; have hnb13 := NB3852_3855.out; have hnc13 := NB3855_3852.out; have hnb14 := NB3852_3856.out; have hnc14 := NB3856_3852.out; have hcz15_0 : w9.cell? ⟨gb3852, 0, none⟩ = some (.int .u64 a1_0) := bc BK3852 0; have hcz15_1 : w9.cell? ⟨gb3852, 1, none⟩ = some (.int .u64 a1_1) := bc BK3852 1; have hfz15_0 := blk_frozen BK3852.out 0; have hfz15_1 := blk_frozen BK3852.out 1; have hnb16 := NB3855_3851.out; have hnc16 := NB3851_3855.out; have hnb17 := NB3855_3853.out; have hnc17 := NB3853_3855.out; have hnb18 := NB3855_3854.out; have hnc18 := NB3854_3855.out; have hnb19 := NB3855_3856.out; have hnc19 := NB3856_3855.out; have ⟨hcz20_0, hcz20_1, hcz20_2, hfz20_0, hfz20_1, hfz20_2⟩ := kz3f BK3855; have hnb21 := NB3853_3851.out; have hnc21 := NB3851_3853.out; have hnb22 := NB3853_3854.out; have hnc22 := NB3854_3853.out; have hnb23 := NB3853_3856.out; have hnc23 := NB3856_3853.out; have ⟨hcz24_0, hcz24_1, hcz24_2, hfz24_0, hfz24_1, hfz24_2⟩ := kz3f BK3853; have hnb25 := NB3854_3851.out; have hnc25 := NB3851_3854.out; have hnb26 := NB3854_3856.out; have hnc26 := NB3856_3854.out; have hcz27_0 : w9.cell? ⟨gb3854, 0, none⟩ = some (.int .u64 0) := bc BK3854 0; have hcz27_1 : w9.cell? ⟨gb3854, 1, none⟩ = some (.int .u64 0) := bc BK3854 1; have hfz27_0 := blk_frozen BK3854.out 0; have hfz27_1 := blk_frozen BK3854.out 1))
    refine bodyPost_ret (results_cc rfl _ _ gb3853 gb3854 26 24 #[.int .u64 0, .int .u64 0, .int .u64 0] #[.int .u64 0, .int .u64 0] (0, 0) (0, 0) _ _ rfl (pK BK3853) Try.underlying26 rfl (by kernel_rfl) rfl (pK BK3854) Try.underlying24 rfl (by kernel_rfl)) rfl ?_
    exact ⟨pe, pl HB⟩
  · rw [if_neg c3] at H
    have c3b0 : (a1_0 == 0 && (a1_1 == 0)) = false := by simpa using c3
    (try (have c3b1 : decide (a1_0 = 0 && (a1_1 == 0)) = false := by simpa using c3))
    (try (have c3b2 : (a1_0 == 0 && (a1_1 == 0)) = false := by simpa using c3))
    (try (have c3b3 : ¬ (a1_0 = 0 && (a1_1 == 0)) := by simpa using c3))
    clear c3
    obtain ⟨t3858, A280, H⟩ := Option.bind_eq_some_iff.mp H
    have A28 := Aside0.mk A280
    clear A280
    (try dsimp only at H)
    have H' := Aside0.mk H
    clear H
    go_enter Try.func13, Try.ntmps13
    go_wp2_with (first | ((with_reducible refine gate_dst (N := 2) rfl ?_); refine kx 2 #[.int .u64 a0_0, .int .u64 a0_1, .int .u64 a0_2] 26 ?_; intro gb3851 hg w29 hbox hb; have BK3851 := Aside0.mk (hbox); have GW3851 := kg HB hg; have GE3851 := kg HB hg; replace HB := kh HB hb; clear hb hbox hg) | ((with_reducible refine gate_dst (N := 3) rfl ?_); refine kx 3 #[.int .u64 a1_0, .int .u64 a1_1] 24 ?_; intro gb3852 hg w30 hbox hb; have BK3852 := Aside0.mk (hbox); have GW3852 := kg HB hg; have GE3852 := kg HB hg; have NB3851_3852 := kn BK3851 hg; have NB3852_3851 := km BK3851 hg; replace BK3851 := kb BK3851 hb; replace HB := kh HB hb; clear hb hbox hg) | ((with_reducible refine gate_dst (N := 4) rfl ?_); refine kx 4 #[.int .u64 0, .int .u64 0, .int .u64 0] 26 ?_; intro gb3853 hg w31 hbox hb; have BK3853 := Aside0.mk (hbox); have GW3853 := kg HB hg; have GE3853 := kg HB hg; have NB3851_3853 := kn BK3851 hg; have NB3853_3851 := km BK3851 hg; have NB3852_3853 := kn BK3852 hg; have NB3853_3852 := km BK3852 hg; replace BK3851 := kb BK3851 hb; replace BK3852 := kb BK3852 hb; replace HB := kh HB hb; clear hb hbox hg) | ((with_reducible refine gate_dst (N := 5) rfl ?_); refine kx 5 #[.int .u64 0, .int .u64 0] 24 ?_; intro gb3854 hg w32 hbox hb; have BK3854 := Aside0.mk (hbox); have GW3854 := kg HB hg; have GE3854 := kg HB hg; have NB3851_3854 := kn BK3851 hg; have NB3854_3851 := km BK3851 hg; have NB3852_3854 := kn BK3852 hg; have NB3854_3852 := km BK3852 hg; have NB3853_3854 := kn BK3853 hg; have NB3854_3853 := km BK3853 hg; replace BK3851 := kb BK3851 hb; replace BK3852 := kb BK3852 hb; replace BK3853 := kb BK3853 hb; replace HB := kh HB hb; clear hb hbox hg) | ((with_reducible refine gate_dst (N := 6) rfl ?_); refine kx 6 #[.int .u64 0, .int .u64 0, .int .u64 0] 26 ?_; intro gb3855 hg w33 hbox hb; have BK3855 := Aside0.mk (hbox); have GW3855 := kg HB hg; have GE3855 := kg HB hg; have NB3851_3855 := kn BK3851 hg; have NB3855_3851 := km BK3851 hg; have NB3852_3855 := kn BK3852 hg; have NB3855_3852 := km BK3852 hg; have NB3853_3855 := kn BK3853 hg; have NB3855_3853 := km BK3853 hg; have NB3854_3855 := kn BK3854 hg; have NB3855_3854 := km BK3854 hg; replace BK3851 := kb BK3851 hb; replace BK3852 := kb BK3852 hb; replace BK3853 := kb BK3853 hb; replace BK3854 := kb BK3854 hb; replace HB := kh HB hb; clear hb hbox hg) | ((with_reducible refine gate_dst (N := 7) rfl ?_); refine kx 7 #[.int .u64 0, .int .u64 0, .int .u64 0] 26 ?_; intro gb3856 hg w34 hbox hb; have BK3856 := Aside0.mk (hbox); have GW3856 := kg HB hg; have GE3856 := kg HB hg; have NB3851_3856 := kn BK3851 hg; have NB3856_3851 := km BK3851 hg; have NB3852_3856 := kn BK3852 hg; have NB3856_3852 := km BK3852 hg; have NB3853_3856 := kn BK3853 hg; have NB3856_3853 := km BK3853 hg; have NB3854_3856 := kn BK3854 hg; have NB3856_3854 := km BK3854 hg; have NB3855_3856 := kn BK3855 hg; have NB3856_3855 := km BK3855 hg; replace BK3851 := kb BK3851 hb; replace BK3852 := kb BK3852 hb; replace BK3853 := kb BK3853 hb; replace BK3854 := kb BK3854 hb; replace BK3855 := kb BK3855 hb; replace HB := kh HB hb; clear hb hbox hg; have hnb35 := NB3852_3851.out; have hnc35 := NB3851_3852.out; have hnb36 := NB3852_3853.out; have hnc36 := NB3853_3852.out; have hnb37 := NB3852_3854.out; have hnc37 := NB3854_3852.out; have hnb38 := NB3852_3855.out; have hnc38 := NB3855_3852.out; have hnb39 := NB3852_3856.out; have hnc39 := NB3856_3852.out; have hcz40_0 : w34.cell? ⟨gb3852, 0, none⟩ = some (.int .u64 a1_0) := bc BK3852 0; have hcz40_1 : w34.cell? ⟨gb3852, 1, none⟩ = some (.int .u64 a1_1) := bc BK3852 1; have hfz40_0 := blk_frozen BK3852.out 0; have hfz40_1 := blk_frozen BK3852.out 1) | ((with_reducible refine gate_dst (N := 8) rfl ?_); refine kx 8 #[.int .u64 0, .int .u64 0, .int .u64 0] 26 ?_; intro gb3857 hg w41 hbox hb; have BK3857 := Aside0.mk (hbox); have GW3857 := kg HB hg; have GE3857 := kg HB hg; have NB3851_3857 := kn BK3851 hg; have NB3857_3851 := km BK3851 hg; have NB3852_3857 := kn BK3852 hg; have NB3857_3852 := km BK3852 hg; have NB3853_3857 := kn BK3853 hg; have NB3857_3853 := km BK3853 hg; have NB3854_3857 := kn BK3854 hg; have NB3857_3854 := km BK3854 hg; have NB3855_3857 := kn BK3855 hg; have NB3857_3855 := km BK3855 hg; have NB3856_3857 := kn BK3856 hg; have NB3857_3856 := km BK3856 hg; replace BK3851 := kb BK3851 hb; replace BK3852 := kb BK3852 hb; replace BK3853 := kb BK3853 hb; replace BK3854 := kb BK3854 hb; replace BK3855 := kb BK3855 hb; replace BK3856 := kb BK3856 hb; replace HB := kh HB hb; clear hb hbox hg; have hnb42 := NB3857_3851.out; have hnc42 := NB3851_3857.out; have hnb43 := NB3857_3852.out; have hnc43 := NB3852_3857.out; have hnb44 := NB3857_3853.out; have hnc44 := NB3853_3857.out; have hnb45 := NB3857_3854.out; have hnc45 := NB3854_3857.out; have hnb46 := NB3857_3855.out; have hnc46 := NB3855_3857.out; have hnb47 := NB3857_3856.out; have hnc47 := NB3856_3857.out; have ⟨hcz48_0, hcz48_1, hcz48_2, hfz48_0, hfz48_1, hfz48_2⟩ := kz3f BK3857; have hnb49 := NB3851_3853.out; have hnc49 := NB3853_3851.out; have hnb50 := NB3851_3854.out; have hnc50 := NB3854_3851.out; have hnb51 := NB3851_3855.out; have hnc51 := NB3855_3851.out; have hnb52 := NB3851_3856.out; have hnc52 := NB3856_3851.out; have ⟨hcz53_0, hcz53_1, hcz53_2, hfz53_0, hfz53_1, hfz53_2⟩ := kz3f BK3851) | ((with_reducible refine gate_callee (f := 40) rfl ?_); refine kc (some 23) Try.func40 #[.agg #[.int .u64 a0_0, .int .u64 a0_1, .int .u64 a0_2]] (wide_U192_Len.calls k a0_0 a0_1 a0_2 t3858 _ A28.out) ?_; intro w54 hb; replace BK3851 := kb BK3851 hb; replace BK3852 := kb BK3852 hb; replace BK3853 := kb BK3853 hb; replace BK3854 := kb BK3854 hb; replace BK3855 := kb BK3855 hb; replace BK3856 := kb BK3856 hb; replace BK3857 := kb (o' := .cells #[.int .u64 0, .int .u64 a1_0, .int .u64 a1_1] 26 (0, 0)) BK3857 hb; replace HB := kh HB hb; (try clear hb)))
    go_loopg [9] k (fun kq v9 w' => ∃ (x9_1 : Int) (x3856000_1 : Int) (x3856001_1 : Int) (x3856002_1 : Int) (x3857000_1 : Int) (x3857001_1 : Int) (x3857002_1 : Int), v9 = .int .i64 x9_1 ∧ Aside0 (wide_U192_Div.l0 kq x9_1 a0_0 a0_1 a0_2 x3856000_1 x3856001_1 x3856002_1 x3857000_1 x3857001_1 x3857002_1 0 a1_0 a1_1 = some (r1, r2, r3, r4, r5)) ∧ Aside0 (kq ≤ k) ∧ Aside0 (w'.heap[gb3851]? = some (.cells #[.int .u64 a0_0, .int .u64 a0_1, .int .u64 a0_2] 26 (0, 0))) ∧ Aside0 (w'.heap[gb3852]? = some (.cells #[.int .u64 a1_0, .int .u64 a1_1] 24 (0, 0))) ∧ Aside0 (w'.heap[gb3853]? = some (.cells #[.int .u64 0, .int .u64 0, .int .u64 0] 26 (0, 0))) ∧ Aside0 (w'.heap[gb3854]? = some (.cells #[.int .u64 0, .int .u64 0] 24 (0, 0))) ∧ Aside0 (w'.heap[gb3855]? = some (.cells #[.int .u64 x3856000_1, .int .u64 x3856001_1, .int .u64 x3856002_1] 26 (0, 0))) ∧ Aside0 (w'.heap[gb3856]? = some (.cells #[.int .u64 x3857000_1, .int .u64 x3857001_1, .int .u64 x3857002_1] 26 (0, 0))) ∧ Aside0 (w'.heap[gb3857]? = some (.cells #[.int .u64 0, .int .u64 a1_0, .int .u64 a1_1] 26 (0, 0))) ∧ Aside0 (Below w.heap.size w w'))
    case atStart => exact ⟨(wrap64 (t3858 - 1)), (0), (0), (0), (0), (0), (0), (by first | rfl | (simp; done) | (simp [*]; done)), H', ⟨Nat.le_refl _⟩, ⟨pk BK3851⟩, ⟨pk BK3852⟩, ⟨pk BK3853⟩, ⟨pk BK3854⟩, ⟨pk BK3855⟩, ⟨pk BK3856⟩, ⟨pk BK3857⟩, ⟨pl HB⟩⟩
    case round =>
      clear H'
      try clear c1
      try clear c2
      try clear p2
      try clear c3
      try clear c3b0
      try clear c3b1
      try clear c3b2
      try clear c4
      try clear c5
      try clear p6
      try clear c10
      try clear c11
      try clear c12
      try clear c13
      try clear c14
      try clear c16
      try clear c17
      try clear c18
      try clear c19
      try clear c21
      try clear c22
      try clear c23
      try clear c25
      try clear c26
      try clear c35
      try clear c36
      try clear c37
      try clear c38
      try clear c39
      try clear c40
      try clear c42
      try clear c43
      try clear c44
      try clear c45
      try clear c46
      try clear c47
      try clear c49
      try clear c50
      try clear c51
      try clear c52
      try clear hcz15_0
      try clear hcz15_1
      try clear hcz20_0
      try clear hcz20_1
      try clear hcz20_2
      try clear hcz24_0
      try clear hcz24_1
      try clear hcz24_2
      try clear hcz27_0
      try clear hcz27_1
      try clear hcz40_0
      try clear hcz40_1
      try clear hcz48_0
      try clear hcz48_1
      try clear hcz48_2
      try clear hcz53_0
      try clear hcz53_1
      try clear hcz53_2
      try clear hfz15_0
      try clear hfz15_1
      try clear hfz20_0
      try clear hfz20_1
      try clear hfz20_2
      try clear hfz24_0
      try clear hfz24_1
      try clear hfz24_2
      try clear hfz27_0
      try clear hfz27_1
      try clear hfz40_0
      try clear hfz40_1
      try clear hfz48_0
      try clear hfz48_1
      try clear hfz48_2
      try clear hfz53_0
      try clear hfz53_1
      try clear hfz53_2
      obtain ⟨x9_1, x3856000_1, x3856001_1, x3856002_1, x3857000_1, x3857001_1, x3857002_1, rfl, HA, HK1, BK3851, BK3852, BK3853, BK3854, BK3855, BK3856, BK3857, HB⟩ := hrel
      cases gk with
      | zero => exact absurd HA.out (by simp [wide_U192_Div.l0])
      | succ k1 =>
        have H := HA.out
        clear HA
        simp only [wide_U192_Div.l0] at H
        by_cases c55 : x9_1 ≥ 0
        · rw [if_pos c55] at H
          have c55b0 : decide (0 ≤ x9_1) = true := decide_eq_true c55
          clear c55
          obtain ⟨⟨t3859, t3860, t3861, t3862⟩, A560, H⟩ := Option.bind_eq_some_iff.mp H
          have A56 := Aside0.mk A560
          clear A560
          (try dsimp only at H)
          obtain ⟨⟨t3864, t3865, t3866⟩, A570, H⟩ := Option.bind_eq_some_iff.mp H
          have A57 := Aside0.mk A570
          clear A570
          (try dsimp only at H)
          obtain ⟨⟨t3867, t3868, t3869⟩, A580, H⟩ := Option.bind_eq_some_iff.mp H
          have A58 := Aside0.mk A580
          clear A580
          (try dsimp only at H)
          obtain ⟨t3870, A590, H⟩ := Option.bind_eq_some_iff.mp H
          have A59 := Aside0.mk A590
          clear A590
          (try dsimp only at H)
          by_cases c60 : t3870 ≥ 0
          · rw [if_pos c60] at H
            have c60b0 : decide (0 ≤ t3870) = true := decide_eq_true c60
            clear c60
            obtain ⟨⟨t3871, t3872, t3873, t3874⟩, A610, H⟩ := Option.bind_eq_some_iff.mp H
            have A61 := Aside0.mk A610
            clear A610
            (try dsimp only at H)
            have H' := Aside0.mk H
            clear H
            have hnb62 := NB3851_3852.out
            have hnc62 := NB3852_3851.out
            have hnb63 := NB3851_3853.out
            have hnc63 := NB3853_3851.out
            have hnb64 := NB3851_3854.out
            have hnc64 := NB3854_3851.out
            have hnb65 := NB3851_3855.out
            have hnc65 := NB3855_3851.out
            have hnb66 := NB3851_3856.out
            have hnc66 := NB3856_3851.out
            have hnb67 := NB3851_3857.out
            have hnc67 := NB3857_3851.out
            have hcz68_0 : wr.cell? ⟨gb3851, 0, none⟩ = some (.int .u64 a0_0) := bc BK3851 0
            have hcz68_1 : wr.cell? ⟨gb3851, 1, none⟩ = some (.int .u64 a0_1) := bc BK3851 1
            have hcz68_2 : wr.cell? ⟨gb3851, 2, none⟩ = some (.int .u64 a0_2) := bc BK3851 2
            have hfz68_0 := blk_frozen BK3851.out 0
            have hfz68_1 := blk_frozen BK3851.out 1
            have hfz68_2 := blk_frozen BK3851.out 2
            go_wp2_with (first | ((with_reducible refine gate_callee (f := 41) rfl ?_); refine kc (some 32) Try.func41 #[.agg #[.int .u64 a0_0, .int .u64 a0_1, .int .u64 a0_2], .int .i64 x9_1] (wide_U192_Shr.calls k1 a0_0 a0_1 a0_2 x9_1 t3859 t3860 t3861 t3862 _ A56.out) ?_; intro w69 hb; replace BK3851 := kb BK3851 hb; replace BK3852 := kb BK3852 hb; replace BK3853 := kb BK3853 hb; replace BK3854 := kb BK3854 hb; replace BK3855 := kb BK3855 hb; replace BK3856 := kb BK3856 hb; replace BK3857 := kb BK3857 hb; replace HB := kh HB hb; (try clear hb)) | ((with_reducible refine gate_dst (N := 10) rfl ?_); refine kx 10 #[.int .u64 0, .int .u64 0, .int .u64 0] 26 ?_; intro gb3863 hg w70 hbox hb; have BK3863 := Aside0.mk (hbox); have GW3863 := kg HB hg; have GE3863 := kg HB hg; have NB3851_3863 := kn BK3851 hg; have NB3863_3851 := km BK3851 hg; have NB3852_3863 := kn BK3852 hg; have NB3863_3852 := km BK3852 hg; have NB3853_3863 := kn BK3853 hg; have NB3863_3853 := km BK3853 hg; have NB3854_3863 := kn BK3854 hg; have NB3863_3854 := km BK3854 hg; have NB3855_3863 := kn BK3855 hg; have NB3863_3855 := km BK3855 hg; have NB3856_3863 := kn BK3856 hg; have NB3863_3856 := km BK3856 hg; have NB3857_3863 := kn BK3857 hg; have NB3863_3857 := km BK3857 hg; replace BK3851 := kb BK3851 hb; replace BK3852 := kb BK3852 hb; replace BK3853 := kb BK3853 hb; replace BK3854 := kb BK3854 hb; replace BK3855 := kb BK3855 hb; replace BK3856 := kb BK3856 hb; replace BK3857 := kb BK3857 hb; replace HB := kh HB hb; clear hb hbox hg; have hnb71 := NB3863_3851.out; have hnc71 := NB3851_3863.out; have hnb72 := NB3863_3852.out; have hnc72 := NB3852_3863.out; have hnb73 := NB3863_3853.out; have hnc73 := NB3853_3863.out; have hnb74 := NB3863_3854.out; have hnc74 := NB3854_3863.out; have hnb75 := NB3863_3855.out; have hnc75 := NB3855_3863.out; have hnb76 := NB3863_3856.out; have hnc76 := NB3856_3863.out; have hnb77 := NB3863_3857.out; have hnc77 := NB3857_3863.out; have ⟨hcz78_0, hcz78_1, hcz78_2, hfz78_0, hfz78_1, hfz78_2⟩ := kz3f BK3863; have hnb79 := NB3856_3852.out; have hnc79 := NB3852_3856.out; have hnb80 := NB3856_3853.out; have hnc80 := NB3853_3856.out; have hnb81 := NB3856_3854.out; have hnc81 := NB3854_3856.out; have hnb82 := NB3856_3855.out; have hnc82 := NB3855_3856.out; have hnb83 := NB3856_3857.out; have hnc83 := NB3857_3856.out; have ⟨hcz84_0, hcz84_1, hcz84_2, hfz84_0, hfz84_1, hfz84_2⟩ := kz3f BK3856) | ((with_reducible refine gate_callee (f := 44) rfl ?_); refine kc (some 36) Try.func44 #[.agg #[.int .u64 x3857000_1, .int .u64 x3857001_1, .int .u64 x3857002_1], .int .i64 1] (wide_U192_Shl.calls k1 x3857000_1 x3857001_1 x3857002_1 1 t3864 t3865 t3866 _ A57.out) ?_; intro w85 hb; replace BK3851 := kb BK3851 hb; replace BK3852 := kb BK3852 hb; replace BK3853 := kb BK3853 hb; replace BK3854 := kb BK3854 hb; replace BK3855 := kb BK3855 hb; replace BK3856 := kb BK3856 hb; replace BK3857 := kb BK3857 hb; replace BK3863 := kb (o' := .cells #[.int .u64 t3859, .int .u64 t3860, .int .u64 t3861] 26 (0, 0)) BK3863 hb; replace HB := kh HB hb; (try clear hb); have ⟨hcz86_0, hcz86_1, hcz86_2, hfz86_0, hfz86_1, hfz86_2⟩ := kz3f BK3856; have ⟨hcz87_0, hcz87_1, hcz87_2, hfz87_0, hfz87_1, hfz87_2⟩ := kz3f BK3863; have hnb88 := NB3855_3852.out; have hnc88 := NB3852_3855.out; have hnb89 := NB3855_3853.out; have hnc89 := NB3853_3855.out; have hnb90 := NB3855_3854.out; have hnc90 := NB3854_3855.out; have hnb91 := NB3855_3857.out; have hnc91 := NB3857_3855.out; have ⟨hcz92_0, hcz92_1, hcz92_2, hfz92_0, hfz92_1, hfz92_2⟩ := kz3f BK3855) | ((with_reducible refine gate_callee (f := 44) rfl ?_); refine kc (some 45) Try.func44 #[.agg #[.int .u64 x3856000_1, .int .u64 x3856001_1, .int .u64 x3856002_1], .int .i64 1] (wide_U192_Shl.calls k1 x3856000_1 x3856001_1 x3856002_1 1 t3867 t3868 t3869 _ A58.out) ?_; intro w93 hb; replace BK3851 := kb BK3851 hb; replace BK3852 := kb BK3852 hb; replace BK3853 := kb BK3853 hb; replace BK3854 := kb BK3854 hb; replace BK3855 := kb BK3855 hb; replace BK3856 := kb (o' := .cells #[.int .u64 t3864, .int .u64 t3865, .int .u64 (Go.bits .or .u64 t3866 (Go.bits .and .u64 t3861 1))] 26 (0, 0)) BK3856 hb; replace BK3857 := kb BK3857 hb; replace BK3863 := kb BK3863 hb; replace HB := kh HB hb; (try clear hb); have ⟨hcz94_0, hcz94_1, hcz94_2, hfz94_0, hfz94_1, hfz94_2⟩ := kz3f BK3855; have ⟨hcz95_0, hcz95_1, hcz95_2, hfz95_0, hfz95_1, hfz95_2⟩ := kz3f BK3856; have hnb96 := NB3857_3852.out; have hnc96 := NB3852_3857.out; have hnb97 := NB3857_3853.out; have hnc97 := NB3853_3857.out; have hnb98 := NB3857_3854.out; have hnc98 := NB3854_3857.out; have ⟨hcz99_0, hcz99_1, hcz99_2, hfz99_0, hfz99_1, hfz99_2⟩ := kz3f BK3857) | ((with_reducible refine gate_callee (f := 39) rfl ?_); refine kc (some 48) Try.func39 #[.agg #[.int .u64 t3864, .int .u64 t3865, .int .u64 (Go.bits .or .u64 t3866 (Go.bits .and .u64 t3861 1))], .agg #[.int .u64 0, .int .u64 a1_0, .int .u64 a1_1]] (wide_U192_Cmp.calls k1 t3864 t3865 (Go.bits .or .u64 t3866 (Go.bits .and .u64 t3861 1)) 0 a1_0 a1_1 t3870 _ A59.out) ?_; intro w100 hb; replace BK3851 := kb BK3851 hb; replace BK3852 := kb BK3852 hb; replace BK3853 := kb BK3853 hb; replace BK3854 := kb BK3854 hb; replace BK3855 := kb (o' := .cells #[.int .u64 t3867, .int .u64 t3868, .int .u64 t3869] 26 (0, 0)) BK3855 hb; replace BK3856 := kb BK3856 hb; replace BK3857 := kb BK3857 hb; replace BK3863 := kb BK3863 hb; replace HB := kh HB hb; (try clear hb); have ⟨hcz101_0, hcz101_1, hcz101_2, hfz101_0, hfz101_1, hfz101_2⟩ := kz3f BK3856; have ⟨hcz102_0, hcz102_1, hcz102_2, hfz102_0, hfz102_1, hfz102_2⟩ := kz3f BK3857) | ((with_reducible refine gate_callee (f := 37) rfl ?_); refine kc (some 53) Try.func37 #[.agg #[.int .u64 t3864, .int .u64 t3865, .int .u64 (Go.bits .or .u64 t3866 (Go.bits .and .u64 t3861 1))], .agg #[.int .u64 0, .int .u64 a1_0, .int .u64 a1_1]] (wide_U192_Sub.calls t3864 t3865 (Go.bits .or .u64 t3866 (Go.bits .and .u64 t3861 1)) 0 a1_0 a1_1 t3871 t3872 t3873 t3874 _ A61.out) ?_; intro w103 hb; replace BK3851 := kb BK3851 hb; replace BK3852 := kb BK3852 hb; replace BK3853 := kb BK3853 hb; replace BK3854 := kb BK3854 hb; replace BK3855 := kb BK3855 hb; replace BK3856 := kb BK3856 hb; replace BK3857 := kb BK3857 hb; replace BK3863 := kb BK3863 hb; replace HB := kh HB hb; (try clear hb); have ⟨hcz104_0, hcz104_1, hcz104_2, hfz104_0, hfz104_1, hfz104_2⟩ := kz3f BK3856; have ⟨hcz105_0, hcz105_1, hcz105_2, hfz105_0, hfz105_1, hfz105_2⟩ := kz3f BK3855))
            go_roundg k1
            case measure => have := HK1.out; omega
            case rel => exact ⟨(wrap64 (x9_1 - 1)), (t3867), (t3868), (Go.bits .or .u64 t3869 1), (t3871), (t3872), (t3873), (by first | rfl | (simp; done) | (simp [*]; done)), H', ⟨by have := HK1.out; omega⟩, ⟨pk BK3851⟩, ⟨pk BK3852⟩, ⟨pk BK3853⟩, ⟨pk BK3854⟩, ⟨pK BK3855⟩, ⟨pK BK3856⟩, ⟨pk BK3857⟩, ⟨pl HB⟩⟩
          · rw [if_neg c60] at H
            have c60b0 : decide (0 ≤ t3870) = false := decide_eq_false c60
            clear c60
            have H' := Aside0.mk H
            clear H
            have hnb106 := NB3851_3852.out
            have hnc106 := NB3852_3851.out
            have hnb107 := NB3851_3853.out
            have hnc107 := NB3853_3851.out
            have hnb108 := NB3851_3854.out
            have hnc108 := NB3854_3851.out
            have hnb109 := NB3851_3855.out
            have hnc109 := NB3855_3851.out
            have hnb110 := NB3851_3856.out
            have hnc110 := NB3856_3851.out
            have hnb111 := NB3851_3857.out
            have hnc111 := NB3857_3851.out
            have hcz112_0 : wr.cell? ⟨gb3851, 0, none⟩ = some (.int .u64 a0_0) := bc BK3851 0
            have hcz112_1 : wr.cell? ⟨gb3851, 1, none⟩ = some (.int .u64 a0_1) := bc BK3851 1
            have hcz112_2 : wr.cell? ⟨gb3851, 2, none⟩ = some (.int .u64 a0_2) := bc BK3851 2
            have hfz112_0 := blk_frozen BK3851.out 0
            have hfz112_1 := blk_frozen BK3851.out 1
            have hfz112_2 := blk_frozen BK3851.out 2
            go_wp2_with (first | ((with_reducible refine gate_callee (f := 41) rfl ?_); refine kc (some 32) Try.func41 #[.agg #[.int .u64 a0_0, .int .u64 a0_1, .int .u64 a0_2], .int .i64 x9_1] (wide_U192_Shr.calls k1 a0_0 a0_1 a0_2 x9_1 t3859 t3860 t3861 t3862 _ A56.out) ?_; intro w113 hb; replace BK3851 := kb BK3851 hb; replace BK3852 := kb BK3852 hb; replace BK3853 := kb BK3853 hb; replace BK3854 := kb BK3854 hb; replace BK3855 := kb BK3855 hb; replace BK3856 := kb BK3856 hb; replace BK3857 := kb BK3857 hb; replace HB := kh HB hb; (try clear hb)) | ((with_reducible refine gate_dst (N := 10) rfl ?_); refine kx 10 #[.int .u64 0, .int .u64 0, .int .u64 0] 26 ?_; intro gb3863 hg w114 hbox hb; have BK3863 := Aside0.mk (hbox); have GW3863 := kg HB hg; have GE3863 := kg HB hg; have NB3851_3863 := kn BK3851 hg; have NB3863_3851 := km BK3851 hg; have NB3852_3863 := kn BK3852 hg; have NB3863_3852 := km BK3852 hg; have NB3853_3863 := kn BK3853 hg; have NB3863_3853 := km BK3853 hg; have NB3854_3863 := kn BK3854 hg; have NB3863_3854 := km BK3854 hg; have NB3855_3863 := kn BK3855 hg; have NB3863_3855 := km BK3855 hg; have NB3856_3863 := kn BK3856 hg; have NB3863_3856 := km BK3856 hg; have NB3857_3863 := kn BK3857 hg; have NB3863_3857 := km BK3857 hg; replace BK3851 := kb BK3851 hb; replace BK3852 := kb BK3852 hb; replace BK3853 := kb BK3853 hb; replace BK3854 := kb BK3854 hb; replace BK3855 := kb BK3855 hb; replace BK3856 := kb BK3856 hb; replace BK3857 := kb BK3857 hb; replace HB := kh HB hb; clear hb hbox hg; have hnb115 := NB3863_3851.out; have hnc115 := NB3851_3863.out; have hnb116 := NB3863_3852.out; have hnc116 := NB3852_3863.out; have hnb117 := NB3863_3853.out; have hnc117 := NB3853_3863.out; have hnb118 := NB3863_3854.out; have hnc118 := NB3854_3863.out; have hnb119 := NB3863_3855.out; have hnc119 := NB3855_3863.out; have hnb120 := NB3863_3856.out; have hnc120 := NB3856_3863.out; have hnb121 := NB3863_3857.out; have hnc121 := NB3857_3863.out; have ⟨hcz122_0, hcz122_1, hcz122_2, hfz122_0, hfz122_1, hfz122_2⟩ := kz3f BK3863; have hnb123 := NB3856_3852.out; have hnc123 := NB3852_3856.out; have hnb124 := NB3856_3853.out; have hnc124 := NB3853_3856.out; have hnb125 := NB3856_3854.out; have hnc125 := NB3854_3856.out; have hnb126 := NB3856_3855.out; have hnc126 := NB3855_3856.out; have hnb127 := NB3856_3857.out; have hnc127 := NB3857_3856.out; have ⟨hcz128_0, hcz128_1, hcz128_2, hfz128_0, hfz128_1, hfz128_2⟩ := kz3f BK3856) | ((with_reducible refine gate_callee (f := 44) rfl ?_); refine kc (some 36) Try.func44 #[.agg #[.int .u64 x3857000_1, .int .u64 x3857001_1, .int .u64 x3857002_1], .int .i64 1] (wide_U192_Shl.calls k1 x3857000_1 x3857001_1 x3857002_1 1 t3864 t3865 t3866 _ A57.out) ?_; intro w129 hb; replace BK3851 := kb BK3851 hb; replace BK3852 := kb BK3852 hb; replace BK3853 := kb BK3853 hb; replace BK3854 := kb BK3854 hb; replace BK3855 := kb BK3855 hb; replace BK3856 := kb BK3856 hb; replace BK3857 := kb BK3857 hb; replace BK3863 := kb (o' := .cells #[.int .u64 t3859, .int .u64 t3860, .int .u64 t3861] 26 (0, 0)) BK3863 hb; replace HB := kh HB hb; (try clear hb); have ⟨hcz130_0, hcz130_1, hcz130_2, hfz130_0, hfz130_1, hfz130_2⟩ := kz3f BK3856; have ⟨hcz131_0, hcz131_1, hcz131_2, hfz131_0, hfz131_1, hfz131_2⟩ := kz3f BK3863; have hnb132 := NB3855_3852.out; have hnc132 := NB3852_3855.out; have hnb133 := NB3855_3853.out; have hnc133 := NB3853_3855.out; have hnb134 := NB3855_3854.out; have hnc134 := NB3854_3855.out; have hnb135 := NB3855_3857.out; have hnc135 := NB3857_3855.out; have ⟨hcz136_0, hcz136_1, hcz136_2, hfz136_0, hfz136_1, hfz136_2⟩ := kz3f BK3855) | ((with_reducible refine gate_callee (f := 44) rfl ?_); refine kc (some 45) Try.func44 #[.agg #[.int .u64 x3856000_1, .int .u64 x3856001_1, .int .u64 x3856002_1], .int .i64 1] (wide_U192_Shl.calls k1 x3856000_1 x3856001_1 x3856002_1 1 t3867 t3868 t3869 _ A58.out) ?_; intro w137 hb; replace BK3851 := kb BK3851 hb; replace BK3852 := kb BK3852 hb; replace BK3853 := kb BK3853 hb; replace BK3854 := kb BK3854 hb; replace BK3855 := kb BK3855 hb; replace BK3856 := kb (o' := .cells #[.int .u64 t3864, .int .u64 t3865, .int .u64 (Go.bits .or .u64 t3866 (Go.bits .and .u64 t3861 1))] 26 (0, 0)) BK3856 hb; replace BK3857 := kb BK3857 hb; replace BK3863 := kb BK3863 hb; replace HB := kh HB hb; (try clear hb); have ⟨hcz138_0, hcz138_1, hcz138_2, hfz138_0, hfz138_1, hfz138_2⟩ := kz3f BK3855; have ⟨hcz139_0, hcz139_1, hcz139_2, hfz139_0, hfz139_1, hfz139_2⟩ := kz3f BK3856; have hnb140 := NB3857_3852.out; have hnc140 := NB3852_3857.out; have hnb141 := NB3857_3853.out; have hnc141 := NB3853_3857.out; have hnb142 := NB3857_3854.out; have hnc142 := NB3854_3857.out; have ⟨hcz143_0, hcz143_1, hcz143_2, hfz143_0, hfz143_1, hfz143_2⟩ := kz3f BK3857) | ((with_reducible refine gate_callee (f := 39) rfl ?_); refine kc (some 48) Try.func39 #[.agg #[.int .u64 t3864, .int .u64 t3865, .int .u64 (Go.bits .or .u64 t3866 (Go.bits .and .u64 t3861 1))], .agg #[.int .u64 0, .int .u64 a1_0, .int .u64 a1_1]] (wide_U192_Cmp.calls k1 t3864 t3865 (Go.bits .or .u64 t3866 (Go.bits .and .u64 t3861 1)) 0 a1_0 a1_1 t3870 _ A59.out) ?_; intro w144 hb; replace BK3851 := kb BK3851 hb; replace BK3852 := kb BK3852 hb; replace BK3853 := kb BK3853 hb; replace BK3854 := kb BK3854 hb; replace BK3855 := kb (o' := .cells #[.int .u64 t3867, .int .u64 t3868, .int .u64 t3869] 26 (0, 0)) BK3855 hb; replace BK3856 := kb BK3856 hb; replace BK3857 := kb BK3857 hb; replace BK3863 := kb BK3863 hb; replace HB := kh HB hb; (try clear hb)))
            go_roundg k1
            case measure => have := HK1.out; omega
            case rel => exact ⟨(wrap64 (x9_1 - 1)), (t3867), (t3868), (t3869), (t3864), (t3865), (Go.bits .or .u64 t3866 (Go.bits .and .u64 t3861 1)), (by first | rfl | (simp; done) | (simp [*]; done)), H', ⟨by have := HK1.out; omega⟩, ⟨pk BK3851⟩, ⟨pk BK3852⟩, ⟨pk BK3853⟩, ⟨pk BK3854⟩, ⟨pk BK3855⟩, ⟨pk BK3856⟩, ⟨pk BK3857⟩, ⟨pl HB⟩⟩
        · rw [if_neg c55] at H
          have c55b0 : decide (0 ≤ x9_1) = false := decide_eq_false c55
          clear c55
          simp only [Option.some.injEq, Prod.mk.injEq] at H
          obtain ⟨rfl, rfl, rfl, rfl, rfl⟩ := H
          try go_wp2
          replace BK3851 := Aside0.mk (blk_drew BK3851.out)
          replace BK3852 := Aside0.mk (blk_drew BK3852.out)
          replace BK3853 := Aside0.mk (blk_drew BK3853.out)
          replace BK3854 := Aside0.mk (blk_drew BK3854.out)
          replace BK3855 := Aside0.mk (blk_drew BK3855.out)
          replace BK3856 := Aside0.mk (blk_drew BK3856.out)
          replace BK3857 := Aside0.mk (blk_drew BK3857.out)
          replace HB := Aside0.mk (below_drew1 HB.out)
          refine start_ (n := 8) (S := fun w' => w'.cell? ⟨gb3855, 0, none⟩ = some (.int .u64 x3856000_1) ∧ w'.cell? ⟨gb3855, 1, none⟩ = some (.int .u64 x3856001_1) ∧ w'.cell? ⟨gb3855, 2, none⟩ = some (.int .u64 x3856002_1) ∧ w'.cell? ⟨gb3856, 0, none⟩ = some (.int .u64 x3857000_1) ∧ w'.cell? ⟨gb3856, 1, none⟩ = some (.int .u64 x3857001_1) ∧ w'.cell? ⟨gb3856, 2, none⟩ = some (.int .u64 x3857002_1)) (ds := []) #[false, false, false, false, false, false, false, false] (by kernel_rfl) rfl rfl ⟨bc BK3855 0, bc BK3855 1, bc BK3855 2, bc BK3856 0, bc BK3856 1, bc BK3856 2⟩ (fun hHeld => ?_); refine with_tabW wide_U192_Div.tab16 wide_U192_Div.bits16 (fun HT_ HW_ => ?_)
          generalize wr.drew = w145 at BK3851 BK3852 BK3853 BK3854 BK3855 BK3856 BK3857 HB hHeld ⊢
          refine pur 1 (some 61) #[false, true, false, false, false, false, false, false] (any_of HT_.out (by kernel_rfl)) ?_
          refine pur 3 (some 63) #[false, true, false, true, false, false, false, false] (any_of HT_.out (by kernel_rfl)) ?_
          refine tak 0 (some 60) #[true, true, false, true, false, false, false, false] (take_ofW HT_.out HW_.out (by kernel_rfl)) hHeld ?_
          refine tak 2 (some 62) #[true, true, true, true, false, false, false, false] (take_ofW HT_.out HW_.out (by kernel_rfl)) hHeld ?_
          refine tak 4 (some 64) #[true, true, true, true, true, false, false, false] (take_ofW HT_.out HW_.out (by kernel_rfl)) hHeld ?_
          refine pur 5 (some 65) #[true, true, true, true, true, true, false, false] (any_of HT_.out (by kernel_rfl)) ?_
          refine one_ (i := 6) (N := none) #[true, true, true, true, true, true, true, false] rfl rfl (one_of HT_.out (by kernel_rfl)) (by decide) (fun K hK => ?_)
          have hs146 : w145.cell? ⟨gb3853, 0, none⟩ = some (.int .u64 0) := bc BK3853 0
          have hfs146 := blk_frozen BK3853.out 0
          have hns146_0 := NB3851_3853.out
          have hns146_1 := NB3852_3853.out
          have hns146_3 := NB3854_3853.out
          have hns146_4 := NB3855_3853.out
          have hns146_5 := NB3856_3853.out
          have hns146_6 := NB3857_3853.out
          have hms146_0 := NB3853_3851.out
          have hms146_1 := NB3853_3852.out
          have hms146_3 := NB3853_3854.out
          have hms146_4 := NB3853_3855.out
          have hms146_5 := NB3853_3856.out
          have hms146_6 := NB3853_3857.out
          have hs147 : w145.cell? ⟨gb3853, 1, none⟩ = some (.int .u64 0) := bc BK3853 1
          have hfs147 := blk_frozen BK3853.out 1
          have hs148 : w145.cell? ⟨gb3853, 2, none⟩ = some (.int .u64 0) := bc BK3853 2
          have hfs148 := blk_frozen BK3853.out 2
          refine skip_ (w1 := ?_) (by rfl) rfl ?_ ?_
          rotate_left
          · go_simp
            rfl
          refine hK.out _ _ ⟨cf hHeld.1, cf hHeld.2.1, cf hHeld.2.2.1, cf hHeld.2.2.2.1, cf hHeld.2.2.2.2.1, cf hHeld.2.2.2.2.2⟩ (fun hHeld => ?_)
          clear hK K
          refine one_ (i := 7) (N := none) #[true, true, true, true, true, true, true, true] rfl rfl (one_of HT_.out (by kernel_rfl)) (by decide) (fun K hK => ?_)
          have hs149 : w145.cell? ⟨gb3854, 0, none⟩ = some (.int .u64 0) := bc BK3854 0
          have hfs149 := blk_frozen BK3854.out 0
          have hns149_0 := NB3851_3854.out
          have hns149_1 := NB3852_3854.out
          have hns149_2 := NB3853_3854.out
          have hns149_4 := NB3855_3854.out
          have hns149_5 := NB3856_3854.out
          have hns149_6 := NB3857_3854.out
          have hms149_0 := NB3854_3851.out
          have hms149_1 := NB3854_3852.out
          have hms149_2 := NB3854_3853.out
          have hms149_4 := NB3854_3855.out
          have hms149_5 := NB3854_3856.out
          have hms149_6 := NB3854_3857.out
          have hs150 : w145.cell? ⟨gb3854, 1, none⟩ = some (.int .u64 0) := bc BK3854 1
          have hfs150 := blk_frozen BK3854.out 1
          refine skip_ (w1 := ?_) (by rfl) rfl ?_ ?_
          rotate_left
          · go_simp
            rfl
          refine hK.out _ _ ⟨cf hHeld.1, cf hHeld.2.1, cf hHeld.2.2.1, cf hHeld.2.2.2.1, cf hHeld.2.2.2.2.1, cf hHeld.2.2.2.2.2⟩ (fun hHeld => ?_)
          clear hK K
          refine done_ (done_of HT_.out (by kernel_rfl)) ?_
          try go_wp2
          refine bodyPost_ret (results_cc rfl _ _ gb3853 gb3854 26 24 #[.int .u64 x3856000_1, .int .u64 x3856001_1, .int .u64 x3856002_1] #[.int .u64 x3857001_1, .int .u64 x3857002_1] (0, 0) (0, 0) _ _ rfl (pK BK3853) Try.underlying26 rfl (by kernel_rfl) rfl (pK BK3854) Try.underlying24 rfl (by kernel_rfl)) rfl ?_
          exact ⟨pe, pl HB⟩
/-! ### flyballref01_bit: function 46 -/
def flyballref01_bit.f (l0 : List Bool) (a1 : Int) : Option (Bool) := if a1 ≥ 0 then (if a1 < (l0.length : Int) then (if 0 ≤ a1 then (some (rdOf false l0 a1)) else (none)) else (some false)) else (some false)
set_option maxHeartbeats 8000000 in
set_option maxRecDepth 100000 in
theorem flyballref01_bit.calls (A0 : Option Addr) (c0 : Nat) (l0 : List Bool) (a1 : Int) (r : Bool) (w : World) (hr0 : Kd.C Kd.bool w A0 l0.length l0) (hc0 : l0.length ≤ c0) (h : flyballref01_bit.f l0 a1 = some r) :
    Calls Try.prog 46 #[.slice A0 l0.length c0, .int .i64 a1] w fun e w' => e = .returned (.bool r) ∧ Drawn0 w w' := by
  have HR0 := Aside0.mk hr0
  have HC0 := Aside0.mk hc0
  clear hr0 hc0
  have H := h
  clear h
  unfold flyballref01_bit.f at H
  by_cases c3 : a1 ≥ 0
  · rw [if_pos c3] at H
    have c3b0 : decide (0 ≤ a1) = true := decide_eq_true c3
    clear c3
    by_cases c4 : a1 < (l0.length : Int)
    · rw [if_pos c4] at H
      have c4b0 : decide (a1 < (l0.length : Int)) = true := decide_eq_true c4
      clear c4
      by_cases c5 : 0 ≤ a1
      · rw [if_pos c5] at H
        have c5b0 : decide (0 ≤ a1) = true := decide_eq_true c5
        clear c5
        obtain rfl := Option.some.inj H
        have p4001 : 0 ≤ (a1 : Int) := of_decide_eq_true (by first | (with_reducible assumption) | assumption)
        have q4001 : a1 < (l0.length : Int) := of_decide_eq_true (by first | (with_reducible assumption) | assumption)
        obtain ⟨ad4001, e4001, hx4001_0⟩ := Kd.at_bool HR0.out a1 p4001 q4001
        cases e4001
        replace p4001 := eq_true p4001
        replace q4001 := eq_true q4001
        go_enter Try.func46, Try.ntmps46
        go_wp2
        go_ret
        exact ⟨by first | rfl | (simp; done) | (simp [*]; done), by repeat (first | exact Drawn0.refl _ | apply Drawn0.step)⟩
      · rw [if_neg c5] at H
        exact absurd H (by simp)
    · rw [if_neg c4] at H
      have c4b0 : decide (a1 < (l0.length : Int)) = false := decide_eq_false c4
      clear c4
      obtain rfl := Option.some.inj H
      go_enter Try.func46, Try.ntmps46
      go_wp2
      go_ret
      exact ⟨by first | rfl | (simp; done) | (simp [*]; done), by repeat (first | exact Drawn0.refl _ | apply Drawn0.step)⟩
  · rw [if_neg c3] at H
    have c3b0 : decide (0 ≤ a1) = false := decide_eq_false c3
    clear c3
    obtain rfl := Option.some.inj H
    go_enter Try.func46, Try.ntmps46
    go_wp2
    go_ret
    exact ⟨by first | rfl | (simp; done) | (simp [*]; done), by repeat (first | exact Drawn0.refl _ | apply Drawn0.step)⟩
end Go.Proofs.Ytdchdapllehppaa.PAll
end
