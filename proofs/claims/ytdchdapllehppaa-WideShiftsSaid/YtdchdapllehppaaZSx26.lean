/- Functions of the print, turned to this claim. -/
import Derived.Test.YtdchdapllehppaaZSW
import Derived.Test.YtdchdapllehppaaZSx0
import Derived.Test.YtdchdapllehppaaZSx7
import Derived.Test.YtdchdapllehppaaZSx9
import Derived.Test.YtdchdapllehppaaZSx10
import Derived.Test.YtdchdapllehppaaZSx11
import Derived.Test.YtdchdapllehppaaZSx15
import Derived.Test.YtdchdapllehppaaZSx25
section
namespace Go.Proofs.Ytdchdapllehppaa.PAll
open Go.RowKit Go.Proofs.YtdchdapllehppaaW.PrintWords Go.Proofs.YtdchdapllehppaaW.PrintLast Go.Proofs.YtdchdapllehppaaW.PrintMore
attribute [local go_sem] max2_int min2_int max_two min_two max_three min_three max_four min_four   -- for this text's walks alone
set_option linter.unusedVariables false
set_option linter.unusedSimpArgs false
/-! ### flyballlaw01_WideShifts: function 10 -/
def flyballlaw01_WideShifts.f (k : Nat) (a0_0 : Int) (a0_1 : Int) (a1_0 : Int) (a1_1 : Int) (a1_2 : Int) (a2 : Int) : Option (Bool) := (flyballlaw01_works.f k).bind fun t7753 => (if t7753 = true then ((wide_U128_Shr.f k a0_0 a0_1 a2).bind fun bt7754 => ((wide_U192_Shr.f k a1_0 a1_1 a1_2 a2).bind fun bt7758 => ((flyballlaw01_of.f k a0_0 a0_1).bind fun t7763 => ((flyballlaw01_shr.f k t7763 a2).bind fun bt7766 => ((flyballlaw01_of3.f k a1_0 a1_1 a1_2).bind fun t7770 => ((flyballlaw01_shr.f k t7770 a2).bind fun bt7773 => ((flyballlaw01_is.f k bt7754.1 bt7754.2.1 bt7766.1).bind fun t7777 => ((flyballlaw01_is3.f k bt7758.1 bt7758.2.1 bt7758.2.2.1 bt7773.1).bind fun t7778 => ((wide_U128_Shl.f k a0_0 a0_1 a2).bind fun bt7779 => ((flyballlaw01_of.f k a0_0 a0_1).bind fun t7781 => ((flyballlaw01_shl.f k t7781 a2).bind fun t7784 => ((flyballlaw01_is.f k bt7779.1 bt7779.2 t7784).bind fun t7787 => ((wide_U192_Shl.f k a1_0 a1_1 a1_2 a2).bind fun bt7788 => ((flyballlaw01_of3.f k a1_0 a1_1 a1_2).bind fun t7791 => ((flyballlaw01_shl.f k t7791 a2).bind fun t7794 => ((flyballlaw01_is3.f k bt7788.1 bt7788.2.1 bt7788.2.2 t7794).bind fun t7797 => (if t7777 = true then (if t7778 = true then (if t7787 = true then (if t7797 = true then (if (bt7754.2.2 == bt7766.2) = true then (some (bt7758.2.2.2 == bt7773.2)) else (none)) else (none)) else (none)) else (none)) else (none)))))))))))))))))) else (some false))
theorem flyballlaw01_WideShifts.mono : ∀ a0 a1 a2 a3 a4 a5 k, LeO (flyballlaw01_WideShifts.f k a0 a1 a2 a3 a4 a5) (flyballlaw01_WideShifts.f (k + 1) a0 a1 a2 a3 a4 a5) := by
  intro a0 a1 a2 a3 a4 a5 k
  unfold flyballlaw01_WideShifts.f
  repeat' first
      | (with_reducible exact flyballlaw01_is.mono _ _ _ _)
      | (with_reducible exact flyballlaw01_is3.mono _ _ _ _ _)
      | (with_reducible exact flyballlaw01_of.mono _ _ _)
      | (with_reducible exact flyballlaw01_of3.mono _ _ _ _)
      | (with_reducible exact flyballlaw01_shl.mono _ _ _)
      | (with_reducible exact flyballlaw01_shr.mono _ _ _)
      | (with_reducible exact flyballlaw01_works.mono _)
      | (with_reducible exact wide_U128_Shl.mono _ _ _ _)
      | (with_reducible exact wide_U128_Shr.mono _ _ _ _)
      | (with_reducible exact wide_U192_Shl.mono _ _ _ _ _)
      | (with_reducible exact wide_U192_Shr.mono _ _ _ _ _)
      | (with_reducible exact LeO.refl _)
      | (with_reducible exact LeO.none _)
      | (with_reducible refine LeO.ite ?_ ?_)
      | (with_reducible refine LeO.bind ?_ (fun _ => ?_))
      | exact flyballlaw01_is.mono _ _ _ _
      | exact flyballlaw01_is3.mono _ _ _ _ _
      | exact flyballlaw01_of.mono _ _ _
      | exact flyballlaw01_of3.mono _ _ _ _
      | exact flyballlaw01_shl.mono _ _ _
      | exact flyballlaw01_shr.mono _ _ _
      | exact flyballlaw01_works.mono _
      | exact wide_U128_Shl.mono _ _ _ _
      | exact wide_U128_Shr.mono _ _ _ _
      | exact wide_U192_Shl.mono _ _ _ _ _
      | exact wide_U192_Shr.mono _ _ _ _ _
      | exact LeO.none _
      | refine LeO.ite ?_ ?_
      | refine LeO.bind ?_ (fun _ => ?_)
def flyballlaw01_WideShifts.T10 : Bool × List (List Nat × List Nat) := (true, [([], []), ([], []), ([0, 1], [0, 1]), ([], []), ([3, 2], [3]), ([], []), ([4, 5, 4], [4, 5]), ([2, 6, 6], [2, 6]), ([7, 7, 0, 1, 2, 3, 4, 5, 6, 7], [7])])
def flyballlaw01_WideShifts.B10 : List Nat := [0, 0, 3, 0, 15, 0, 63, 127, 255]
theorem flyballlaw01_WideShifts.tab10 : rtab .any (opsOf Try.f10 10) = flyballlaw01_WideShifts.T10 := by kernel_rfl
theorem flyballlaw01_WideShifts.bits10 : waitsOk flyballlaw01_WideShifts.T10.2 flyballlaw01_WideShifts.B10 = true := by kernel_rfl
def flyballlaw01_WideShifts.T11 : Bool × List (List Nat × List Nat) := (true, [([], []), ([], []), ([0, 1], [0, 1]), ([], []), ([3, 2], [3]), ([], []), ([4, 5, 4], [4, 5]), ([2, 6, 6], [2, 6]), ([7, 7, 0, 1, 2, 3, 4, 5, 6, 7], [7])])
def flyballlaw01_WideShifts.B11 : List Nat := [0, 0, 3, 0, 15, 0, 63, 127, 255]
theorem flyballlaw01_WideShifts.tab11 : rtab .any (opsOf Try.f10 11) = flyballlaw01_WideShifts.T11 := by kernel_rfl
theorem flyballlaw01_WideShifts.bits11 : waitsOk flyballlaw01_WideShifts.T11.2 flyballlaw01_WideShifts.B11 = true := by kernel_rfl
set_option maxHeartbeats 8000000 in
set_option maxRecDepth 100000 in
theorem flyballlaw01_WideShifts.calls (k : Nat) (a0_0 : Int) (a0_1 : Int) (a1_0 : Int) (a1_1 : Int) (a1_2 : Int) (a2 : Int) (r : Bool) (w : World) (h : flyballlaw01_WideShifts.f k a0_0 a0_1 a1_0 a1_1 a1_2 a2 = some r) :
    Calls Try.prog 10 #[.agg #[.int .u64 a0_0, .int .u64 a0_1], .agg #[.int .u64 a1_0, .int .u64 a1_1, .int .u64 a1_2], .int .i64 a2] w fun e w' => e = .returned (.bool r) ∧ Below w.heap.size w w' := by
  have hu24 := Try.underlying24
  have hu26 := Try.underlying26
  have HB := Aside0.mk (Below.refl w.heap.size w)
  have H := h
  clear h
  unfold flyballlaw01_WideShifts.f at H
  obtain ⟨t7753, A40, H⟩ := Option.bind_eq_some_iff.mp H
  have A4 := Aside0.mk A40
  clear A40
  (try dsimp only at H)
  by_cases c5 : t7753 = true
  · subst c5
    rw [if_pos rfl] at H
    obtain ⟨⟨t7754, t7755, t7756⟩, A60, H⟩ := Option.bind_eq_some_iff.mp H
    have A6 := Aside0.mk A60
    clear A60
    (try dsimp only at H)
    obtain ⟨⟨t7758, t7759, t7760, t7761⟩, A70, H⟩ := Option.bind_eq_some_iff.mp H
    have A7 := Aside0.mk A70
    clear A70
    (try dsimp only at H)
    obtain ⟨t7763, A80, H⟩ := Option.bind_eq_some_iff.mp H
    have A8 := Aside0.mk A80
    clear A80
    (try dsimp only at H)
    obtain ⟨⟨t7766, t7769⟩, A90, H⟩ := Option.bind_eq_some_iff.mp H
    have A9 := Aside0.mk A90
    clear A90
    (try dsimp only at H)
    obtain ⟨t7770, A100, H⟩ := Option.bind_eq_some_iff.mp H
    have A10 := Aside0.mk A100
    clear A100
    (try dsimp only at H)
    obtain ⟨⟨t7773, t7776⟩, A110, H⟩ := Option.bind_eq_some_iff.mp H
    have A11 := Aside0.mk A110
    clear A110
    (try dsimp only at H)
    obtain ⟨t7777, A120, H⟩ := Option.bind_eq_some_iff.mp H
    have A12 := Aside0.mk A120
    clear A120
    (try dsimp only at H)
    obtain ⟨t7778, A130, H⟩ := Option.bind_eq_some_iff.mp H
    have A13 := Aside0.mk A130
    clear A130
    (try dsimp only at H)
    obtain ⟨⟨t7779, t7780⟩, A140, H⟩ := Option.bind_eq_some_iff.mp H
    have A14 := Aside0.mk A140
    clear A140
    (try dsimp only at H)
    obtain ⟨t7781, A150, H⟩ := Option.bind_eq_some_iff.mp H
    have A15 := Aside0.mk A150
    clear A150
    (try dsimp only at H)
    obtain ⟨t7784, A160, H⟩ := Option.bind_eq_some_iff.mp H
    have A16 := Aside0.mk A160
    clear A160
    (try dsimp only at H)
    obtain ⟨t7787, A170, H⟩ := Option.bind_eq_some_iff.mp H
    have A17 := Aside0.mk A170
    clear A170
    (try dsimp only at H)
    obtain ⟨⟨t7788, t7789, t7790⟩, A180, H⟩ := Option.bind_eq_some_iff.mp H
    have A18 := Aside0.mk A180
    clear A180
    (try dsimp only at H)
    obtain ⟨t7791, A190, H⟩ := Option.bind_eq_some_iff.mp H
    have A19 := Aside0.mk A190
    clear A190
    (try dsimp only at H)
    obtain ⟨t7794, A200, H⟩ := Option.bind_eq_some_iff.mp H
    have A20 := Aside0.mk A200
    clear A200
    (try dsimp only at H)
    obtain ⟨t7797, A210, H⟩ := Option.bind_eq_some_iff.mp H
    have A21 := Aside0.mk A210
    clear A210
    (try dsimp only at H)
    by_cases c22 : t7777 = true
    · subst c22
      rw [if_pos rfl] at H
      by_cases c23 : t7778 = true
      · subst c23
        rw [if_pos rfl] at H
        by_cases c24 : t7787 = true
        · subst c24
          rw [if_pos rfl] at H
          by_cases c25 : t7797 = true
          · subst c25
            rw [if_pos rfl] at H
            by_cases c26 : (t7756 == t7769) = true
            · rw [if_pos c26] at H
              have c26b0 : (t7756 == t7769) = true := c26
              (try (have c26b1 : decide (t7756 = t7769) = true := by simpa using c26))
              (try (have c26b2 : (t7756 == t7769) = true := by simpa using c26))
              clear c26
              obtain rfl := Option.some.inj H
              go_enter Try.func10, Try.ntmps10
              try go_wp2_with (first | ((with_reducible refine gate_dst (N := 3) rfl ?_); refine kx 3 #[.int .u64 a0_0, .int .u64 a0_1] 24 ?_; intro gb7751 hg w27 hbox hb; have BK7751 := Aside0.mk (hbox); have GW7751 := kg HB hg; have GE7751 := kg HB hg; replace HB := kh HB hb; clear hb hbox hg) | ((with_reducible refine gate_dst (N := 4) rfl ?_); refine kx 4 #[.int .u64 a1_0, .int .u64 a1_1, .int .u64 a1_2] 26 ?_; intro gb7752 hg w28 hbox hb; have BK7752 := Aside0.mk (hbox); have GW7752 := kg HB hg; have GE7752 := kg HB hg; have NB7751_7752 := kn BK7751 hg; have NB7752_7751 := km BK7751 hg; replace BK7751 := kb BK7751 hb; replace HB := kh HB hb; clear hb hbox hg) | ((with_reducible refine gate_callee (f := 11) rfl ?_); refine kc (some 20) Try.func11 #[] (flyballlaw01_works.calls k  true _ A4.out) ?_; intro w29 hb; replace BK7751 := kb BK7751 hb; replace BK7752 := kb BK7752 hb; replace HB := kh HB hb; (try clear hb); have hnb30 := NB7751_7752.out; have hnc30 := NB7752_7751.out; have hcz31_0 : w29.cell? ⟨gb7751, 0, none⟩ = some (.int .u64 a0_0) := bc BK7751 0; have hcz31_1 : w29.cell? ⟨gb7751, 1, none⟩ = some (.int .u64 a0_1) := bc BK7751 1; have hfz31_0 := blk_frozen BK7751.out 0; have hfz31_1 := blk_frozen BK7751.out 1) | ((with_reducible refine gate_callee (f := 26) rfl ?_); refine kc (some 26) Try.func26 #[.agg #[.int .u64 a0_0, .int .u64 a0_1], .int .i64 a2] (wide_U128_Shr.calls k a0_0 a0_1 a2 t7754 t7755 t7756 _ A6.out) ?_; intro w32 hb; replace BK7751 := kb BK7751 hb; replace BK7752 := kb BK7752 hb; replace HB := kh HB hb; (try clear hb)) | ((with_reducible refine gate_dst (N := 8) rfl ?_); refine kx 8 #[.int .u64 0, .int .u64 0] 24 ?_; intro gb7757 hg w33 hbox hb; have BK7757 := Aside0.mk (hbox); have GW7757 := kg HB hg; have GE7757 := kg HB hg; have NB7751_7757 := kn BK7751 hg; have NB7757_7751 := km BK7751 hg; have NB7752_7757 := kn BK7752 hg; have NB7757_7752 := km BK7752 hg; replace BK7751 := kb BK7751 hb; replace BK7752 := kb BK7752 hb; replace HB := kh HB hb; clear hb hbox hg; have hnb34 := NB7757_7751.out; have hnc34 := NB7751_7757.out; have hnb35 := NB7757_7752.out; have hnc35 := NB7752_7757.out; have hcz36_0 : w33.cell? ⟨gb7757, 0, none⟩ = some (.int .u64 0) := bc BK7757 0; have hcz36_1 : w33.cell? ⟨gb7757, 1, none⟩ = some (.int .u64 0) := bc BK7757 1; have hfz36_0 := blk_frozen BK7757.out 0; have hfz36_1 := blk_frozen BK7757.out 1; have ⟨hcz37_0, hcz37_1, hcz37_2, hfz37_0, hfz37_1, hfz37_2⟩ := kz3f BK7752) | ((with_reducible refine gate_callee (f := 41) rfl ?_); refine kc (some 32) Try.func41 #[.agg #[.int .u64 a1_0, .int .u64 a1_1, .int .u64 a1_2], .int .i64 a2] (wide_U192_Shr.calls k a1_0 a1_1 a1_2 a2 t7758 t7759 t7760 t7761 _ A7.out) ?_; intro w38 hb; replace BK7751 := kb BK7751 hb; replace BK7752 := kb BK7752 hb; replace BK7757 := kb (o' := .cells #[.int .u64 t7754, .int .u64 t7755] 24 (0, 0)) BK7757 hb; replace HB := kh HB hb; (try clear hb)) | ((with_reducible refine gate_dst (N := 10) rfl ?_); refine kx 10 #[.int .u64 0, .int .u64 0, .int .u64 0] 26 ?_; intro gb7762 hg w39 hbox hb; have BK7762 := Aside0.mk (hbox); have GW7762 := kg HB hg; have GE7762 := kg HB hg; have NB7751_7762 := kn BK7751 hg; have NB7762_7751 := km BK7751 hg; have NB7752_7762 := kn BK7752 hg; have NB7762_7752 := km BK7752 hg; have NB7757_7762 := kn BK7757 hg; have NB7762_7757 := km BK7757 hg; replace BK7751 := kb BK7751 hb; replace BK7752 := kb BK7752 hb; replace BK7757 := kb BK7757 hb; replace HB := kh HB hb; clear hb hbox hg; have hnb40 := NB7762_7751.out; have hnc40 := NB7751_7762.out; have hnb41 := NB7762_7752.out; have hnc41 := NB7752_7762.out; have hnb42 := NB7762_7757.out; have hnc42 := NB7757_7762.out; have ⟨hcz43_0, hcz43_1, hcz43_2, hfz43_0, hfz43_1, hfz43_2⟩ := kz3f BK7762; have hcz44_0 : w39.cell? ⟨gb7751, 0, none⟩ = some (.int .u64 a0_0) := bc BK7751 0; have hcz44_1 : w39.cell? ⟨gb7751, 1, none⟩ = some (.int .u64 a0_1) := bc BK7751 1; have hfz44_0 := blk_frozen BK7751.out 0; have hfz44_1 := blk_frozen BK7751.out 1) | ((with_reducible refine gate_callee (f := 15) rfl ?_); refine goesL_ (some 37) rfl rfl Try.func15 (by kernel_rfl) rfl #[.agg #[.int .u64 a0_0, .int .u64 a0_1]] rfl pa ?_; (with_reducible refine (flyballlaw01_of.calls k a0_0 a0_1 t7763 _ A8.out).mono ?_); rintro e w45 ⟨v7764, rfl, ho0, hb⟩; refine ⟨_, rfl, ?_⟩; have HO7765 := Aside0.mk (Kd.R_lower ho0 (below_size (pl HB))); replace BK7751 := kb BK7751 hb; replace BK7752 := kb BK7752 hb; replace BK7757 := kb BK7757 hb; replace BK7762 := kb (o' := .cells #[.int .u64 t7758, .int .u64 t7759, .int .u64 t7760] 26 (0, 0)) BK7762 hb; replace HB := kh HB hb; (try clear hb); (try clear ho0); obtain ⟨Ao46, co46, eo46⟩ := Kd.R_slice HO7765.out; subst eo46) | ((with_reducible refine gate_callee (f := 42) rfl ?_); refine goesL_ (some 39) rfl rfl Try.func42 (by kernel_rfl) rfl #[.slice Ao46 t7763.length co46, .int .i64 a2] rfl pa ?_; (with_reducible refine (flyballlaw01_shr.calls k (fun k_ => some k_ = (.slice Ao46 t7763.length co46 : Value).ownBlock) (.slice Ao46 t7763.length co46) t7763 a2 t7766 t7769 w _ ?side1 ?side2 A9.out).mono ?_); (case side1 => repeat (first | (with_reducible first | exact HB.out | apply below_alloc | apply pw_below_drewN | apply below_drew1 | refine below_set ?_ GE7751.out | refine below_set ?_ GE7752.out | refine below_set ?_ GE7757.out | refine below_set ?_ GE7762.out) | exact HB.out)); (case side2 => exact Kd.R_tight rfl HO7765.out); rintro e w47 ⟨v7767, rfl, ho0, hb, hkp⟩; refine ⟨_, rfl, ?_⟩; have n0_ := Aside0.mk (blk_kept (pk BK7751) hkp (fun hs_ => (fun e_ => (Kd.R_ne HO7765.out BK7751.out (by decide)) e_) hs_)); have n1_ := Aside0.mk (blk_kept (pk BK7752) hkp (fun hs_ => (fun e_ => (Kd.R_ne HO7765.out BK7752.out (by decide)) e_) hs_)); have n2_ := Aside0.mk (blk_kept (pk BK7757) hkp (fun hs_ => (fun e_ => (Kd.R_ne HO7765.out BK7757.out (by decide)) e_) hs_)); have n3_ := Aside0.mk (blk_kept (pk BK7762) hkp (fun hs_ => (fun e_ => (Kd.R_ne HO7765.out BK7762.out (by decide)) e_) hs_)); have n4_ := Aside0.mk (Kd.Q_mono (ok' := fun k_ => True) ho0 (fun k_ hk_ => trivial)); have n5_ := Aside0.mk (hb); clear BK7751; clear BK7752; clear BK7757; clear BK7762; clear HB; clear HO7765; have BK7751 := n0_; have BK7752 := n1_; have BK7757 := n2_; have BK7762 := n3_; have HO7768 := n4_; have HB := n5_; clear n0_ n1_ n2_ n3_ n4_ n5_; (try clear hb); (try clear hkp); (try clear ho0); have ⟨hcz48_0, hcz48_1, hcz48_2, hfz48_0, hfz48_1, hfz48_2⟩ := kz3f BK7752) | ((with_reducible refine gate_callee (f := 19) rfl ?_); refine goesL_ (some 44) rfl rfl Try.func19 (by kernel_rfl) rfl #[.agg #[.int .u64 a1_0, .int .u64 a1_1, .int .u64 a1_2]] rfl pa ?_; (with_reducible refine (flyballlaw01_of3.calls k a1_0 a1_1 a1_2 t7770 _ A10.out).mono ?_); rintro e w49 ⟨v7771, rfl, ho0, hb⟩; refine ⟨_, rfl, ?_⟩; have n0_ := Aside0.mk (Kd.Q_elder' (by (with_reducible repeat (first | apply Kd.Q_alloc | apply Kd.Q_drewN | apply Kd.Q_drew)); exact HO7768.out) (Kd.R_base ho0) hb); have n1_ := Aside0.mk (Kd.R_lower (Kd.R_new' ho0 (Kd.Q_lt (by (with_reducible repeat (first | apply Kd.Q_alloc | apply Kd.Q_drewN | apply Kd.Q_drew)); exact HO7768.out))) (below_size (pl HB))); have n2_ := kb BK7751 hb; have n3_ := kb BK7752 hb; have n4_ := kb BK7757 hb; have n5_ := kb BK7762 hb; have n6_ := kh HB hb; clear HO7768; clear BK7751; clear BK7752; clear BK7757; clear BK7762; clear HB; have HO7768 := n0_; have HO7772 := n1_; have BK7751 := n2_; have BK7752 := n3_; have BK7757 := n4_; have BK7762 := n5_; have HB := n6_; clear n0_ n1_ n2_ n3_ n4_ n5_ n6_; (try clear hb); (try clear ho0); obtain ⟨Ao50, co50, eo50⟩ := Kd.R_slice HO7772.out; subst eo50) | ((with_reducible refine gate_callee (f := 42) rfl ?_); refine goesL_ (some 46) rfl rfl Try.func42 (by kernel_rfl) rfl #[.slice Ao50 t7770.length co50, .int .i64 a2] rfl pa ?_; (with_reducible refine (flyballlaw01_shr.calls k (fun k_ => some k_ = (.slice Ao50 t7770.length co50 : Value).ownBlock) (.slice Ao50 t7770.length co50) t7770 a2 t7773 t7776 w _ ?side1 ?side2 A11.out).mono ?_); (case side1 => repeat (first | (with_reducible first | exact HB.out | apply below_alloc | apply pw_below_drewN | apply below_drew1 | refine below_set ?_ GE7751.out | refine below_set ?_ GE7752.out | refine below_set ?_ GE7757.out | refine below_set ?_ GE7762.out) | exact HB.out)); (case side2 => exact Kd.R_tight rfl HO7772.out); rintro e w51 ⟨v7774, rfl, ho0, hb, hkp⟩; refine ⟨_, rfl, ?_⟩; have n0_ := Aside0.mk (blk_kept (pk BK7751) hkp (fun hs_ => (fun e_ => (Kd.R_ne HO7772.out BK7751.out (by decide)) e_) hs_)); have n1_ := Aside0.mk (blk_kept (pk BK7752) hkp (fun hs_ => (fun e_ => (Kd.R_ne HO7772.out BK7752.out (by decide)) e_) hs_)); have n2_ := Aside0.mk (blk_kept (pk BK7757) hkp (fun hs_ => (fun e_ => (Kd.R_ne HO7772.out BK7757.out (by decide)) e_) hs_)); have n3_ := Aside0.mk (blk_kept (pk BK7762) hkp (fun hs_ => (fun e_ => (Kd.R_ne HO7772.out BK7762.out (by decide)) e_) hs_)); have n4_ := Aside0.mk (Kd.Q_mono (ok' := fun k_ => some k_ ≠ (v7774 : Value).ownBlock) (Kd.Q_keptB (HO7768.out) hkp (fun k_ hk_ hs_ => (hk_.2) hs_)) (fun k_ hk_ => fun e_ => Or.elim (ho0.1 k_ e_.symm) (fun hs_ => hk_.2.1 hs_) (fun hn_ => Nat.not_le.2 hk_.2.2 hn_))); have n5_ := Aside0.mk (Kd.Q_mono (ok' := fun k_ => some k_ ≠ (v7767 : Value).ownBlock) ho0 (fun k_ hk_ => Or.elim hk_ (fun hs_ => fun e_ => (((HO7768.out).1 k_ e_.symm).2) hs_) (fun hn_ => (Kd.fresh' (Kd.Q_lt (by (with_reducible repeat (first | apply Kd.Q_alloc | apply Kd.Q_drewN | apply Kd.Q_drew)); exact HO7768.out)) k_ hn_)))); have n6_ := Aside0.mk (hb); clear BK7751; clear BK7752; clear BK7757; clear BK7762; clear HO7768; clear HB; clear HO7772; have BK7751 := n0_; have BK7752 := n1_; have BK7757 := n2_; have BK7762 := n3_; have HO7768 := n4_; have HO7775 := n5_; have HB := n6_; clear n0_ n1_ n2_ n3_ n4_ n5_ n6_; (try clear hb); (try clear hkp); (try clear ho0); have hcz52_0 : w51.cell? ⟨gb7757, 0, none⟩ = some (.int .u64 t7754) := bc BK7757 0; have hcz52_1 : w51.cell? ⟨gb7757, 1, none⟩ = some (.int .u64 t7755) := bc BK7757 1; have hfz52_0 := blk_frozen BK7757.out 0; have hfz52_1 := blk_frozen BK7757.out 1; obtain ⟨Ao53, co53, eo53, _⟩ := Kd.Q_slice HO7768.out; subst eo53) | ((with_reducible refine gate_callee (f := 17) rfl ?_); refine goesL_ (some 51) rfl rfl Try.func17 (by kernel_rfl) rfl #[.agg #[.int .u64 t7754, .int .u64 t7755], .slice Ao53 t7766.length co53] rfl pa ?_; (with_reducible refine (flyballlaw01_is.calls k t7754 t7755 _ _ t7766 true _ ?side1 ?side2 A12.out).mono ?_); (case side1 => repeat (first | exact (Kd.Q_reads' HO7768.out).2.2 | (with_reducible refine Kd.C_alloc ?_ _) | (with_reducible refine Kd.C_drewN ?_ _) | (with_reducible refine Kd.C_drew ?_))); (case side2 => exact (Kd.Q_reads' HO7768.out).2.1); rintro e w54 ⟨rfl, hb⟩; refine ⟨_, rfl, ?_⟩; have n0_ := Aside0.mk (Kd.Q_below (by (with_reducible repeat (first | apply Kd.Q_alloc | apply Kd.Q_drewN | apply Kd.Q_drew)); exact HO7768.out) hb); have n1_ := Aside0.mk (Kd.Q_below (by (with_reducible repeat (first | apply Kd.Q_alloc | apply Kd.Q_drewN | apply Kd.Q_drew)); exact HO7775.out) hb); have n2_ := kb BK7751 hb; have n3_ := kb BK7752 hb; have n4_ := kb BK7757 hb; have n5_ := kb BK7762 hb; have n6_ := kh HB hb; clear HO7768; clear HO7775; clear BK7751; clear BK7752; clear BK7757; clear BK7762; clear HB; have HO7768 := n0_; have HO7775 := n1_; have BK7751 := n2_; have BK7752 := n3_; have BK7757 := n4_; have BK7762 := n5_; have HB := n6_; clear n0_ n1_ n2_ n3_ n4_ n5_ n6_; (try clear hb); have ⟨hcz55_0, hcz55_1, hcz55_2, hfz55_0, hfz55_1, hfz55_2⟩ := kz3f BK7762; obtain ⟨Ao56, co56, eo56, _⟩ := Kd.Q_slice HO7775.out; subst eo56) | ((with_reducible refine gate_callee (f := 20) rfl ?_); refine goesL_ (some 54) rfl rfl Try.func20 (by kernel_rfl) rfl #[.agg #[.int .u64 t7758, .int .u64 t7759, .int .u64 t7760], .slice Ao56 t7773.length co56] rfl pa ?_; (with_reducible refine (flyballlaw01_is3.calls k t7758 t7759 t7760 _ _ t7773 true _ ?side1 ?side2 A13.out).mono ?_); (case side1 => repeat (first | exact (Kd.Q_reads' HO7775.out).2.2 | (with_reducible refine Kd.C_alloc ?_ _) | (with_reducible refine Kd.C_drewN ?_ _) | (with_reducible refine Kd.C_drew ?_))); (case side2 => exact (Kd.Q_reads' HO7775.out).2.1); rintro e w57 ⟨rfl, hb⟩; refine ⟨_, rfl, ?_⟩; have n0_ := Aside0.mk (Kd.Q_below (by (with_reducible repeat (first | apply Kd.Q_alloc | apply Kd.Q_drewN | apply Kd.Q_drew)); exact HO7768.out) hb); have n1_ := Aside0.mk (Kd.Q_below (by (with_reducible repeat (first | apply Kd.Q_alloc | apply Kd.Q_drewN | apply Kd.Q_drew)); exact HO7775.out) hb); have n2_ := kb BK7751 hb; have n3_ := kb BK7752 hb; have n4_ := kb BK7757 hb; have n5_ := kb BK7762 hb; have n6_ := kh HB hb; clear HO7768; clear HO7775; clear BK7751; clear BK7752; clear BK7757; clear BK7762; clear HB; have HO7768 := n0_; have HO7775 := n1_; have BK7751 := n2_; have BK7752 := n3_; have BK7757 := n4_; have BK7762 := n5_; have HB := n6_; clear n0_ n1_ n2_ n3_ n4_ n5_ n6_; (try clear hb)))
              replace HO7768 := Aside0.mk (Kd.Q_drew HO7768.out)
              replace HO7775 := Aside0.mk (Kd.Q_drew HO7775.out)
              replace BK7751 := Aside0.mk (blk_drew BK7751.out)
              replace BK7752 := Aside0.mk (blk_drew BK7752.out)
              replace BK7757 := Aside0.mk (blk_drew BK7757.out)
              replace BK7762 := Aside0.mk (blk_drew BK7762.out)
              replace HB := Aside0.mk (below_drew1 HB.out)
              refine start_ (n := 9) (S := fun w' => w'.cell? ⟨gb7751, 0, none⟩ = some (.int .u64 a0_0) ∧ w'.cell? ⟨gb7751, 1, none⟩ = some (.int .u64 a0_1)) (ds := []) #[false, false, false, false, false, false, false, false, false] (by kernel_rfl) rfl rfl ⟨bc BK7751 0, bc BK7751 1⟩ (fun hHeld => ?_); refine with_tabW flyballlaw01_WideShifts.tab10 flyballlaw01_WideShifts.bits10 (fun HT_ HW_ => ?_)
              generalize w57.drew = w58 at HO7768 HO7775 BK7751 BK7752 BK7757 BK7762 HB hHeld ⊢
              refine pur 1 (some 56) #[false, true, false, false, false, false, false, false, false] (any_of HT_.out (by kernel_rfl)) ?_
              refine pur 5 (some 60) #[false, true, false, false, false, true, false, false, false] (any_of HT_.out (by kernel_rfl)) ?_
              refine tak 0 (some 55) #[true, true, false, false, false, true, false, false, false] (take_ofW HT_.out HW_.out (by kernel_rfl)) hHeld ?_
              refine tak 3 (some 58) #[true, true, false, true, false, true, false, false, false] (take_ofW HT_.out HW_.out (by kernel_rfl)) hHeld ?_
              refine one_ (i := 2) (N := some 57) #[true, true, true, true, false, true, false, false, false] rfl rfl (one_of HT_.out (by kernel_rfl)) (by decide) (fun K hK => ?_)
              refine gc Try.func25 #[.agg #[.int .u64 a0_0, .int .u64 a0_1], .int .i64 a2] (wide_U128_Shl.calls k a0_0 a0_1 a2 t7779 t7780 _ A14.out) ?_
              intro w59 hb
              have n0_ := Aside0.mk (Kd.Q_below (by (with_reducible repeat (first | apply Kd.Q_alloc | apply Kd.Q_drewN | apply Kd.Q_drew)); exact HO7768.out) hb)
              have n1_ := Aside0.mk (Kd.Q_below (by (with_reducible repeat (first | apply Kd.Q_alloc | apply Kd.Q_drewN | apply Kd.Q_drew)); exact HO7775.out) hb)
              have n2_ := kb BK7751 hb
              have n3_ := kb BK7752 hb
              have n4_ := kb BK7757 hb
              have n5_ := kb BK7762 hb
              have n6_ := kh HB hb
              clear HO7768
              clear HO7775
              clear BK7751
              clear BK7752
              clear BK7757
              clear BK7762
              clear HB
              have HO7768 := n0_
              have HO7775 := n1_
              have BK7751 := n2_
              have BK7752 := n3_
              have BK7757 := n4_
              have BK7762 := n5_
              have HB := n6_
              clear n0_ n1_ n2_ n3_ n4_ n5_ n6_
              (try clear hb)
              refine hK.out _ _ ⟨bc BK7751 0, bc BK7751 1⟩ (fun hHeld => ?_)
              clear hK K
              refine nrm (some 57) ?_
              refine one_ (i := 4) (N := some 59) #[true, true, true, true, true, true, false, false, false] rfl rfl (one_of HT_.out (by kernel_rfl)) (by decide) (fun K hK => ?_)
              refine goes_ Try.func15 (by kernel_rfl) rfl #[.agg #[.int .u64 a0_0, .int .u64 a0_1]] (by rfl) rfl rfl pa ?_
              with_reducible refine (flyballlaw01_of.calls k a0_0 a0_1 t7781 _ A15.out).mono ?_
              rintro e w60 ⟨v7782, rfl, ho0, hb⟩
              refine ⟨_, rfl, ?_⟩
              have n0_ := Aside0.mk (Kd.Q_elder' (by (with_reducible repeat (first | apply Kd.Q_alloc | apply Kd.Q_drewN | apply Kd.Q_drew)); exact HO7768.out) (Kd.R_base ho0) hb)
              have n1_ := Aside0.mk (Kd.Q_elder' (by (with_reducible repeat (first | apply Kd.Q_alloc | apply Kd.Q_drewN | apply Kd.Q_drew)); exact HO7775.out) (Kd.R_base ho0) hb)
              have n2_ := Aside0.mk (Kd.R_lower (Kd.R_new' (Kd.R_new' ho0 (Kd.Q_lt (by (with_reducible repeat (first | apply Kd.Q_alloc | apply Kd.Q_drewN | apply Kd.Q_drew)); exact HO7768.out))) (Kd.Q_lt (by (with_reducible repeat (first | apply Kd.Q_alloc | apply Kd.Q_drewN | apply Kd.Q_drew)); exact HO7775.out))) (below_size (pl HB)))
              have n3_ := kb BK7751 hb
              have n4_ := kb BK7752 hb
              have n5_ := kb BK7757 hb
              have n6_ := kb BK7762 hb
              have n7_ := kh HB hb
              clear HO7768
              clear HO7775
              clear BK7751
              clear BK7752
              clear BK7757
              clear BK7762
              clear HB
              have HO7768 := n0_
              have HO7775 := n1_
              have HO7783 := n2_
              have BK7751 := n3_
              have BK7752 := n4_
              have BK7757 := n5_
              have BK7762 := n6_
              have HB := n7_
              clear n0_ n1_ n2_ n3_ n4_ n5_ n6_ n7_
              (try clear hb)
              (try clear ho0)
              obtain ⟨Ao61, co61, eo61⟩ := Kd.R_slice HO7783.out
              (first | subst eo61 | (injection eo61 with f1_ f2_ f3_; have f4_ := f1_.symm; have f5_ := f3_.symm; clear f1_ f2_ f3_; subst f4_; subst f5_))
              refine hK.out _ _ ⟨bc BK7751 0, bc BK7751 1⟩ (fun hHeld => ?_)
              clear hK K
              refine nrm (some 59) ?_
              refine one_ (i := 6) (N := some 61) #[true, true, true, true, true, true, true, false, false] rfl rfl (one_of HT_.out (by kernel_rfl)) (by decide) (fun K hK => ?_)
              refine goes_ Try.func43 (by kernel_rfl) rfl #[.slice Ao61 t7781.length co61, .int .i64 a2] (by rfl) rfl rfl pa ?_
              with_reducible refine (flyballlaw01_shl.calls k _ _ t7781 a2 t7784 _ ?side1 ?side2 A16.out).mono ?_
              (case side1 => repeat (first | exact (Kd.R_reads' HO7783.out).2.2 | (with_reducible refine Kd.C_alloc ?_ _) | (with_reducible refine Kd.C_drewN ?_ _) | (with_reducible refine Kd.C_drew ?_)))
              (case side2 => exact (Kd.R_reads' HO7783.out).2.1)
              rintro e w62 ⟨v7785, rfl, ho0, hb⟩
              refine ⟨_, rfl, ?_⟩
              have n0_ := Aside0.mk (Kd.Q_elder' (by (with_reducible repeat (first | apply Kd.Q_alloc | apply Kd.Q_drewN | apply Kd.Q_drew)); exact HO7768.out) (Kd.R_base ho0) hb)
              have n1_ := Aside0.mk (Kd.Q_elder' (by (with_reducible repeat (first | apply Kd.Q_alloc | apply Kd.Q_drewN | apply Kd.Q_drew)); exact HO7775.out) (Kd.R_base ho0) hb)
              have n2_ := Aside0.mk (Kd.R_elder' (by (with_reducible repeat (first | apply Kd.R_alloc | apply Kd.R_drewN | apply Kd.R_drew)); exact HO7783.out) (Kd.R_base ho0) hb)
              have n3_ := Aside0.mk (Kd.R_lower (Kd.R_new' (Kd.R_new' (Kd.R_new' ho0 (Kd.Q_lt (by (with_reducible repeat (first | apply Kd.Q_alloc | apply Kd.Q_drewN | apply Kd.Q_drew)); exact HO7768.out))) (Kd.Q_lt (by (with_reducible repeat (first | apply Kd.Q_alloc | apply Kd.Q_drewN | apply Kd.Q_drew)); exact HO7775.out))) (Kd.R_lt (by (with_reducible repeat (first | apply Kd.R_alloc | apply Kd.R_drewN | apply Kd.R_drew)); exact HO7783.out))) (below_size (pl HB)))
              have n4_ := kb BK7751 hb
              have n5_ := kb BK7752 hb
              have n6_ := kb BK7757 hb
              have n7_ := kb BK7762 hb
              have n8_ := kh HB hb
              clear HO7768
              clear HO7775
              clear HO7783
              clear BK7751
              clear BK7752
              clear BK7757
              clear BK7762
              clear HB
              have HO7768 := n0_
              have HO7775 := n1_
              have HO7783 := n2_
              have HO7786 := n3_
              have BK7751 := n4_
              have BK7752 := n5_
              have BK7757 := n6_
              have BK7762 := n7_
              have HB := n8_
              clear n0_ n1_ n2_ n3_ n4_ n5_ n6_ n7_ n8_
              (try clear hb)
              (try clear ho0)
              obtain ⟨Ao63, co63, eo63⟩ := Kd.R_slice HO7786.out
              (first | subst eo63 | (injection eo63 with f1_ f2_ f3_; have f4_ := f1_.symm; have f5_ := f3_.symm; clear f1_ f2_ f3_; subst f4_; subst f5_))
              refine hK.out _ _ ⟨bc BK7751 0, bc BK7751 1⟩ (fun hHeld => ?_)
              clear hK K
              refine nrm (some 61) ?_
              refine one_ (i := 7) (N := some 62) #[true, true, true, true, true, true, true, true, false] rfl rfl (one_of HT_.out (by kernel_rfl)) (by decide) (fun K hK => ?_)
              refine goes_ Try.func17 (by kernel_rfl) rfl #[.agg #[.int .u64 t7779, .int .u64 t7780], .slice Ao63 t7784.length co63] (by rfl) rfl rfl pa ?_
              with_reducible refine (flyballlaw01_is.calls k t7779 t7780 _ _ t7784 true _ ?side1 ?side2 A17.out).mono ?_
              (case side1 => repeat (first | exact (Kd.R_reads' HO7786.out).2.2 | (with_reducible refine Kd.C_alloc ?_ _) | (with_reducible refine Kd.C_drewN ?_ _) | (with_reducible refine Kd.C_drew ?_)))
              (case side2 => exact (Kd.R_reads' HO7786.out).2.1)
              rintro e w64 ⟨rfl, hb⟩
              refine ⟨_, rfl, ?_⟩
              have n0_ := Aside0.mk (Kd.Q_below (by (with_reducible repeat (first | apply Kd.Q_alloc | apply Kd.Q_drewN | apply Kd.Q_drew)); exact HO7768.out) hb)
              have n1_ := Aside0.mk (Kd.Q_below (by (with_reducible repeat (first | apply Kd.Q_alloc | apply Kd.Q_drewN | apply Kd.Q_drew)); exact HO7775.out) hb)
              have n2_ := Aside0.mk (Kd.R_below (by (with_reducible repeat (first | apply Kd.R_alloc | apply Kd.R_drewN | apply Kd.R_drew)); exact HO7783.out) hb)
              have n3_ := Aside0.mk (Kd.R_below (by (with_reducible repeat (first | apply Kd.R_alloc | apply Kd.R_drewN | apply Kd.R_drew)); exact HO7786.out) hb)
              have n4_ := kb BK7751 hb
              have n5_ := kb BK7752 hb
              have n6_ := kb BK7757 hb
              have n7_ := kb BK7762 hb
              have n8_ := kh HB hb
              clear HO7768
              clear HO7775
              clear HO7783
              clear HO7786
              clear BK7751
              clear BK7752
              clear BK7757
              clear BK7762
              clear HB
              have HO7768 := n0_
              have HO7775 := n1_
              have HO7783 := n2_
              have HO7786 := n3_
              have BK7751 := n4_
              have BK7752 := n5_
              have BK7757 := n6_
              have BK7762 := n7_
              have HB := n8_
              clear n0_ n1_ n2_ n3_ n4_ n5_ n6_ n7_ n8_
              (try clear hb)
              refine hK.out _ _ ⟨bc BK7751 0, bc BK7751 1⟩ (fun hHeld => ?_)
              clear hK K
              refine nrm (some 62) ?_
              refine pur 8 (some 18) #[true, true, true, true, true, true, true, true, true] (any_of HT_.out (by kernel_rfl)) ?_
              refine done_ (done_of HT_.out (by kernel_rfl)) ?_
              try go_wp2
              replace HO7768 := Aside0.mk (Kd.Q_drew HO7768.out)
              replace HO7775 := Aside0.mk (Kd.Q_drew HO7775.out)
              replace HO7783 := Aside0.mk (Kd.R_drew HO7783.out)
              replace HO7786 := Aside0.mk (Kd.R_drew HO7786.out)
              replace BK7751 := Aside0.mk (blk_drew BK7751.out)
              replace BK7752 := Aside0.mk (blk_drew BK7752.out)
              replace BK7757 := Aside0.mk (blk_drew BK7757.out)
              replace BK7762 := Aside0.mk (blk_drew BK7762.out)
              replace HB := Aside0.mk (below_drew1 HB.out)
              refine start_ (n := 9) (S := fun w' => w'.cell? ⟨gb7752, 0, none⟩ = some (.int .u64 a1_0) ∧ w'.cell? ⟨gb7752, 1, none⟩ = some (.int .u64 a1_1) ∧ w'.cell? ⟨gb7752, 2, none⟩ = some (.int .u64 a1_2)) (ds := []) #[false, false, false, false, false, false, false, false, false] (by kernel_rfl) rfl rfl ⟨bc BK7752 0, bc BK7752 1, bc BK7752 2⟩ (fun hHeld => ?_); refine with_tabW flyballlaw01_WideShifts.tab11 flyballlaw01_WideShifts.bits11 (fun HT_ HW_ => ?_)
              generalize w64.drew = w65 at HO7768 HO7775 HO7783 HO7786 BK7751 BK7752 BK7757 BK7762 HB hHeld ⊢
              refine pur 1 (some 64) #[false, true, false, false, false, false, false, false, false] (any_of HT_.out (by kernel_rfl)) ?_
              refine pur 5 (some 68) #[false, true, false, false, false, true, false, false, false] (any_of HT_.out (by kernel_rfl)) ?_
              refine tak 0 (some 63) #[true, true, false, false, false, true, false, false, false] (take_ofW HT_.out HW_.out (by kernel_rfl)) hHeld ?_
              refine tak 3 (some 66) #[true, true, false, true, false, true, false, false, false] (take_ofW HT_.out HW_.out (by kernel_rfl)) hHeld ?_
              refine one_ (i := 2) (N := some 65) #[true, true, true, true, false, true, false, false, false] rfl rfl (one_of HT_.out (by kernel_rfl)) (by decide) (fun K hK => ?_)
              refine gc Try.func44 #[.agg #[.int .u64 a1_0, .int .u64 a1_1, .int .u64 a1_2], .int .i64 a2] (wide_U192_Shl.calls k a1_0 a1_1 a1_2 a2 t7788 t7789 t7790 _ A18.out) ?_
              intro w66 hb
              have n0_ := Aside0.mk (Kd.Q_below (by (with_reducible repeat (first | apply Kd.Q_alloc | apply Kd.Q_drewN | apply Kd.Q_drew)); exact HO7768.out) hb)
              have n1_ := Aside0.mk (Kd.Q_below (by (with_reducible repeat (first | apply Kd.Q_alloc | apply Kd.Q_drewN | apply Kd.Q_drew)); exact HO7775.out) hb)
              have n2_ := Aside0.mk (Kd.R_below (by (with_reducible repeat (first | apply Kd.R_alloc | apply Kd.R_drewN | apply Kd.R_drew)); exact HO7783.out) hb)
              have n3_ := Aside0.mk (Kd.R_below (by (with_reducible repeat (first | apply Kd.R_alloc | apply Kd.R_drewN | apply Kd.R_drew)); exact HO7786.out) hb)
              have n4_ := kb BK7751 hb
              have n5_ := kb BK7752 hb
              have n6_ := kb BK7757 hb
              have n7_ := kb BK7762 hb
              have n8_ := kh HB hb
              clear HO7768
              clear HO7775
              clear HO7783
              clear HO7786
              clear BK7751
              clear BK7752
              clear BK7757
              clear BK7762
              clear HB
              have HO7768 := n0_
              have HO7775 := n1_
              have HO7783 := n2_
              have HO7786 := n3_
              have BK7751 := n4_
              have BK7752 := n5_
              have BK7757 := n6_
              have BK7762 := n7_
              have HB := n8_
              clear n0_ n1_ n2_ n3_ n4_ n5_ n6_ n7_ n8_
              (try clear hb)
              refine hK.out _ _ ⟨bc BK7752 0, bc BK7752 1, bc BK7752 2⟩ (fun hHeld => ?_)
              clear hK K
              refine nrm (some 65) ?_
              refine one_ (i := 4) (N := some 67) #[true, true, true, true, true, true, false, false, false] rfl rfl (one_of HT_.out (by kernel_rfl)) (by decide) (fun K hK => ?_)
              refine goes_ Try.func19 (by kernel_rfl) rfl #[.agg #[.int .u64 a1_0, .int .u64 a1_1, .int .u64 a1_2]] (by rfl) rfl rfl pa ?_
              with_reducible refine (flyballlaw01_of3.calls k a1_0 a1_1 a1_2 t7791 _ A19.out).mono ?_
              rintro e w67 ⟨v7792, rfl, ho0, hb⟩
              refine ⟨_, rfl, ?_⟩
              have n0_ := Aside0.mk (Kd.Q_elder' (by (with_reducible repeat (first | apply Kd.Q_alloc | apply Kd.Q_drewN | apply Kd.Q_drew)); exact HO7768.out) (Kd.R_base ho0) hb)
              have n1_ := Aside0.mk (Kd.Q_elder' (by (with_reducible repeat (first | apply Kd.Q_alloc | apply Kd.Q_drewN | apply Kd.Q_drew)); exact HO7775.out) (Kd.R_base ho0) hb)
              have n2_ := Aside0.mk (Kd.R_elder' (by (with_reducible repeat (first | apply Kd.R_alloc | apply Kd.R_drewN | apply Kd.R_drew)); exact HO7783.out) (Kd.R_base ho0) hb)
              have n3_ := Aside0.mk (Kd.R_elder' (by (with_reducible repeat (first | apply Kd.R_alloc | apply Kd.R_drewN | apply Kd.R_drew)); exact HO7786.out) (Kd.R_base ho0) hb)
              have n4_ := Aside0.mk (Kd.R_lower (Kd.R_new' (Kd.R_new' (Kd.R_new' (Kd.R_new' ho0 (Kd.Q_lt (by (with_reducible repeat (first | apply Kd.Q_alloc | apply Kd.Q_drewN | apply Kd.Q_drew)); exact HO7768.out))) (Kd.Q_lt (by (with_reducible repeat (first | apply Kd.Q_alloc | apply Kd.Q_drewN | apply Kd.Q_drew)); exact HO7775.out))) (Kd.R_lt (by (with_reducible repeat (first | apply Kd.R_alloc | apply Kd.R_drewN | apply Kd.R_drew)); exact HO7783.out))) (Kd.R_lt (by (with_reducible repeat (first | apply Kd.R_alloc | apply Kd.R_drewN | apply Kd.R_drew)); exact HO7786.out))) (below_size (pl HB)))
              have n5_ := kb BK7751 hb
              have n6_ := kb BK7752 hb
              have n7_ := kb BK7757 hb
              have n8_ := kb BK7762 hb
              have n9_ := kh HB hb
              clear HO7768
              clear HO7775
              clear HO7783
              clear HO7786
              clear BK7751
              clear BK7752
              clear BK7757
              clear BK7762
              clear HB
              have HO7768 := n0_
              have HO7775 := n1_
              have HO7783 := n2_
              have HO7786 := n3_
              have HO7793 := n4_
              have BK7751 := n5_
              have BK7752 := n6_
              have BK7757 := n7_
              have BK7762 := n8_
              have HB := n9_
              clear n0_ n1_ n2_ n3_ n4_ n5_ n6_ n7_ n8_ n9_
              (try clear hb)
              (try clear ho0)
              obtain ⟨Ao68, co68, eo68⟩ := Kd.R_slice HO7793.out
              (first | subst eo68 | (injection eo68 with f1_ f2_ f3_; have f4_ := f1_.symm; have f5_ := f3_.symm; clear f1_ f2_ f3_; subst f4_; subst f5_))
              refine hK.out _ _ ⟨bc BK7752 0, bc BK7752 1, bc BK7752 2⟩ (fun hHeld => ?_)
              clear hK K
              refine nrm (some 67) ?_
              refine one_ (i := 6) (N := some 69) #[true, true, true, true, true, true, true, false, false] rfl rfl (one_of HT_.out (by kernel_rfl)) (by decide) (fun K hK => ?_)
              refine goes_ Try.func43 (by kernel_rfl) rfl #[.slice Ao68 t7791.length co68, .int .i64 a2] (by rfl) rfl rfl pa ?_
              with_reducible refine (flyballlaw01_shl.calls k _ _ t7791 a2 t7794 _ ?side1 ?side2 A20.out).mono ?_
              (case side1 => repeat (first | exact (Kd.R_reads' HO7793.out).2.2 | (with_reducible refine Kd.C_alloc ?_ _) | (with_reducible refine Kd.C_drewN ?_ _) | (with_reducible refine Kd.C_drew ?_)))
              (case side2 => exact (Kd.R_reads' HO7793.out).2.1)
              rintro e w69 ⟨v7795, rfl, ho0, hb⟩
              refine ⟨_, rfl, ?_⟩
              have n0_ := Aside0.mk (Kd.Q_elder' (by (with_reducible repeat (first | apply Kd.Q_alloc | apply Kd.Q_drewN | apply Kd.Q_drew)); exact HO7768.out) (Kd.R_base ho0) hb)
              have n1_ := Aside0.mk (Kd.Q_elder' (by (with_reducible repeat (first | apply Kd.Q_alloc | apply Kd.Q_drewN | apply Kd.Q_drew)); exact HO7775.out) (Kd.R_base ho0) hb)
              have n2_ := Aside0.mk (Kd.R_elder' (by (with_reducible repeat (first | apply Kd.R_alloc | apply Kd.R_drewN | apply Kd.R_drew)); exact HO7783.out) (Kd.R_base ho0) hb)
              have n3_ := Aside0.mk (Kd.R_elder' (by (with_reducible repeat (first | apply Kd.R_alloc | apply Kd.R_drewN | apply Kd.R_drew)); exact HO7786.out) (Kd.R_base ho0) hb)
              have n4_ := Aside0.mk (Kd.R_elder' (by (with_reducible repeat (first | apply Kd.R_alloc | apply Kd.R_drewN | apply Kd.R_drew)); exact HO7793.out) (Kd.R_base ho0) hb)
              have n5_ := Aside0.mk (Kd.R_lower (Kd.R_new' (Kd.R_new' (Kd.R_new' (Kd.R_new' (Kd.R_new' ho0 (Kd.Q_lt (by (with_reducible repeat (first | apply Kd.Q_alloc | apply Kd.Q_drewN | apply Kd.Q_drew)); exact HO7768.out))) (Kd.Q_lt (by (with_reducible repeat (first | apply Kd.Q_alloc | apply Kd.Q_drewN | apply Kd.Q_drew)); exact HO7775.out))) (Kd.R_lt (by (with_reducible repeat (first | apply Kd.R_alloc | apply Kd.R_drewN | apply Kd.R_drew)); exact HO7783.out))) (Kd.R_lt (by (with_reducible repeat (first | apply Kd.R_alloc | apply Kd.R_drewN | apply Kd.R_drew)); exact HO7786.out))) (Kd.R_lt (by (with_reducible repeat (first | apply Kd.R_alloc | apply Kd.R_drewN | apply Kd.R_drew)); exact HO7793.out))) (below_size (pl HB)))
              have n6_ := kb BK7751 hb
              have n7_ := kb BK7752 hb
              have n8_ := kb BK7757 hb
              have n9_ := kb BK7762 hb
              have n10_ := kh HB hb
              clear HO7768
              clear HO7775
              clear HO7783
              clear HO7786
              clear HO7793
              clear BK7751
              clear BK7752
              clear BK7757
              clear BK7762
              clear HB
              have HO7768 := n0_
              have HO7775 := n1_
              have HO7783 := n2_
              have HO7786 := n3_
              have HO7793 := n4_
              have HO7796 := n5_
              have BK7751 := n6_
              have BK7752 := n7_
              have BK7757 := n8_
              have BK7762 := n9_
              have HB := n10_
              clear n0_ n1_ n2_ n3_ n4_ n5_ n6_ n7_ n8_ n9_ n10_
              (try clear hb)
              (try clear ho0)
              obtain ⟨Ao70, co70, eo70⟩ := Kd.R_slice HO7796.out
              (first | subst eo70 | (injection eo70 with f1_ f2_ f3_; have f4_ := f1_.symm; have f5_ := f3_.symm; clear f1_ f2_ f3_; subst f4_; subst f5_))
              refine hK.out _ _ ⟨bc BK7752 0, bc BK7752 1, bc BK7752 2⟩ (fun hHeld => ?_)
              clear hK K
              refine nrm (some 69) ?_
              refine one_ (i := 7) (N := some 70) #[true, true, true, true, true, true, true, true, false] rfl rfl (one_of HT_.out (by kernel_rfl)) (by decide) (fun K hK => ?_)
              refine goes_ Try.func20 (by kernel_rfl) rfl #[.agg #[.int .u64 t7788, .int .u64 t7789, .int .u64 t7790], .slice Ao70 t7794.length co70] (by rfl) rfl rfl pa ?_
              with_reducible refine (flyballlaw01_is3.calls k t7788 t7789 t7790 _ _ t7794 true _ ?side1 ?side2 A21.out).mono ?_
              (case side1 => repeat (first | exact (Kd.R_reads' HO7796.out).2.2 | (with_reducible refine Kd.C_alloc ?_ _) | (with_reducible refine Kd.C_drewN ?_ _) | (with_reducible refine Kd.C_drew ?_)))
              (case side2 => exact (Kd.R_reads' HO7796.out).2.1)
              rintro e w71 ⟨rfl, hb⟩
              refine ⟨_, rfl, ?_⟩
              have n0_ := Aside0.mk (Kd.Q_below (by (with_reducible repeat (first | apply Kd.Q_alloc | apply Kd.Q_drewN | apply Kd.Q_drew)); exact HO7768.out) hb)
              have n1_ := Aside0.mk (Kd.Q_below (by (with_reducible repeat (first | apply Kd.Q_alloc | apply Kd.Q_drewN | apply Kd.Q_drew)); exact HO7775.out) hb)
              have n2_ := Aside0.mk (Kd.R_below (by (with_reducible repeat (first | apply Kd.R_alloc | apply Kd.R_drewN | apply Kd.R_drew)); exact HO7783.out) hb)
              have n3_ := Aside0.mk (Kd.R_below (by (with_reducible repeat (first | apply Kd.R_alloc | apply Kd.R_drewN | apply Kd.R_drew)); exact HO7786.out) hb)
              have n4_ := Aside0.mk (Kd.R_below (by (with_reducible repeat (first | apply Kd.R_alloc | apply Kd.R_drewN | apply Kd.R_drew)); exact HO7793.out) hb)
              have n5_ := Aside0.mk (Kd.R_below (by (with_reducible repeat (first | apply Kd.R_alloc | apply Kd.R_drewN | apply Kd.R_drew)); exact HO7796.out) hb)
              have n6_ := kb BK7751 hb
              have n7_ := kb BK7752 hb
              have n8_ := kb BK7757 hb
              have n9_ := kb BK7762 hb
              have n10_ := kh HB hb
              clear HO7768
              clear HO7775
              clear HO7783
              clear HO7786
              clear HO7793
              clear HO7796
              clear BK7751
              clear BK7752
              clear BK7757
              clear BK7762
              clear HB
              have HO7768 := n0_
              have HO7775 := n1_
              have HO7783 := n2_
              have HO7786 := n3_
              have HO7793 := n4_
              have HO7796 := n5_
              have BK7751 := n6_
              have BK7752 := n7_
              have BK7757 := n8_
              have BK7762 := n9_
              have HB := n10_
              clear n0_ n1_ n2_ n3_ n4_ n5_ n6_ n7_ n8_ n9_ n10_
              (try clear hb)
              refine hK.out _ _ ⟨bc BK7752 0, bc BK7752 1, bc BK7752 2⟩ (fun hHeld => ?_)
              clear hK K
              refine nrm (some 70) ?_
              refine pur 8 (some 19) #[true, true, true, true, true, true, true, true, true] (any_of HT_.out (by kernel_rfl)) ?_
              refine done_ (done_of HT_.out (by kernel_rfl)) ?_
              try go_wp2
              go_ret
              exact ⟨pe, pl HB⟩
            · rw [if_neg c26] at H
              exact absurd H (by simp)
          · replace c25 := Bool.eq_false_iff.mpr c25
            subst c25
            rw [if_neg (show ¬ (false = true) by decide)] at H
            exact absurd H (by simp)
        · replace c24 := Bool.eq_false_iff.mpr c24
          subst c24
          rw [if_neg (show ¬ (false = true) by decide)] at H
          exact absurd H (by simp)
      · replace c23 := Bool.eq_false_iff.mpr c23
        subst c23
        rw [if_neg (show ¬ (false = true) by decide)] at H
        exact absurd H (by simp)
    · replace c22 := Bool.eq_false_iff.mpr c22
      subst c22
      rw [if_neg (show ¬ (false = true) by decide)] at H
      exact absurd H (by simp)
  · replace c5 := Bool.eq_false_iff.mpr c5
    subst c5
    rw [if_neg (show ¬ (false = true) by decide)] at H
    obtain rfl := Option.some.inj H
    go_enter Try.func10, Try.ntmps10
    go_wp2_with (first | ((with_reducible refine gate_dst (N := 3) rfl ?_); refine kx 3 #[.int .u64 a0_0, .int .u64 a0_1] 24 ?_; intro gb7751 hg w72 hbox hb; have BK7751 := Aside0.mk (hbox); have GW7751 := kg HB hg; have GE7751 := kg HB hg; replace HB := kh HB hb; clear hb hbox hg) | ((with_reducible refine gate_dst (N := 4) rfl ?_); refine kx 4 #[.int .u64 a1_0, .int .u64 a1_1, .int .u64 a1_2] 26 ?_; intro gb7752 hg w73 hbox hb; have BK7752 := Aside0.mk (hbox); have GW7752 := kg HB hg; have GE7752 := kg HB hg; have NB7751_7752 := kn BK7751 hg; have NB7752_7751 := km BK7751 hg; replace BK7751 := kb BK7751 hb; replace HB := kh HB hb; clear hb hbox hg) | ((with_reducible refine gate_callee (f := 11) rfl ?_); refine kc (some 20) Try.func11 #[] (flyballlaw01_works.calls k  false _ A4.out) ?_; intro w74 hb; replace BK7751 := kb BK7751 hb; replace BK7752 := kb BK7752 hb; replace HB := kh HB hb; (try clear hb)))
    go_ret
    exact ⟨pe, pl HB⟩
end Go.Proofs.Ytdchdapllehppaa.PAll
end
