/- Functions of the print, turned to this claim. -/
import Derived.Test.YtinmgnlofininaaZHW
import Derived.Test.YtinmgnlofininaaZHx0
section
namespace Go.Proofs.Ytinmgnlofininaa.PAll
open Go.RowKit Go.Proofs.YtinmgnlofininaaW.PrintWords Go.Proofs.YtinmgnlofininaaW.PrintLast Go.Proofs.YtinmgnlofininaaW.PrintMore
attribute [local go_sem] max2_int min2_int max_two min_two max_three min_three max_four min_four   -- for this text's walks alone
set_option linter.unusedVariables false
set_option linter.unusedSimpArgs false
/-! ### flyballref17_Norm: function 39 -/
def flyballref17_Norm.f (a0_0 : Bool) (a0_1 : Int) (a0_2 : Int) : Option (Bool × Int × Int) := if a0_0 = true then (some (true, 0, 0)) else (if a0_1 > a0_2 then (some (true, 0, 0)) else (if a0_1 ≥ 1099511627776 then (some (true, 0, 0)) else (if a0_2 ≤ (-1099511627776) then (some (true, 0, 0)) else (some (false, mx a0_1 (-1099511627776), mn a0_2 1099511627776)))))
set_option maxHeartbeats 8000000 in
set_option maxRecDepth 100000 in
theorem flyballref17_Norm.calls (a0_0 : Bool) (a0_1 : Int) (a0_2 : Int) (r1 : Bool) (r2 : Int) (r3 : Int) (w : World) (h : flyballref17_Norm.f a0_0 a0_1 a0_2 = some (r1, r2, r3)) :
    Calls Try.prog 39 #[.agg #[.bool a0_0, .int .i64 a0_1, .int .i64 a0_2]] w fun e w' => e = .returned (.agg #[.bool r1, .int .i64 r2, .int .i64 r3]) ∧ Below w.heap.size w w' := by
  have hu23 := Try.underlying23
  have HB := Aside0.mk (Below.refl w.heap.size w)
  have H := h
  clear h
  unfold flyballref17_Norm.f at H
  by_cases c2 : a0_0 = true
  · subst c2
    rw [if_pos rfl] at H
    simp only [Option.some.injEq, Prod.mk.injEq] at H
    obtain ⟨rfl, rfl, rfl⟩ := H
    go_enter Try.func39, Try.ntmps39
    go_wp2_with (first | ((with_reducible refine gate_dst (N := 1) rfl ?_); refine kx 1 #[.bool true, .int .i64 a0_1, .int .i64 a0_2] 23 ?_; intro gb5051 hg w3 hbox hb; have BK5051 := Aside0.mk (hbox); have GW5051 := kg HB hg; have GE5051 := kg HB hg; replace HB := kh HB hb; clear hb hbox hg) | ((with_reducible refine gate_dst (N := 2) rfl ?_); refine kx 2 #[.bool false, .int .i64 0, .int .i64 0] 23 ?_; intro gb5052 hg w4 hbox hb; have BK5052 := Aside0.mk (hbox); have GW5052 := kg HB hg; have GE5052 := kg HB hg; have NB5051_5052 := kn BK5051 hg; have NB5052_5051 := km BK5051 hg; replace BK5051 := kb BK5051 hb; replace HB := kh HB hb; clear hb hbox hg; have hnb5 := NB5051_5052.out; have hnc5 := NB5052_5051.out; have ⟨hcz6_0, hcz6_1, hcz6_2, hfz6_0, hfz6_1, hfz6_2⟩ := kz3f BK5051; have ⟨hcz7_0, hcz7_1, hcz7_2, hfz7_0, hfz7_1, hfz7_2⟩ := kz3f BK5052))
    refine bodyPost_ret (results_cell_row rfl _ _ gb5052 23 #[.bool true, .int .i64 0, .int .i64 0] (0, 0) _ rfl (pK BK5052) Try.underlying23 rfl (by kernel_rfl)) rfl ?_
    exact ⟨pe, pl HB⟩
  · replace c2 := Bool.eq_false_iff.mpr c2
    subst c2
    rw [if_neg (show ¬ (false = true) by decide)] at H
    by_cases c8 : a0_1 > a0_2
    · rw [if_pos c8] at H
      have c8b0 : decide (a0_2 < a0_1) = true := decide_eq_true c8
      clear c8
      simp only [Option.some.injEq, Prod.mk.injEq] at H
      obtain ⟨rfl, rfl, rfl⟩ := H
      go_enter Try.func39, Try.ntmps39
      go_wp2_with (first | ((with_reducible refine gate_dst (N := 1) rfl ?_); refine kx 1 #[.bool false, .int .i64 a0_1, .int .i64 a0_2] 23 ?_; intro gb5051 hg w9 hbox hb; have BK5051 := Aside0.mk (hbox); have GW5051 := kg HB hg; have GE5051 := kg HB hg; replace HB := kh HB hb; clear hb hbox hg) | ((with_reducible refine gate_dst (N := 2) rfl ?_); refine kx 2 #[.bool false, .int .i64 0, .int .i64 0] 23 ?_; intro gb5052 hg w10 hbox hb; have BK5052 := Aside0.mk (hbox); have GW5052 := kg HB hg; have GE5052 := kg HB hg; have NB5051_5052 := kn BK5051 hg; have NB5052_5051 := km BK5051 hg; replace BK5051 := kb BK5051 hb; replace HB := kh HB hb; clear hb hbox hg; have hnb11 := NB5051_5052.out; have hnc11 := NB5052_5051.out; have ⟨hcz12_0, hcz12_1, hcz12_2, hfz12_0, hfz12_1, hfz12_2⟩ := kz3f BK5051; have ⟨hcz13_0, hcz13_1, hcz13_2, hfz13_0, hfz13_1, hfz13_2⟩ := kz3f BK5052))
      refine bodyPost_ret (results_cell_row rfl _ _ gb5052 23 #[.bool true, .int .i64 0, .int .i64 0] (0, 0) _ rfl (pK BK5052) Try.underlying23 rfl (by kernel_rfl)) rfl ?_
      exact ⟨pe, pl HB⟩
    · rw [if_neg c8] at H
      have c8b0 : decide (a0_2 < a0_1) = false := decide_eq_false c8
      clear c8
      by_cases c14 : a0_1 ≥ 1099511627776
      · rw [if_pos c14] at H
        have c14b0 : decide (1099511627776 ≤ a0_1) = true := decide_eq_true c14
        clear c14
        simp only [Option.some.injEq, Prod.mk.injEq] at H
        obtain ⟨rfl, rfl, rfl⟩ := H
        go_enter Try.func39, Try.ntmps39
        go_wp2_with (first | ((with_reducible refine gate_dst (N := 1) rfl ?_); refine kx 1 #[.bool false, .int .i64 a0_1, .int .i64 a0_2] 23 ?_; intro gb5051 hg w15 hbox hb; have BK5051 := Aside0.mk (hbox); have GW5051 := kg HB hg; have GE5051 := kg HB hg; replace HB := kh HB hb; clear hb hbox hg) | ((with_reducible refine gate_dst (N := 2) rfl ?_); refine kx 2 #[.bool false, .int .i64 0, .int .i64 0] 23 ?_; intro gb5052 hg w16 hbox hb; have BK5052 := Aside0.mk (hbox); have GW5052 := kg HB hg; have GE5052 := kg HB hg; have NB5051_5052 := kn BK5051 hg; have NB5052_5051 := km BK5051 hg; replace BK5051 := kb BK5051 hb; replace HB := kh HB hb; clear hb hbox hg; have hnb17 := NB5051_5052.out; have hnc17 := NB5052_5051.out; have ⟨hcz18_0, hcz18_1, hcz18_2, hfz18_0, hfz18_1, hfz18_2⟩ := kz3f BK5051; have ⟨hcz19_0, hcz19_1, hcz19_2, hfz19_0, hfz19_1, hfz19_2⟩ := kz3f BK5052))
        refine bodyPost_ret (results_cell_row rfl _ _ gb5052 23 #[.bool true, .int .i64 0, .int .i64 0] (0, 0) _ rfl (pK BK5052) Try.underlying23 rfl (by kernel_rfl)) rfl ?_
        exact ⟨pe, pl HB⟩
      · rw [if_neg c14] at H
        have c14b0 : decide (1099511627776 ≤ a0_1) = false := decide_eq_false c14
        clear c14
        by_cases c20 : a0_2 ≤ (-1099511627776)
        · rw [if_pos c20] at H
          have c20b0 : decide (a0_2 ≤ (-1099511627776)) = true := decide_eq_true c20
          clear c20
          simp only [Option.some.injEq, Prod.mk.injEq] at H
          obtain ⟨rfl, rfl, rfl⟩ := H
          go_enter Try.func39, Try.ntmps39
          go_wp2_with (first | ((with_reducible refine gate_dst (N := 1) rfl ?_); refine kx 1 #[.bool false, .int .i64 a0_1, .int .i64 a0_2] 23 ?_; intro gb5051 hg w21 hbox hb; have BK5051 := Aside0.mk (hbox); have GW5051 := kg HB hg; have GE5051 := kg HB hg; replace HB := kh HB hb; clear hb hbox hg) | ((with_reducible refine gate_dst (N := 2) rfl ?_); refine kx 2 #[.bool false, .int .i64 0, .int .i64 0] 23 ?_; intro gb5052 hg w22 hbox hb; have BK5052 := Aside0.mk (hbox); have GW5052 := kg HB hg; have GE5052 := kg HB hg; have NB5051_5052 := kn BK5051 hg; have NB5052_5051 := km BK5051 hg; replace BK5051 := kb BK5051 hb; replace HB := kh HB hb; clear hb hbox hg; have hnb23 := NB5051_5052.out; have hnc23 := NB5052_5051.out; have ⟨hcz24_0, hcz24_1, hcz24_2, hfz24_0, hfz24_1, hfz24_2⟩ := kz3f BK5051; have ⟨hcz25_0, hcz25_1, hcz25_2, hfz25_0, hfz25_1, hfz25_2⟩ := kz3f BK5052))
          refine bodyPost_ret (results_cell_row rfl _ _ gb5052 23 #[.bool true, .int .i64 0, .int .i64 0] (0, 0) _ rfl (pK BK5052) Try.underlying23 rfl (by kernel_rfl)) rfl ?_
          exact ⟨pe, pl HB⟩
        · rw [if_neg c20] at H
          have c20b0 : decide (a0_2 ≤ (-1099511627776)) = false := decide_eq_false c20
          clear c20
          obtain ⟨ji26, hji26⟩ : ∃ j_ : Int, (mx a0_1 (-1099511627776)) = j_ := ⟨_, rfl⟩
          replace H : (some (false, ji26, mn a0_2 1099511627776)) = some (r1, r2, r3) := by first | (rw [hji26] at H; exact H) | (simp only [hji26] at H ⊢; exact H)
          have hji26_ : (if a0_1 < (-1099511627776) then (-1099511627776) else a0_1) = ji26 := hji26
          obtain ⟨ji27, hji27⟩ : ∃ j_ : Int, (mn a0_2 1099511627776) = j_ := ⟨_, rfl⟩
          replace H : (some (false, ji26, ji27)) = some (r1, r2, r3) := by first | (rw [hji27] at H; exact H) | (simp only [hji27] at H ⊢; exact H)
          (try (have hji27h : ji27 ≤ 1099511627776 := by (rw [← hji27]; unfold mn; (repeat' split) <;> omega)))
          (try (have hji27g : ji27 ≤ 64 := by omega))
          have hji27_ : (if 1099511627776 < a0_2 then 1099511627776 else a0_2) = ji27 := hji27
          simp only [Option.some.injEq, Prod.mk.injEq] at H
          obtain ⟨rfl, rfl, rfl⟩ := H
          go_enter Try.func39, Try.ntmps39
          go_wp2_with (first | ((with_reducible refine gate_dst (N := 1) rfl ?_); refine kx 1 #[.bool false, .int .i64 a0_1, .int .i64 a0_2] 23 ?_; intro gb5051 hg w28 hbox hb; have BK5051 := Aside0.mk (hbox); have GW5051 := kg HB hg; have GE5051 := kg HB hg; replace HB := kh HB hb; clear hb hbox hg) | ((with_reducible refine gate_dst (N := 2) rfl ?_); refine kx 2 #[.bool false, .int .i64 0, .int .i64 0] 23 ?_; intro gb5052 hg w29 hbox hb; have BK5052 := Aside0.mk (hbox); have GW5052 := kg HB hg; have GE5052 := kg HB hg; have NB5051_5052 := kn BK5051 hg; have NB5052_5051 := km BK5051 hg; replace BK5051 := kb BK5051 hb; replace HB := kh HB hb; clear hb hbox hg; have hnb30 := NB5051_5052.out; have hnc30 := NB5052_5051.out; have ⟨hcz31_0, hcz31_1, hcz31_2, hfz31_0, hfz31_1, hfz31_2⟩ := kz3f BK5051; have ⟨hcz32_0, hcz32_1, hcz32_2, hfz32_0, hfz32_1, hfz32_2⟩ := kz3f BK5052))
          refine bodyPost_ret (results_cell_row rfl _ _ gb5052 23 #[.bool false, .int .i64 ji26, .int .i64 ji27] (0, 0) _ rfl (pK BK5052) Try.underlying23 rfl (by kernel_rfl)) rfl ?_
          exact ⟨by first | rfl | (simp [errW_none, errW_some] <;> rfl) | (simp only [← hji26, ← hji27]; first | rfl | (simp [errW_none, errW_some] <;> rfl)) | (simp [*, errW_none, errW_some] <;> rfl), pl HB⟩
end Go.Proofs.Ytinmgnlofininaa.PAll
end
