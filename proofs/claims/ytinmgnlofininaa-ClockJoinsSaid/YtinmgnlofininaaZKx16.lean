/- Functions of the print, turned to this claim. -/
import Derived.Test.YtinmgnlofininaaZKW
import Derived.Test.YtinmgnlofininaaZKx0
section
namespace Go.Proofs.Ytinmgnlofininaa.PAll
open Go.RowKit Go.Proofs.YtinmgnlofininaaW.PrintWords Go.Proofs.YtinmgnlofininaaW.PrintLast Go.Proofs.YtinmgnlofininaaW.PrintMore
attribute [local go_sem] max2_int min2_int max_two min_two max_three min_three max_four min_four   -- for this text's walks alone
set_option linter.unusedVariables false
set_option linter.unusedSimpArgs false
/-! ### flyballref17_Norm: function 39 -/
def flyballref17_Norm.f (a0_0 : Bool) (a0_1 : Int) (a0_2 : Int) : Option (Bool × Int × Int) := if a0_0 = true then (some (true, 0, 0)) else (if a0_1 > a0_2 then (some (true, 0, 0)) else (if a0_1 ≥ 1099511627776 then (some (true, 0, 0)) else (if a0_2 ≤ (-1099511627776) then (some (true, 0, 0)) else (some (false, mx a0_1 (-1099511627776), mn a0_2 1099511627776)))))
set_option maxHeartbeats 8000000 in
set_option maxRecDepth 100000 in
theorem flyballref17_Norm.calls (a0_0 : Bool) (a0_1 : Int) (a0_2 : Int) (r1 : Bool) (r2 : Int) (r3 : Int) (w : World) (h : flyballref17_Norm.f a0_0 a0_1 a0_2 = some (r1, r2, r3)) :
    Calls Try.prog 39 #[.agg #[.bool a0_0, .int .i64 a0_1, .int .i64 a0_2]] w fun e w' => e = .returned (.agg #[.bool r1, .int .i64 r2, .int .i64 r3]) ∧ Below w.heap.size w w' := by
  have hu23 := Try.underlying23
  have HB := Aside0.mk (Below.refl w.heap.size w)
  have H := h
  clear h
  unfold flyballref17_Norm.f at H
  by_cases c2 : a0_0 = true
  · subst c2
    rw [if_pos rfl] at H
    simp only [Option.some.injEq, Prod.mk.injEq] at H
    obtain ⟨rfl, rfl, rfl⟩ := H
    go_enter Try.func39, Try.ntmps39
    go_wp2_with (first | ((with_reducible refine gate_dst (N := 1) rfl ?_); refine kx 1 #[.bool true, .int .i64 a0_1, .int .i64 a0_2] 23 ?_; intro gb5051 hg w3 hbox hb; have BK5051 := Aside0.mk (hbox); have GW5051 := kg HB hg; have GE5051 := kg HB hg; replace HB := kh HB hb; clear hb hbox hg) | ((with_reducible refine gate_dst (N := 2) rfl ?_); refine kx 2 #[.bool false, .int .i64 0, .int .i64 0] 23 ?_; intro gb5052 hg w4 hbox hb; have BK5052 := Aside0.mk (hbox); have GW5052 := kg HB hg; have GE5052 := kg HB hg; have NB5051_5052 := kn BK5051 hg; have NB5052_5051 := km BK5051 hg; replace BK5051 := kb BK5051 hb; replace HB := kh HB hb; clear hb hbox hg; have hnb5 := NB5051_5052.out; have hnc5 := NB5052_5051.out; have ⟨hcz6_0, hcz6_1, hcz6_2, hfz6_0, hfz6_1, hfz6_2⟩ := kz3f BK5051; have ⟨hcz7_0, hcz7_1, hcz7_2, hfz7_0, hfz7_1, hfz7_2⟩ := kz3f BK5052))
    refine bodyPost_ret (results_cell_row rfl _ _ gb5052 23 #[.bool true, .int .i64 0, .int .i64 0] (0, 0) _ rfl (pK BK5052) Try.underlying23 rfl (by kernel_rfl)) rfl ?_
    exact ⟨pe, pl HB⟩
  · replace c2 := Bool.eq_false_iff.mpr c2
    subst c2
    rw [if_neg (show ¬ (false = true) by decide)] at H
    by_cases c8 : a0_1 > a0_2
    · rw [if_pos c8] at H
      have c8b0 : decide (a0_2 < a0_1) = true := decide_eq_true c8
      clear c8
      simp only [Option.some.injEq, Prod.mk.injEq] at H
      obtain ⟨rfl, rfl, rfl⟩ := H
      go_enter Try.func39, Try.ntmps39
      go_wp2_with (first | ((with_reducible refine gate_dst (N := 1) rfl ?_); refine kx 1 #[.bool false, .int .i64 a0_1, .int .i64 a0_2] 23 ?_; intro gb5051 hg w9 hbox hb; have BK5051 := Aside0.mk (hbox); have GW5051 := kg HB hg; have GE5051 := kg HB hg; replace HB := kh HB hb; clear hb hbox hg) | ((with_reducible refine gate_dst (N := 2) rfl ?_); refine kx 2 #[.bool false, .int .i64 0, .int .i64 0] 23 ?_; intro gb5052 hg w10 hbox hb; have BK5052 := Aside0.mk (hbox); have GW5052 := kg HB hg; have GE5052 := kg HB hg; have NB5051_5052 := kn BK5051 hg; have NB5052_5051 := km BK5051 hg; replace BK5051 := kb BK5051 hb; replace HB := kh HB hb; clear hb hbox hg; have hnb11 := NB5051_5052.out; have hnc11 := NB5052_5051.out; have ⟨hcz12_0, hcz12_1, hcz12_2, hfz12_0, hfz12_1, hfz12_2⟩ := kz3f BK5051; have ⟨hcz13_0, hcz13_1, hcz13_2, hfz13_0, hfz13_1, hfz13_2⟩ := kz3f BK5052))
      refine bodyPost_ret (results_cell_row rfl _ _ gb5052 23 #[.bool true, .int .i64 0, .int .i64 0] (0, 0) _ rfl (pK BK5052) Try.underlying23 rfl (by kernel_rfl)) rfl ?_
      exact ⟨pe, pl HB⟩
    · rw [if_neg c8] at H
      have c8b0 : decide (a0_2 < a0_1) = false := decide_eq_false c8
      clear c8
      by_cases c14 : a0_1 ≥ 1099511627776
      · rw [if_pos c14] at H
        have c14b0 : decide (1099511627776 ≤ a0_1) = true := decide_eq_true c14
        clear c14
        simp only [Option.some.injEq, Prod.mk.injEq] at H
        obtain ⟨rfl, rfl, rfl⟩ := H
        go_enter Try.func39, Try.ntmps39
        go_wp2_with (first | ((with_reducible refine gate_dst (N := 1) rfl ?_); refine kx 1 #[.bool false, .int .i64 a0_1, .int .i64 a0_2] 23 ?_; intro gb5051 hg w15 hbox hb; have BK5051 := Aside0.mk (hbox); have GW5051 := kg HB hg; have GE5051 := kg HB hg; replace HB := kh HB hb; clear hb hbox hg) | ((with_reducible refine gate_dst (N := 2) rfl ?_); refine kx 2 #[.bool false, .int .i64 0, .int .i64 0] 23 ?_; intro gb5052 hg w16 hbox hb; have BK5052 := Aside0.mk (hbox); have GW5052 := kg HB hg; have GE5052 := kg HB hg; have NB5051_5052 := kn BK5051 hg; have NB5052_5051 := km BK5051 hg; replace BK5051 := kb BK5051 hb; replace HB := kh HB hb; clear hb hbox hg; have hnb17 := NB5051_5052.out; have hnc17 := NB5052_5051.out; have ⟨hcz18_0, hcz18_1, hcz18_2, hfz18_0, hfz18_1, hfz18_2⟩ := kz3f BK5051; have ⟨hcz19_0, hcz19_1, hcz19_2, hfz19_0, hfz19_1, hfz19_2⟩ := kz3f BK5052))
        refine bodyPost_ret (results_cell_row rfl _ _ gb5052 23 #[.bool true, .int .i64 0, .int .i64 0] (0, 0) _ rfl (pK BK5052) Try.underlying23 rfl (by kernel_rfl)) rfl ?_
        exact ⟨pe, pl HB⟩
      · rw [if_neg c14] at H
        have c14b0 : decide (1099511627776 ≤ a0_1) = false := decide_eq_false c14
        clear c14
        by_cases c20 : a0_2 ≤ (-1099511627776)
        · rw [if_pos c20] at H
          have c20b0 : decide (a0_2 ≤ (-1099511627776)) = true := decide_eq_true c20
          clear c20
          simp only [Option.some.injEq, Prod.mk.injEq] at H
          obtain ⟨rfl, rfl, rfl⟩ := H
          go_enter Try.func39, Try.ntmps39
          go_wp2_with (first | ((with_reducible refine gate_dst (N := 1) rfl ?_); refine kx 1 #[.bool false, .int .i64 a0_1, .int .i64 a0_2] 23 ?_; intro gb5051 hg w21 hbox hb; have BK5051 := Aside0.mk (hbox); have GW5051 := kg HB hg; have GE5051 := kg HB hg; replace HB := kh HB hb; clear hb hbox hg) | ((with_reducible refine gate_dst (N := 2) rfl ?_); refine kx 2 #[.bool false, .int .i64 0, .int .i64 0] 23 ?_; intro gb5052 hg w22 hbox hb; have BK5052 := Aside0.mk (hbox); have GW5052 := kg HB hg; have GE5052 := kg HB hg; have NB5051_5052 := kn BK5051 hg; have NB5052_5051 := km BK5051 hg; replace BK5051 := kb BK5051 hb; replace HB := kh HB hb; clear hb hbox hg; have hnb23 := NB5051_5052.out; have hnc23 := NB5052_5051.out; have ⟨hcz24_0, hcz24_1, hcz24_2, hfz24_0, hfz24_1, hfz24_2⟩ := kz3f BK5051; have ⟨hcz25_0, hcz25_1, hcz25_2, hfz25_0, hfz25_1, hfz25_2⟩ := kz3f BK5052))
          refine bodyPost_ret (results_cell_row rfl _ _ gb5052 23 #[.bool true, .int .i64 0, .int .i64 0] (0, 0) _ rfl (pK BK5052) Try.underlying23 rfl (by kernel_rfl)) rfl ?_
          exact ⟨pe, pl HB⟩
        · rw [if_neg c20] at H
          have c20b0 : decide (a0_2 ≤ (-1099511627776)) = false := decide_eq_false c20
          clear c20
          obtain ⟨ji26, hji26⟩ : ∃ j_ : Int, (mx a0_1 (-1099511627776)) = j_ := ⟨_, rfl⟩
          replace H : (some (false, ji26, mn a0_2 1099511627776)) = some (r1, r2, r3) := by first | (rw [hji26] at H; exact H) | (simp only [hji26] at H ⊢; exact H)
          have hji26_ : (if a0_1 < (-1099511627776) then (-1099511627776) else a0_1) = ji26 := hji26
          obtain ⟨ji27, hji27⟩ : ∃ j_ : Int, (mn a0_2 1099511627776) = j_ := ⟨_, rfl⟩
          replace H : (some (false, ji26, ji27)) = some (r1, r2, r3) := by first | (rw [hji27] at H; exact H) | (simp only [hji27] at H ⊢; exact H)
          (try (have hji27h : ji27 ≤ 1099511627776 := by (rw [← hji27]; unfold mn; (repeat' split) <;> omega)))
          (try (have hji27g : ji27 ≤ 64 := by omega))
          have hji27_ : (if 1099511627776 < a0_2 then 1099511627776 else a0_2) = ji27 := hji27
          simp only [Option.some.injEq, Prod.mk.injEq] at H
          obtain ⟨rfl, rfl, rfl⟩ := H
          go_enter Try.func39, Try.ntmps39
          go_wp2_with (first | ((with_reducible refine gate_dst (N := 1) rfl ?_); refine kx 1 #[.bool false, .int .i64 a0_1, .int .i64 a0_2] 23 ?_; intro gb5051 hg w28 hbox hb; have BK5051 := Aside0.mk (hbox); have GW5051 := kg HB hg; have GE5051 := kg HB hg; replace HB := kh HB hb; clear hb hbox hg) | ((with_reducible refine gate_dst (N := 2) rfl ?_); refine kx 2 #[.bool false, .int .i64 0, .int .i64 0] 23 ?_; intro gb5052 hg w29 hbox hb; have BK5052 := Aside0.mk (hbox); have GW5052 := kg HB hg; have GE5052 := kg HB hg; have NB5051_5052 := kn BK5051 hg; have NB5052_5051 := km BK5051 hg; replace BK5051 := kb BK5051 hb; replace HB := kh HB hb; clear hb hbox hg; have hnb30 := NB5051_5052.out; have hnc30 := NB5052_5051.out; have ⟨hcz31_0, hcz31_1, hcz31_2, hfz31_0, hfz31_1, hfz31_2⟩ := kz3f BK5051; have ⟨hcz32_0, hcz32_1, hcz32_2, hfz32_0, hfz32_1, hfz32_2⟩ := kz3f BK5052))
          refine bodyPost_ret (results_cell_row rfl _ _ gb5052 23 #[.bool false, .int .i64 ji26, .int .i64 ji27] (0, 0) _ rfl (pK BK5052) Try.underlying23 rfl (by kernel_rfl)) rfl ?_
          exact ⟨by first | rfl | (simp [errW_none, errW_some] <;> rfl) | (simp only [← hji26, ← hji27]; first | rfl | (simp [errW_none, errW_some] <;> rfl)) | (simp [*, errW_none, errW_some] <;> rfl), pl HB⟩
/-! ### flyballref17_Has: function 40 -/
def flyballref17_Has.f (a0_0 : Bool) (a0_1 : Int) (a0_2 : Int) (a1 : Int) : Option (Bool) := (flyballref17_Norm.f a0_0 a0_1 a0_2).bind fun bt5202 => (if bt5202.1 = true then (some false) else (if bt5202.2.1 = (-1099511627776) then (if bt5202.2.2 = 1099511627776 then (some true) else (some (decide (a1 ≤ bt5202.2.2)))) else (if a1 ≥ bt5202.2.1 then (if bt5202.2.2 = 1099511627776 then (some true) else (some (decide (a1 ≤ bt5202.2.2)))) else (some false))))
set_option maxHeartbeats 8000000 in
set_option maxRecDepth 100000 in
theorem flyballref17_Has.calls (a0_0 : Bool) (a0_1 : Int) (a0_2 : Int) (a1 : Int) (r : Bool) (w : World) (h : flyballref17_Has.f a0_0 a0_1 a0_2 a1 = some r) :
    Calls Try.prog 40 #[.agg #[.bool a0_0, .int .i64 a0_1, .int .i64 a0_2], .int .i64 a1] w fun e w' => e = .returned (.bool r) ∧ Below w.heap.size w w' := by
  have hu23 := Try.underlying23
  have HB := Aside0.mk (Below.refl w.heap.size w)
  have H := h
  clear h
  unfold flyballref17_Has.f at H
  obtain ⟨⟨t5202, t5203, t5204⟩, A30, H⟩ := Option.bind_eq_some_iff.mp H
  have A3 := Aside0.mk A30
  clear A30
  (try dsimp only at H)
  by_cases c4 : t5202 = true
  · subst c4
    rw [if_pos rfl] at H
    obtain rfl := Option.some.inj H
    go_enter Try.func40, Try.ntmps40
    go_wp2_with (first | ((with_reducible refine gate_dst (N := 2) rfl ?_); refine kx 2 #[.bool a0_0, .int .i64 a0_1, .int .i64 a0_2] 23 ?_; intro gb5201 hg w5 hbox hb; have BK5201 := Aside0.mk (hbox); have GW5201 := kg HB hg; have GE5201 := kg HB hg; replace HB := kh HB hb; clear hb hbox hg; have ⟨hcz6_0, hcz6_1, hcz6_2, hfz6_0, hfz6_1, hfz6_2⟩ := kz3f BK5201) | ((with_reducible refine gate_callee (f := 39) rfl ?_); refine kc (some 7) Try.func39 #[.agg #[.bool a0_0, .int .i64 a0_1, .int .i64 a0_2]] (flyballref17_Norm.calls a0_0 a0_1 a0_2 true t5203 t5204 _ A3.out) ?_; intro w7 hb; replace BK5201 := kb BK5201 hb; replace HB := kh HB hb; (try clear hb)) | ((with_reducible refine gate_dst (N := 5) rfl ?_); refine kx 5 #[.bool false, .int .i64 0, .int .i64 0] 23 ?_; intro gb5205 hg w8 hbox hb; have BK5205 := Aside0.mk (hbox); have GW5205 := kg HB hg; have GE5205 := kg HB hg; have NB5201_5205 := kn BK5201 hg; have NB5205_5201 := km BK5201 hg; replace BK5201 := kb BK5201 hb; replace HB := kh HB hb; clear hb hbox hg; have hnb9 := NB5205_5201.out; have hnc9 := NB5201_5205.out; have ⟨hcz10_0, hcz10_1, hcz10_2, hfz10_0, hfz10_1, hfz10_2⟩ := kz3f BK5205))
    go_ret
    exact ⟨pe, pl HB⟩
  · replace c4 := Bool.eq_false_iff.mpr c4
    subst c4
    rw [if_neg (show ¬ (false = true) by decide)] at H
    by_cases c11 : t5203 = (-1099511627776)
    · rw [if_pos c11] at H
      have c11b0 : (t5203 == (-1099511627776)) = true := beq_iff_eq.mpr c11
      have c11b1 : (t5203 != (-1099511627776)) = false := bne_eq_false_iff_eq.mpr c11
      clear c11
      by_cases c12 : t5204 = 1099511627776
      · rw [if_pos c12] at H
        have c12b0 : (t5204 == 1099511627776) = true := beq_iff_eq.mpr c12
        have c12b1 : (t5204 != 1099511627776) = false := bne_eq_false_iff_eq.mpr c12
        clear c12
        obtain rfl := Option.some.inj H
        go_enter Try.func40, Try.ntmps40
        go_wp2_with (first | ((with_reducible refine gate_dst (N := 2) rfl ?_); refine kx 2 #[.bool a0_0, .int .i64 a0_1, .int .i64 a0_2] 23 ?_; intro gb5201 hg w13 hbox hb; have BK5201 := Aside0.mk (hbox); have GW5201 := kg HB hg; have GE5201 := kg HB hg; replace HB := kh HB hb; clear hb hbox hg; have ⟨hcz14_0, hcz14_1, hcz14_2, hfz14_0, hfz14_1, hfz14_2⟩ := kz3f BK5201) | ((with_reducible refine gate_callee (f := 39) rfl ?_); refine kc (some 7) Try.func39 #[.agg #[.bool a0_0, .int .i64 a0_1, .int .i64 a0_2]] (flyballref17_Norm.calls a0_0 a0_1 a0_2 false t5203 t5204 _ A3.out) ?_; intro w15 hb; replace BK5201 := kb BK5201 hb; replace HB := kh HB hb; (try clear hb)) | ((with_reducible refine gate_dst (N := 5) rfl ?_); refine kx 5 #[.bool false, .int .i64 0, .int .i64 0] 23 ?_; intro gb5205 hg w16 hbox hb; have BK5205 := Aside0.mk (hbox); have GW5205 := kg HB hg; have GE5205 := kg HB hg; have NB5201_5205 := kn BK5201 hg; have NB5205_5201 := km BK5201 hg; replace BK5201 := kb BK5201 hb; replace HB := kh HB hb; clear hb hbox hg; have hnb17 := NB5205_5201.out; have hnc17 := NB5201_5205.out; have ⟨hcz18_0, hcz18_1, hcz18_2, hfz18_0, hfz18_1, hfz18_2⟩ := kz3f BK5205))
        go_ret
        exact ⟨pe, pl HB⟩
      · rw [if_neg c12] at H
        have c12b0 : (t5204 == 1099511627776) = false := beq_eq_false_iff_ne.mpr c12
        have c12b1 : (t5204 != 1099511627776) = true := bne_iff_ne.mpr c12
        obtain rfl := Option.some.inj H
        go_enter Try.func40, Try.ntmps40
        go_wp2_with (first | ((with_reducible refine gate_dst (N := 2) rfl ?_); refine kx 2 #[.bool a0_0, .int .i64 a0_1, .int .i64 a0_2] 23 ?_; intro gb5201 hg w19 hbox hb; have BK5201 := Aside0.mk (hbox); have GW5201 := kg HB hg; have GE5201 := kg HB hg; replace HB := kh HB hb; clear hb hbox hg; have ⟨hcz20_0, hcz20_1, hcz20_2, hfz20_0, hfz20_1, hfz20_2⟩ := kz3f BK5201) | ((with_reducible refine gate_callee (f := 39) rfl ?_); refine kc (some 7) Try.func39 #[.agg #[.bool a0_0, .int .i64 a0_1, .int .i64 a0_2]] (flyballref17_Norm.calls a0_0 a0_1 a0_2 false t5203 t5204 _ A3.out) ?_; intro w21 hb; replace BK5201 := kb BK5201 hb; replace HB := kh HB hb; (try clear hb)) | ((with_reducible refine gate_dst (N := 5) rfl ?_); refine kx 5 #[.bool false, .int .i64 0, .int .i64 0] 23 ?_; intro gb5205 hg w22 hbox hb; have BK5205 := Aside0.mk (hbox); have GW5205 := kg HB hg; have GE5205 := kg HB hg; have NB5201_5205 := kn BK5201 hg; have NB5205_5201 := km BK5201 hg; replace BK5201 := kb BK5201 hb; replace HB := kh HB hb; clear hb hbox hg; have hnb23 := NB5205_5201.out; have hnc23 := NB5201_5205.out; have ⟨hcz24_0, hcz24_1, hcz24_2, hfz24_0, hfz24_1, hfz24_2⟩ := kz3f BK5205))
        go_ret
        exact ⟨pe, pl HB⟩
    · rw [if_neg c11] at H
      have c11b0 : (t5203 == (-1099511627776)) = false := beq_eq_false_iff_ne.mpr c11
      have c11b1 : (t5203 != (-1099511627776)) = true := bne_iff_ne.mpr c11
      by_cases c25 : a1 ≥ t5203
      · rw [if_pos c25] at H
        have c25b0 : decide (t5203 ≤ a1) = true := decide_eq_true c25
        clear c25
        by_cases c26 : t5204 = 1099511627776
        · rw [if_pos c26] at H
          have c26b0 : (t5204 == 1099511627776) = true := beq_iff_eq.mpr c26
          have c26b1 : (t5204 != 1099511627776) = false := bne_eq_false_iff_eq.mpr c26
          clear c26
          obtain rfl := Option.some.inj H
          go_enter Try.func40, Try.ntmps40
          go_wp2_with (first | ((with_reducible refine gate_dst (N := 2) rfl ?_); refine kx 2 #[.bool a0_0, .int .i64 a0_1, .int .i64 a0_2] 23 ?_; intro gb5201 hg w27 hbox hb; have BK5201 := Aside0.mk (hbox); have GW5201 := kg HB hg; have GE5201 := kg HB hg; replace HB := kh HB hb; clear hb hbox hg; have ⟨hcz28_0, hcz28_1, hcz28_2, hfz28_0, hfz28_1, hfz28_2⟩ := kz3f BK5201) | ((with_reducible refine gate_callee (f := 39) rfl ?_); refine kc (some 7) Try.func39 #[.agg #[.bool a0_0, .int .i64 a0_1, .int .i64 a0_2]] (flyballref17_Norm.calls a0_0 a0_1 a0_2 false t5203 t5204 _ A3.out) ?_; intro w29 hb; replace BK5201 := kb BK5201 hb; replace HB := kh HB hb; (try clear hb)) | ((with_reducible refine gate_dst (N := 5) rfl ?_); refine kx 5 #[.bool false, .int .i64 0, .int .i64 0] 23 ?_; intro gb5205 hg w30 hbox hb; have BK5205 := Aside0.mk (hbox); have GW5205 := kg HB hg; have GE5205 := kg HB hg; have NB5201_5205 := kn BK5201 hg; have NB5205_5201 := km BK5201 hg; replace BK5201 := kb BK5201 hb; replace HB := kh HB hb; clear hb hbox hg; have hnb31 := NB5205_5201.out; have hnc31 := NB5201_5205.out; have ⟨hcz32_0, hcz32_1, hcz32_2, hfz32_0, hfz32_1, hfz32_2⟩ := kz3f BK5205))
          go_ret
          exact ⟨pe, pl HB⟩
        · rw [if_neg c26] at H
          have c26b0 : (t5204 == 1099511627776) = false := beq_eq_false_iff_ne.mpr c26
          have c26b1 : (t5204 != 1099511627776) = true := bne_iff_ne.mpr c26
          obtain rfl := Option.some.inj H
          go_enter Try.func40, Try.ntmps40
          go_wp2_with (first | ((with_reducible refine gate_dst (N := 2) rfl ?_); refine kx 2 #[.bool a0_0, .int .i64 a0_1, .int .i64 a0_2] 23 ?_; intro gb5201 hg w33 hbox hb; have BK5201 := Aside0.mk (hbox); have GW5201 := kg HB hg; have GE5201 := kg HB hg; replace HB := kh HB hb; clear hb hbox hg; have ⟨hcz34_0, hcz34_1, hcz34_2, hfz34_0, hfz34_1, hfz34_2⟩ := kz3f BK5201) | ((with_reducible refine gate_callee (f := 39) rfl ?_); refine kc (some 7) Try.func39 #[.agg #[.bool a0_0, .int .i64 a0_1, .int .i64 a0_2]] (flyballref17_Norm.calls a0_0 a0_1 a0_2 false t5203 t5204 _ A3.out) ?_; intro w35 hb; replace BK5201 := kb BK5201 hb; replace HB := kh HB hb; (try clear hb)) | ((with_reducible refine gate_dst (N := 5) rfl ?_); refine kx 5 #[.bool false, .int .i64 0, .int .i64 0] 23 ?_; intro gb5205 hg w36 hbox hb; have BK5205 := Aside0.mk (hbox); have GW5205 := kg HB hg; have GE5205 := kg HB hg; have NB5201_5205 := kn BK5201 hg; have NB5205_5201 := km BK5201 hg; replace BK5201 := kb BK5201 hb; replace HB := kh HB hb; clear hb hbox hg; have hnb37 := NB5205_5201.out; have hnc37 := NB5201_5205.out; have ⟨hcz38_0, hcz38_1, hcz38_2, hfz38_0, hfz38_1, hfz38_2⟩ := kz3f BK5205))
          go_ret
          exact ⟨pe, pl HB⟩
      · rw [if_neg c25] at H
        have c25b0 : decide (t5203 ≤ a1) = false := decide_eq_false c25
        clear c25
        obtain rfl := Option.some.inj H
        go_enter Try.func40, Try.ntmps40
        go_wp2_with (first | ((with_reducible refine gate_dst (N := 2) rfl ?_); refine kx 2 #[.bool a0_0, .int .i64 a0_1, .int .i64 a0_2] 23 ?_; intro gb5201 hg w39 hbox hb; have BK5201 := Aside0.mk (hbox); have GW5201 := kg HB hg; have GE5201 := kg HB hg; replace HB := kh HB hb; clear hb hbox hg; have ⟨hcz40_0, hcz40_1, hcz40_2, hfz40_0, hfz40_1, hfz40_2⟩ := kz3f BK5201) | ((with_reducible refine gate_callee (f := 39) rfl ?_); refine kc (some 7) Try.func39 #[.agg #[.bool a0_0, .int .i64 a0_1, .int .i64 a0_2]] (flyballref17_Norm.calls a0_0 a0_1 a0_2 false t5203 t5204 _ A3.out) ?_; intro w41 hb; replace BK5201 := kb BK5201 hb; replace HB := kh HB hb; (try clear hb)) | ((with_reducible refine gate_dst (N := 5) rfl ?_); refine kx 5 #[.bool false, .int .i64 0, .int .i64 0] 23 ?_; intro gb5205 hg w42 hbox hb; have BK5205 := Aside0.mk (hbox); have GW5205 := kg HB hg; have GE5205 := kg HB hg; have NB5201_5205 := kn BK5201 hg; have NB5205_5201 := km BK5201 hg; replace BK5201 := kb BK5201 hb; replace HB := kh HB hb; clear hb hbox hg; have hnb43 := NB5205_5201.out; have hnc43 := NB5201_5205.out; have ⟨hcz44_0, hcz44_1, hcz44_2, hfz44_0, hfz44_1, hfz44_2⟩ := kz3f BK5205))
        go_ret
        exact ⟨pe, pl HB⟩
/-! ### flyballref17_Inside: function 42 -/
def flyballref17_Inside.f (a0_0 : Bool) (a0_1 : Int) (a0_2 : Int) (a1_0 : Bool) (a1_1 : Int) (a1_2 : Int) : Option (Bool) := (flyballref17_Norm.f a0_0 a0_1 a0_2).bind fun bt5353 => ((flyballref17_Norm.f a1_0 a1_1 a1_2).bind fun bt5357 => (if bt5353.1 = true then (some bt5353.1) else (if bt5357.1 = true then (some bt5353.1) else (if bt5357.2.1 ≤ bt5353.2.1 then (some (decide (bt5353.2.2 ≤ bt5357.2.2))) else (some false)))))
set_option maxHeartbeats 8000000 in
set_option maxRecDepth 100000 in
theorem flyballref17_Inside.calls (a0_0 : Bool) (a0_1 : Int) (a0_2 : Int) (a1_0 : Bool) (a1_1 : Int) (a1_2 : Int) (r : Bool) (w : World) (h : flyballref17_Inside.f a0_0 a0_1 a0_2 a1_0 a1_1 a1_2 = some r) :
    Calls Try.prog 42 #[.agg #[.bool a0_0, .int .i64 a0_1, .int .i64 a0_2], .agg #[.bool a1_0, .int .i64 a1_1, .int .i64 a1_2]] w fun e w' => e = .returned (.bool r) ∧ Below w.heap.size w w' := by
  have hu23 := Try.underlying23
  have HB := Aside0.mk (Below.refl w.heap.size w)
  have H := h
  clear h
  unfold flyballref17_Inside.f at H
  obtain ⟨⟨t5353, t5354, t5355⟩, A30, H⟩ := Option.bind_eq_some_iff.mp H
  have A3 := Aside0.mk A30
  clear A30
  (try dsimp only at H)
  obtain ⟨⟨t5357, t5358, t5359⟩, A40, H⟩ := Option.bind_eq_some_iff.mp H
  have A4 := Aside0.mk A40
  clear A40
  (try dsimp only at H)
  by_cases c5 : t5353 = true
  · subst c5
    rw [if_pos rfl] at H
    obtain rfl := Option.some.inj H
    go_enter Try.func42, Try.ntmps42
    go_wp2_with (first | ((with_reducible refine gate_dst (N := 2) rfl ?_); refine kx 2 #[.bool a0_0, .int .i64 a0_1, .int .i64 a0_2] 23 ?_; intro gb5351 hg w6 hbox hb; have BK5351 := Aside0.mk (hbox); have GW5351 := kg HB hg; have GE5351 := kg HB hg; replace HB := kh HB hb; clear hb hbox hg) | ((with_reducible refine gate_dst (N := 3) rfl ?_); refine kx 3 #[.bool a1_0, .int .i64 a1_1, .int .i64 a1_2] 23 ?_; intro gb5352 hg w7 hbox hb; have BK5352 := Aside0.mk (hbox); have GW5352 := kg HB hg; have GE5352 := kg HB hg; have NB5351_5352 := kn BK5351 hg; have NB5352_5351 := km BK5351 hg; replace BK5351 := kb BK5351 hb; replace HB := kh HB hb; clear hb hbox hg; have hnb8 := NB5351_5352.out; have hnc8 := NB5352_5351.out; have ⟨hcz9_0, hcz9_1, hcz9_2, hfz9_0, hfz9_1, hfz9_2⟩ := kz3f BK5351) | ((with_reducible refine gate_callee (f := 39) rfl ?_); refine kc (some 8) Try.func39 #[.agg #[.bool a0_0, .int .i64 a0_1, .int .i64 a0_2]] (flyballref17_Norm.calls a0_0 a0_1 a0_2 true t5354 t5355 _ A3.out) ?_; intro w10 hb; replace BK5351 := kb BK5351 hb; replace BK5352 := kb BK5352 hb; replace HB := kh HB hb; (try clear hb)) | ((with_reducible refine gate_dst (N := 5) rfl ?_); refine kx 5 #[.bool false, .int .i64 0, .int .i64 0] 23 ?_; intro gb5356 hg w11 hbox hb; have BK5356 := Aside0.mk (hbox); have GW5356 := kg HB hg; have GE5356 := kg HB hg; have NB5351_5356 := kn BK5351 hg; have NB5356_5351 := km BK5351 hg; have NB5352_5356 := kn BK5352 hg; have NB5356_5352 := km BK5352 hg; replace BK5351 := kb BK5351 hb; replace BK5352 := kb BK5352 hb; replace HB := kh HB hb; clear hb hbox hg; have hnb12 := NB5356_5351.out; have hnc12 := NB5351_5356.out; have hnb13 := NB5356_5352.out; have hnc13 := NB5352_5356.out; have ⟨hcz14_0, hcz14_1, hcz14_2, hfz14_0, hfz14_1, hfz14_2⟩ := kz3f BK5356; have ⟨hcz15_0, hcz15_1, hcz15_2, hfz15_0, hfz15_1, hfz15_2⟩ := kz3f BK5352) | ((with_reducible refine gate_callee (f := 39) rfl ?_); refine kc (some 10) Try.func39 #[.agg #[.bool a1_0, .int .i64 a1_1, .int .i64 a1_2]] (flyballref17_Norm.calls a1_0 a1_1 a1_2 t5357 t5358 t5359 _ A4.out) ?_; intro w16 hb; replace BK5351 := kb BK5351 hb; replace BK5352 := kb BK5352 hb; replace BK5356 := kb (o' := .cells #[.bool true, .int .i64 t5354, .int .i64 t5355] 23 (0, 0)) BK5356 hb; replace HB := kh HB hb; (try clear hb)) | ((with_reducible refine gate_dst (N := 6) rfl ?_); refine kx 6 #[.bool false, .int .i64 0, .int .i64 0] 23 ?_; intro gb5360 hg w17 hbox hb; have BK5360 := Aside0.mk (hbox); have GW5360 := kg HB hg; have GE5360 := kg HB hg; have NB5351_5360 := kn BK5351 hg; have NB5360_5351 := km BK5351 hg; have NB5352_5360 := kn BK5352 hg; have NB5360_5352 := km BK5352 hg; have NB5356_5360 := kn BK5356 hg; have NB5360_5356 := km BK5356 hg; replace BK5351 := kb BK5351 hb; replace BK5352 := kb BK5352 hb; replace BK5356 := kb BK5356 hb; replace HB := kh HB hb; clear hb hbox hg; have hnb18 := NB5360_5351.out; have hnc18 := NB5351_5360.out; have hnb19 := NB5360_5352.out; have hnc19 := NB5352_5360.out; have hnb20 := NB5360_5356.out; have hnc20 := NB5356_5360.out; have ⟨hcz21_0, hcz21_1, hcz21_2, hfz21_0, hfz21_1, hfz21_2⟩ := kz3f BK5360; have ⟨hcz22_0, hcz22_1, hcz22_2, hfz22_0, hfz22_1, hfz22_2⟩ := kz3f BK5356))
    go_ret
    exact ⟨pe, pl HB⟩
  · replace c5 := Bool.eq_false_iff.mpr c5
    subst c5
    rw [if_neg (show ¬ (false = true) by decide)] at H
    by_cases c23 : t5357 = true
    · subst c23
      rw [if_pos rfl] at H
      obtain rfl := Option.some.inj H
      go_enter Try.func42, Try.ntmps42
      go_wp2_with (first | ((with_reducible refine gate_dst (N := 2) rfl ?_); refine kx 2 #[.bool a0_0, .int .i64 a0_1, .int .i64 a0_2] 23 ?_; intro gb5351 hg w24 hbox hb; have BK5351 := Aside0.mk (hbox); have GW5351 := kg HB hg; have GE5351 := kg HB hg; replace HB := kh HB hb; clear hb hbox hg) | ((with_reducible refine gate_dst (N := 3) rfl ?_); refine kx 3 #[.bool a1_0, .int .i64 a1_1, .int .i64 a1_2] 23 ?_; intro gb5352 hg w25 hbox hb; have BK5352 := Aside0.mk (hbox); have GW5352 := kg HB hg; have GE5352 := kg HB hg; have NB5351_5352 := kn BK5351 hg; have NB5352_5351 := km BK5351 hg; replace BK5351 := kb BK5351 hb; replace HB := kh HB hb; clear hb hbox hg; have hnb26 := NB5351_5352.out; have hnc26 := NB5352_5351.out; have ⟨hcz27_0, hcz27_1, hcz27_2, hfz27_0, hfz27_1, hfz27_2⟩ := kz3f BK5351) | ((with_reducible refine gate_callee (f := 39) rfl ?_); refine kc (some 8) Try.func39 #[.agg #[.bool a0_0, .int .i64 a0_1, .int .i64 a0_2]] (flyballref17_Norm.calls a0_0 a0_1 a0_2 false t5354 t5355 _ A3.out) ?_; intro w28 hb; replace BK5351 := kb BK5351 hb; replace BK5352 := kb BK5352 hb; replace HB := kh HB hb; (try clear hb)) | ((with_reducible refine gate_dst (N := 5) rfl ?_); refine kx 5 #[.bool false, .int .i64 0, .int .i64 0] 23 ?_; intro gb5356 hg w29 hbox hb; have BK5356 := Aside0.mk (hbox); have GW5356 := kg HB hg; have GE5356 := kg HB hg; have NB5351_5356 := kn BK5351 hg; have NB5356_5351 := km BK5351 hg; have NB5352_5356 := kn BK5352 hg; have NB5356_5352 := km BK5352 hg; replace BK5351 := kb BK5351 hb; replace BK5352 := kb BK5352 hb; replace HB := kh HB hb; clear hb hbox hg; have hnb30 := NB5356_5351.out; have hnc30 := NB5351_5356.out; have hnb31 := NB5356_5352.out; have hnc31 := NB5352_5356.out; have ⟨hcz32_0, hcz32_1, hcz32_2, hfz32_0, hfz32_1, hfz32_2⟩ := kz3f BK5356; have ⟨hcz33_0, hcz33_1, hcz33_2, hfz33_0, hfz33_1, hfz33_2⟩ := kz3f BK5352) | ((with_reducible refine gate_callee (f := 39) rfl ?_); refine kc (some 10) Try.func39 #[.agg #[.bool a1_0, .int .i64 a1_1, .int .i64 a1_2]] (flyballref17_Norm.calls a1_0 a1_1 a1_2 true t5358 t5359 _ A4.out) ?_; intro w34 hb; replace BK5351 := kb BK5351 hb; replace BK5352 := kb BK5352 hb; replace BK5356 := kb (o' := .cells #[.bool false, .int .i64 t5354, .int .i64 t5355] 23 (0, 0)) BK5356 hb; replace HB := kh HB hb; (try clear hb)) | ((with_reducible refine gate_dst (N := 6) rfl ?_); refine kx 6 #[.bool false, .int .i64 0, .int .i64 0] 23 ?_; intro gb5360 hg w35 hbox hb; have BK5360 := Aside0.mk (hbox); have GW5360 := kg HB hg; have GE5360 := kg HB hg; have NB5351_5360 := kn BK5351 hg; have NB5360_5351 := km BK5351 hg; have NB5352_5360 := kn BK5352 hg; have NB5360_5352 := km BK5352 hg; have NB5356_5360 := kn BK5356 hg; have NB5360_5356 := km BK5356 hg; replace BK5351 := kb BK5351 hb; replace BK5352 := kb BK5352 hb; replace BK5356 := kb BK5356 hb; replace HB := kh HB hb; clear hb hbox hg; have hnb36 := NB5360_5351.out; have hnc36 := NB5351_5360.out; have hnb37 := NB5360_5352.out; have hnc37 := NB5352_5360.out; have hnb38 := NB5360_5356.out; have hnc38 := NB5356_5360.out; have ⟨hcz39_0, hcz39_1, hcz39_2, hfz39_0, hfz39_1, hfz39_2⟩ := kz3f BK5360; have ⟨hcz40_0, hcz40_1, hcz40_2, hfz40_0, hfz40_1, hfz40_2⟩ := kz3f BK5356))
      go_ret
      exact ⟨pe, pl HB⟩
    · replace c23 := Bool.eq_false_iff.mpr c23
      subst c23
      rw [if_neg (show ¬ (false = true) by decide)] at H
      by_cases c41 : t5358 ≤ t5354
      · rw [if_pos c41] at H
        have c41b0 : decide (t5358 ≤ t5354) = true := decide_eq_true c41
        clear c41
        obtain rfl := Option.some.inj H
        go_enter Try.func42, Try.ntmps42
        go_wp2_with (first | ((with_reducible refine gate_dst (N := 2) rfl ?_); refine kx 2 #[.bool a0_0, .int .i64 a0_1, .int .i64 a0_2] 23 ?_; intro gb5351 hg w42 hbox hb; have BK5351 := Aside0.mk (hbox); have GW5351 := kg HB hg; have GE5351 := kg HB hg; replace HB := kh HB hb; clear hb hbox hg) | ((with_reducible refine gate_dst (N := 3) rfl ?_); refine kx 3 #[.bool a1_0, .int .i64 a1_1, .int .i64 a1_2] 23 ?_; intro gb5352 hg w43 hbox hb; have BK5352 := Aside0.mk (hbox); have GW5352 := kg HB hg; have GE5352 := kg HB hg; have NB5351_5352 := kn BK5351 hg; have NB5352_5351 := km BK5351 hg; replace BK5351 := kb BK5351 hb; replace HB := kh HB hb; clear hb hbox hg; have hnb44 := NB5351_5352.out; have hnc44 := NB5352_5351.out; have ⟨hcz45_0, hcz45_1, hcz45_2, hfz45_0, hfz45_1, hfz45_2⟩ := kz3f BK5351) | ((with_reducible refine gate_callee (f := 39) rfl ?_); refine kc (some 8) Try.func39 #[.agg #[.bool a0_0, .int .i64 a0_1, .int .i64 a0_2]] (flyballref17_Norm.calls a0_0 a0_1 a0_2 false t5354 t5355 _ A3.out) ?_; intro w46 hb; replace BK5351 := kb BK5351 hb; replace BK5352 := kb BK5352 hb; replace HB := kh HB hb; (try clear hb)) | ((with_reducible refine gate_dst (N := 5) rfl ?_); refine kx 5 #[.bool false, .int .i64 0, .int .i64 0] 23 ?_; intro gb5356 hg w47 hbox hb; have BK5356 := Aside0.mk (hbox); have GW5356 := kg HB hg; have GE5356 := kg HB hg; have NB5351_5356 := kn BK5351 hg; have NB5356_5351 := km BK5351 hg; have NB5352_5356 := kn BK5352 hg; have NB5356_5352 := km BK5352 hg; replace BK5351 := kb BK5351 hb; replace BK5352 := kb BK5352 hb; replace HB := kh HB hb; clear hb hbox hg; have hnb48 := NB5356_5351.out; have hnc48 := NB5351_5356.out; have hnb49 := NB5356_5352.out; have hnc49 := NB5352_5356.out; have ⟨hcz50_0, hcz50_1, hcz50_2, hfz50_0, hfz50_1, hfz50_2⟩ := kz3f BK5356; have ⟨hcz51_0, hcz51_1, hcz51_2, hfz51_0, hfz51_1, hfz51_2⟩ := kz3f BK5352) | ((with_reducible refine gate_callee (f := 39) rfl ?_); refine kc (some 10) Try.func39 #[.agg #[.bool a1_0, .int .i64 a1_1, .int .i64 a1_2]] (flyballref17_Norm.calls a1_0 a1_1 a1_2 false t5358 t5359 _ A4.out) ?_; intro w52 hb; replace BK5351 := kb BK5351 hb; replace BK5352 := kb BK5352 hb; replace BK5356 := kb (o' := .cells #[.bool false, .int .i64 t5354, .int .i64 t5355] 23 (0, 0)) BK5356 hb; replace HB := kh HB hb; (try clear hb)) | ((with_reducible refine gate_dst (N := 6) rfl ?_); refine kx 6 #[.bool false, .int .i64 0, .int .i64 0] 23 ?_; intro gb5360 hg w53 hbox hb; have BK5360 := Aside0.mk (hbox); have GW5360 := kg HB hg; have GE5360 := kg HB hg; have NB5351_5360 := kn BK5351 hg; have NB5360_5351 := km BK5351 hg; have NB5352_5360 := kn BK5352 hg; have NB5360_5352 := km BK5352 hg; have NB5356_5360 := kn BK5356 hg; have NB5360_5356 := km BK5356 hg; replace BK5351 := kb BK5351 hb; replace BK5352 := kb BK5352 hb; replace BK5356 := kb BK5356 hb; replace HB := kh HB hb; clear hb hbox hg; have hnb54 := NB5360_5351.out; have hnc54 := NB5351_5360.out; have hnb55 := NB5360_5352.out; have hnc55 := NB5352_5360.out; have hnb56 := NB5360_5356.out; have hnc56 := NB5356_5360.out; have ⟨hcz57_0, hcz57_1, hcz57_2, hfz57_0, hfz57_1, hfz57_2⟩ := kz3f BK5360; have ⟨hcz58_0, hcz58_1, hcz58_2, hfz58_0, hfz58_1, hfz58_2⟩ := kz3f BK5356))
        go_ret
        exact ⟨pe, pl HB⟩
      · rw [if_neg c41] at H
        have c41b0 : decide (t5358 ≤ t5354) = false := decide_eq_false c41
        clear c41
        obtain rfl := Option.some.inj H
        go_enter Try.func42, Try.ntmps42
        go_wp2_with (first | ((with_reducible refine gate_dst (N := 2) rfl ?_); refine kx 2 #[.bool a0_0, .int .i64 a0_1, .int .i64 a0_2] 23 ?_; intro gb5351 hg w59 hbox hb; have BK5351 := Aside0.mk (hbox); have GW5351 := kg HB hg; have GE5351 := kg HB hg; replace HB := kh HB hb; clear hb hbox hg) | ((with_reducible refine gate_dst (N := 3) rfl ?_); refine kx 3 #[.bool a1_0, .int .i64 a1_1, .int .i64 a1_2] 23 ?_; intro gb5352 hg w60 hbox hb; have BK5352 := Aside0.mk (hbox); have GW5352 := kg HB hg; have GE5352 := kg HB hg; have NB5351_5352 := kn BK5351 hg; have NB5352_5351 := km BK5351 hg; replace BK5351 := kb BK5351 hb; replace HB := kh HB hb; clear hb hbox hg; have hnb61 := NB5351_5352.out; have hnc61 := NB5352_5351.out; have ⟨hcz62_0, hcz62_1, hcz62_2, hfz62_0, hfz62_1, hfz62_2⟩ := kz3f BK5351) | ((with_reducible refine gate_callee (f := 39) rfl ?_); refine kc (some 8) Try.func39 #[.agg #[.bool a0_0, .int .i64 a0_1, .int .i64 a0_2]] (flyballref17_Norm.calls a0_0 a0_1 a0_2 false t5354 t5355 _ A3.out) ?_; intro w63 hb; replace BK5351 := kb BK5351 hb; replace BK5352 := kb BK5352 hb; replace HB := kh HB hb; (try clear hb)) | ((with_reducible refine gate_dst (N := 5) rfl ?_); refine kx 5 #[.bool false, .int .i64 0, .int .i64 0] 23 ?_; intro gb5356 hg w64 hbox hb; have BK5356 := Aside0.mk (hbox); have GW5356 := kg HB hg; have GE5356 := kg HB hg; have NB5351_5356 := kn BK5351 hg; have NB5356_5351 := km BK5351 hg; have NB5352_5356 := kn BK5352 hg; have NB5356_5352 := km BK5352 hg; replace BK5351 := kb BK5351 hb; replace BK5352 := kb BK5352 hb; replace HB := kh HB hb; clear hb hbox hg; have hnb65 := NB5356_5351.out; have hnc65 := NB5351_5356.out; have hnb66 := NB5356_5352.out; have hnc66 := NB5352_5356.out; have ⟨hcz67_0, hcz67_1, hcz67_2, hfz67_0, hfz67_1, hfz67_2⟩ := kz3f BK5356; have ⟨hcz68_0, hcz68_1, hcz68_2, hfz68_0, hfz68_1, hfz68_2⟩ := kz3f BK5352) | ((with_reducible refine gate_callee (f := 39) rfl ?_); refine kc (some 10) Try.func39 #[.agg #[.bool a1_0, .int .i64 a1_1, .int .i64 a1_2]] (flyballref17_Norm.calls a1_0 a1_1 a1_2 false t5358 t5359 _ A4.out) ?_; intro w69 hb; replace BK5351 := kb BK5351 hb; replace BK5352 := kb BK5352 hb; replace BK5356 := kb (o' := .cells #[.bool false, .int .i64 t5354, .int .i64 t5355] 23 (0, 0)) BK5356 hb; replace HB := kh HB hb; (try clear hb)) | ((with_reducible refine gate_dst (N := 6) rfl ?_); refine kx 6 #[.bool false, .int .i64 0, .int .i64 0] 23 ?_; intro gb5360 hg w70 hbox hb; have BK5360 := Aside0.mk (hbox); have GW5360 := kg HB hg; have GE5360 := kg HB hg; have NB5351_5360 := kn BK5351 hg; have NB5360_5351 := km BK5351 hg; have NB5352_5360 := kn BK5352 hg; have NB5360_5352 := km BK5352 hg; have NB5356_5360 := kn BK5356 hg; have NB5360_5356 := km BK5356 hg; replace BK5351 := kb BK5351 hb; replace BK5352 := kb BK5352 hb; replace BK5356 := kb BK5356 hb; replace HB := kh HB hb; clear hb hbox hg; have hnb71 := NB5360_5351.out; have hnc71 := NB5351_5360.out; have hnb72 := NB5360_5352.out; have hnc72 := NB5352_5360.out; have hnb73 := NB5360_5356.out; have hnc73 := NB5356_5360.out; have ⟨hcz74_0, hcz74_1, hcz74_2, hfz74_0, hfz74_1, hfz74_2⟩ := kz3f BK5360; have ⟨hcz75_0, hcz75_1, hcz75_2, hfz75_0, hfz75_1, hfz75_2⟩ := kz3f BK5356))
        go_ret
        exact ⟨pe, pl HB⟩
/-! ### flyballref17_Join: function 44 -/
def flyballref17_Join.f (a0_0 : Bool) (a0_1 : Int) (a0_2 : Int) (a1_0 : Bool) (a1_1 : Int) (a1_2 : Int) : Option (Bool × Int × Int) := (flyballref17_Norm.f a0_0 a0_1 a0_2).bind fun bt5504 => ((flyballref17_Norm.f a1_0 a1_1 a1_2).bind fun bt5508 => (if bt5504.1 = true then (some (bt5508.1, bt5508.2.1, bt5508.2.2)) else (if bt5508.1 = true then (some (bt5504.1, bt5504.2.1, bt5504.2.2)) else (some (false, mn bt5504.2.1 bt5508.2.1, mx bt5504.2.2 bt5508.2.2)))))
set_option maxHeartbeats 8000000 in
set_option maxRecDepth 100000 in
theorem flyballref17_Join.calls (a0_0 : Bool) (a0_1 : Int) (a0_2 : Int) (a1_0 : Bool) (a1_1 : Int) (a1_2 : Int) (r1 : Bool) (r2 : Int) (r3 : Int) (w : World) (h : flyballref17_Join.f a0_0 a0_1 a0_2 a1_0 a1_1 a1_2 = some (r1, r2, r3)) :
    Calls Try.prog 44 #[.agg #[.bool a0_0, .int .i64 a0_1, .int .i64 a0_2], .agg #[.bool a1_0, .int .i64 a1_1, .int .i64 a1_2]] w fun e w' => e = .returned (.agg #[.bool r1, .int .i64 r2, .int .i64 r3]) ∧ Below w.heap.size w w' := by
  have hu23 := Try.underlying23
  have HB := Aside0.mk (Below.refl w.heap.size w)
  have H := h
  clear h
  unfold flyballref17_Join.f at H
  obtain ⟨⟨t5504, t5505, t5506⟩, A30, H⟩ := Option.bind_eq_some_iff.mp H
  have A3 := Aside0.mk A30
  clear A30
  (try dsimp only at H)
  obtain ⟨⟨t5508, t5509, t5510⟩, A40, H⟩ := Option.bind_eq_some_iff.mp H
  have A4 := Aside0.mk A40
  clear A40
  (try dsimp only at H)
  by_cases c5 : t5504 = true
  · subst c5
    rw [if_pos rfl] at H
    simp only [Option.some.injEq, Prod.mk.injEq] at H
    obtain ⟨rfl, rfl, rfl⟩ := H
    go_enter Try.func44, Try.ntmps44
    go_wp2_with (first | ((with_reducible refine gate_dst (N := 2) rfl ?_); refine kx 2 #[.bool a0_0, .int .i64 a0_1, .int .i64 a0_2] 23 ?_; intro gb5501 hg w6 hbox hb; have BK5501 := Aside0.mk (hbox); have GW5501 := kg HB hg; have GE5501 := kg HB hg; replace HB := kh HB hb; clear hb hbox hg) | ((with_reducible refine gate_dst (N := 3) rfl ?_); refine kx 3 #[.bool a1_0, .int .i64 a1_1, .int .i64 a1_2] 23 ?_; intro gb5502 hg w7 hbox hb; have BK5502 := Aside0.mk (hbox); have GW5502 := kg HB hg; have GE5502 := kg HB hg; have NB5501_5502 := kn BK5501 hg; have NB5502_5501 := km BK5501 hg; replace BK5501 := kb BK5501 hb; replace HB := kh HB hb; clear hb hbox hg) | ((with_reducible refine gate_dst (N := 4) rfl ?_); refine kx 4 #[.bool false, .int .i64 0, .int .i64 0] 23 ?_; intro gb5503 hg w8 hbox hb; have BK5503 := Aside0.mk (hbox); have GW5503 := kg HB hg; have GE5503 := kg HB hg; have NB5501_5503 := kn BK5501 hg; have NB5503_5501 := km BK5501 hg; have NB5502_5503 := kn BK5502 hg; have NB5503_5502 := km BK5502 hg; replace BK5501 := kb BK5501 hb; replace BK5502 := kb BK5502 hb; replace HB := kh HB hb; clear hb hbox hg; have hnb9 := NB5501_5502.out; have hnc9 := NB5502_5501.out; have hnb10 := NB5501_5503.out; have hnc10 := NB5503_5501.out; have ⟨hcz11_0, hcz11_1, hcz11_2, hfz11_0, hfz11_1, hfz11_2⟩ := kz3f BK5501) | ((with_reducible refine gate_callee (f := 39) rfl ?_); refine kc (some 8) Try.func39 #[.agg #[.bool a0_0, .int .i64 a0_1, .int .i64 a0_2]] (flyballref17_Norm.calls a0_0 a0_1 a0_2 true t5505 t5506 _ A3.out) ?_; intro w12 hb; replace BK5501 := kb BK5501 hb; replace BK5502 := kb BK5502 hb; replace BK5503 := kb BK5503 hb; replace HB := kh HB hb; (try clear hb)) | ((with_reducible refine gate_dst (N := 5) rfl ?_); refine kx 5 #[.bool false, .int .i64 0, .int .i64 0] 23 ?_; intro gb5507 hg w13 hbox hb; have BK5507 := Aside0.mk (hbox); have GW5507 := kg HB hg; have GE5507 := kg HB hg; have NB5501_5507 := kn BK5501 hg; have NB5507_5501 := km BK5501 hg; have NB5502_5507 := kn BK5502 hg; have NB5507_5502 := km BK5502 hg; have NB5503_5507 := kn BK5503 hg; have NB5507_5503 := km BK5503 hg; replace BK5501 := kb BK5501 hb; replace BK5502 := kb BK5502 hb; replace BK5503 := kb BK5503 hb; replace HB := kh HB hb; clear hb hbox hg; have hnb14 := NB5507_5501.out; have hnc14 := NB5501_5507.out; have hnb15 := NB5507_5502.out; have hnc15 := NB5502_5507.out; have hnb16 := NB5507_5503.out; have hnc16 := NB5503_5507.out; have ⟨hcz17_0, hcz17_1, hcz17_2, hfz17_0, hfz17_1, hfz17_2⟩ := kz3f BK5507; have hnb18 := NB5502_5503.out; have hnc18 := NB5503_5502.out; have ⟨hcz19_0, hcz19_1, hcz19_2, hfz19_0, hfz19_1, hfz19_2⟩ := kz3f BK5502) | ((with_reducible refine gate_callee (f := 39) rfl ?_); refine kc (some 10) Try.func39 #[.agg #[.bool a1_0, .int .i64 a1_1, .int .i64 a1_2]] (flyballref17_Norm.calls a1_0 a1_1 a1_2 t5508 t5509 t5510 _ A4.out) ?_; intro w20 hb; replace BK5501 := kb BK5501 hb; replace BK5502 := kb BK5502 hb; replace BK5503 := kb BK5503 hb; replace BK5507 := kb (o' := .cells #[.bool true, .int .i64 t5505, .int .i64 t5506] 23 (0, 0)) BK5507 hb; replace HB := kh HB hb; (try clear hb)) | ((with_reducible refine gate_dst (N := 6) rfl ?_); refine kx 6 #[.bool false, .int .i64 0, .int .i64 0] 23 ?_; intro gb5511 hg w21 hbox hb; have BK5511 := Aside0.mk (hbox); have GW5511 := kg HB hg; have GE5511 := kg HB hg; have NB5501_5511 := kn BK5501 hg; have NB5511_5501 := km BK5501 hg; have NB5502_5511 := kn BK5502 hg; have NB5511_5502 := km BK5502 hg; have NB5503_5511 := kn BK5503 hg; have NB5511_5503 := km BK5503 hg; have NB5507_5511 := kn BK5507 hg; have NB5511_5507 := km BK5507 hg; replace BK5501 := kb BK5501 hb; replace BK5502 := kb BK5502 hb; replace BK5503 := kb BK5503 hb; replace BK5507 := kb BK5507 hb; replace HB := kh HB hb; clear hb hbox hg; have hnb22 := NB5511_5501.out; have hnc22 := NB5501_5511.out; have hnb23 := NB5511_5502.out; have hnc23 := NB5502_5511.out; have hnb24 := NB5511_5503.out; have hnc24 := NB5503_5511.out; have hnb25 := NB5511_5507.out; have hnc25 := NB5507_5511.out; have ⟨hcz26_0, hcz26_1, hcz26_2, hfz26_0, hfz26_1, hfz26_2⟩ := kz3f BK5511; have ⟨hcz27_0, hcz27_1, hcz27_2, hfz27_0, hfz27_1, hfz27_2⟩ := kz3f BK5507; have ⟨hcz28_0, hcz28_1, hcz28_2, hfz28_0, hfz28_1, hfz28_2⟩ := kz3f BK5503))
    refine bodyPost_ret (results_cell_row rfl _ _ gb5503 23 #[.bool t5508, .int .i64 t5509, .int .i64 t5510] (0, 0) _ rfl (pK BK5503) Try.underlying23 rfl (by kernel_rfl)) rfl ?_
    exact ⟨pe, pl HB⟩
  · replace c5 := Bool.eq_false_iff.mpr c5
    subst c5
    rw [if_neg (show ¬ (false = true) by decide)] at H
    by_cases c29 : t5508 = true
    · subst c29
      rw [if_pos rfl] at H
      simp only [Option.some.injEq, Prod.mk.injEq] at H
      obtain ⟨rfl, rfl, rfl⟩ := H
      go_enter Try.func44, Try.ntmps44
      go_wp2_with (first | ((with_reducible refine gate_dst (N := 2) rfl ?_); refine kx 2 #[.bool a0_0, .int .i64 a0_1, .int .i64 a0_2] 23 ?_; intro gb5501 hg w30 hbox hb; have BK5501 := Aside0.mk (hbox); have GW5501 := kg HB hg; have GE5501 := kg HB hg; replace HB := kh HB hb; clear hb hbox hg) | ((with_reducible refine gate_dst (N := 3) rfl ?_); refine kx 3 #[.bool a1_0, .int .i64 a1_1, .int .i64 a1_2] 23 ?_; intro gb5502 hg w31 hbox hb; have BK5502 := Aside0.mk (hbox); have GW5502 := kg HB hg; have GE5502 := kg HB hg; have NB5501_5502 := kn BK5501 hg; have NB5502_5501 := km BK5501 hg; replace BK5501 := kb BK5501 hb; replace HB := kh HB hb; clear hb hbox hg) | ((with_reducible refine gate_dst (N := 4) rfl ?_); refine kx 4 #[.bool false, .int .i64 0, .int .i64 0] 23 ?_; intro gb5503 hg w32 hbox hb; have BK5503 := Aside0.mk (hbox); have GW5503 := kg HB hg; have GE5503 := kg HB hg; have NB5501_5503 := kn BK5501 hg; have NB5503_5501 := km BK5501 hg; have NB5502_5503 := kn BK5502 hg; have NB5503_5502 := km BK5502 hg; replace BK5501 := kb BK5501 hb; replace BK5502 := kb BK5502 hb; replace HB := kh HB hb; clear hb hbox hg; have hnb33 := NB5501_5502.out; have hnc33 := NB5502_5501.out; have hnb34 := NB5501_5503.out; have hnc34 := NB5503_5501.out; have ⟨hcz35_0, hcz35_1, hcz35_2, hfz35_0, hfz35_1, hfz35_2⟩ := kz3f BK5501) | ((with_reducible refine gate_callee (f := 39) rfl ?_); refine kc (some 8) Try.func39 #[.agg #[.bool a0_0, .int .i64 a0_1, .int .i64 a0_2]] (flyballref17_Norm.calls a0_0 a0_1 a0_2 false t5505 t5506 _ A3.out) ?_; intro w36 hb; replace BK5501 := kb BK5501 hb; replace BK5502 := kb BK5502 hb; replace BK5503 := kb BK5503 hb; replace HB := kh HB hb; (try clear hb)) | ((with_reducible refine gate_dst (N := 5) rfl ?_); refine kx 5 #[.bool false, .int .i64 0, .int .i64 0] 23 ?_; intro gb5507 hg w37 hbox hb; have BK5507 := Aside0.mk (hbox); have GW5507 := kg HB hg; have GE5507 := kg HB hg; have NB5501_5507 := kn BK5501 hg; have NB5507_5501 := km BK5501 hg; have NB5502_5507 := kn BK5502 hg; have NB5507_5502 := km BK5502 hg; have NB5503_5507 := kn BK5503 hg; have NB5507_5503 := km BK5503 hg; replace BK5501 := kb BK5501 hb; replace BK5502 := kb BK5502 hb; replace BK5503 := kb BK5503 hb; replace HB := kh HB hb; clear hb hbox hg; have hnb38 := NB5507_5501.out; have hnc38 := NB5501_5507.out; have hnb39 := NB5507_5502.out; have hnc39 := NB5502_5507.out; have hnb40 := NB5507_5503.out; have hnc40 := NB5503_5507.out; have ⟨hcz41_0, hcz41_1, hcz41_2, hfz41_0, hfz41_1, hfz41_2⟩ := kz3f BK5507; have hnb42 := NB5502_5503.out; have hnc42 := NB5503_5502.out; have ⟨hcz43_0, hcz43_1, hcz43_2, hfz43_0, hfz43_1, hfz43_2⟩ := kz3f BK5502) | ((with_reducible refine gate_callee (f := 39) rfl ?_); refine kc (some 10) Try.func39 #[.agg #[.bool a1_0, .int .i64 a1_1, .int .i64 a1_2]] (flyballref17_Norm.calls a1_0 a1_1 a1_2 true t5509 t5510 _ A4.out) ?_; intro w44 hb; replace BK5501 := kb BK5501 hb; replace BK5502 := kb BK5502 hb; replace BK5503 := kb BK5503 hb; replace BK5507 := kb (o' := .cells #[.bool false, .int .i64 t5505, .int .i64 t5506] 23 (0, 0)) BK5507 hb; replace HB := kh HB hb; (try clear hb)) | ((with_reducible refine gate_dst (N := 6) rfl ?_); refine kx 6 #[.bool false, .int .i64 0, .int .i64 0] 23 ?_; intro gb5511 hg w45 hbox hb; have BK5511 := Aside0.mk (hbox); have GW5511 := kg HB hg; have GE5511 := kg HB hg; have NB5501_5511 := kn BK5501 hg; have NB5511_5501 := km BK5501 hg; have NB5502_5511 := kn BK5502 hg; have NB5511_5502 := km BK5502 hg; have NB5503_5511 := kn BK5503 hg; have NB5511_5503 := km BK5503 hg; have NB5507_5511 := kn BK5507 hg; have NB5511_5507 := km BK5507 hg; replace BK5501 := kb BK5501 hb; replace BK5502 := kb BK5502 hb; replace BK5503 := kb BK5503 hb; replace BK5507 := kb BK5507 hb; replace HB := kh HB hb; clear hb hbox hg; have hnb46 := NB5511_5501.out; have hnc46 := NB5501_5511.out; have hnb47 := NB5511_5502.out; have hnc47 := NB5502_5511.out; have hnb48 := NB5511_5503.out; have hnc48 := NB5503_5511.out; have hnb49 := NB5511_5507.out; have hnc49 := NB5507_5511.out; have ⟨hcz50_0, hcz50_1, hcz50_2, hfz50_0, hfz50_1, hfz50_2⟩ := kz3f BK5511; have ⟨hcz51_0, hcz51_1, hcz51_2, hfz51_0, hfz51_1, hfz51_2⟩ := kz3f BK5507; have ⟨hcz52_0, hcz52_1, hcz52_2, hfz52_0, hfz52_1, hfz52_2⟩ := kz3f BK5503))
      refine bodyPost_ret (results_cell_row rfl _ _ gb5503 23 #[.bool false, .int .i64 t5505, .int .i64 t5506] (0, 0) _ rfl (pK BK5503) Try.underlying23 rfl (by kernel_rfl)) rfl ?_
      exact ⟨pe, pl HB⟩
    · replace c29 := Bool.eq_false_iff.mpr c29
      subst c29
      rw [if_neg (show ¬ (false = true) by decide)] at H
      obtain ⟨ji53, hji53⟩ : ∃ j_ : Int, (mn t5505 t5509) = j_ := ⟨_, rfl⟩
      replace H : (some (false, ji53, mx t5506 t5510)) = some (r1, r2, r3) := by first | (rw [hji53] at H; exact H) | (simp only [hji53] at H ⊢; exact H)
      (try rw [hji53] at A3)
      (try rw [hji53] at A4)
      have hji53_ : (if t5509 < t5505 then t5509 else t5505) = ji53 := hji53
      obtain ⟨ji54, hji54⟩ : ∃ j_ : Int, (mx t5506 t5510) = j_ := ⟨_, rfl⟩
      replace H : (some (false, ji53, ji54)) = some (r1, r2, r3) := by first | (rw [hji54] at H; exact H) | (simp only [hji54] at H ⊢; exact H)
      (try rw [hji54] at A3)
      (try rw [hji54] at A4)
      have hji54_ : (if t5506 < t5510 then t5510 else t5506) = ji54 := hji54
      simp only [Option.some.injEq, Prod.mk.injEq] at H
      obtain ⟨rfl, rfl, rfl⟩ := H
      go_enter Try.func44, Try.ntmps44
      go_wp2_with (first | ((with_reducible refine gate_dst (N := 2) rfl ?_); refine kx 2 #[.bool a0_0, .int .i64 a0_1, .int .i64 a0_2] 23 ?_; intro gb5501 hg w55 hbox hb; have BK5501 := Aside0.mk (hbox); have GW5501 := kg HB hg; have GE5501 := kg HB hg; replace HB := kh HB hb; clear hb hbox hg) | ((with_reducible refine gate_dst (N := 3) rfl ?_); refine kx 3 #[.bool a1_0, .int .i64 a1_1, .int .i64 a1_2] 23 ?_; intro gb5502 hg w56 hbox hb; have BK5502 := Aside0.mk (hbox); have GW5502 := kg HB hg; have GE5502 := kg HB hg; have NB5501_5502 := kn BK5501 hg; have NB5502_5501 := km BK5501 hg; replace BK5501 := kb BK5501 hb; replace HB := kh HB hb; clear hb hbox hg) | ((with_reducible refine gate_dst (N := 4) rfl ?_); refine kx 4 #[.bool false, .int .i64 0, .int .i64 0] 23 ?_; intro gb5503 hg w57 hbox hb; have BK5503 := Aside0.mk (hbox); have GW5503 := kg HB hg; have GE5503 := kg HB hg; have NB5501_5503 := kn BK5501 hg; have NB5503_5501 := km BK5501 hg; have NB5502_5503 := kn BK5502 hg; have NB5503_5502 := km BK5502 hg; replace BK5501 := kb BK5501 hb; replace BK5502 := kb BK5502 hb; replace HB := kh HB hb; clear hb hbox hg; have hnb58 := NB5501_5502.out; have hnc58 := NB5502_5501.out; have hnb59 := NB5501_5503.out; have hnc59 := NB5503_5501.out; have ⟨hcz60_0, hcz60_1, hcz60_2, hfz60_0, hfz60_1, hfz60_2⟩ := kz3f BK5501) | ((with_reducible refine gate_callee (f := 39) rfl ?_); refine kc (some 8) Try.func39 #[.agg #[.bool a0_0, .int .i64 a0_1, .int .i64 a0_2]] (flyballref17_Norm.calls a0_0 a0_1 a0_2 false t5505 t5506 _ A3.out) ?_; intro w61 hb; replace BK5501 := kb BK5501 hb; replace BK5502 := kb BK5502 hb; replace BK5503 := kb BK5503 hb; replace HB := kh HB hb; (try clear hb)) | ((with_reducible refine gate_dst (N := 5) rfl ?_); refine kx 5 #[.bool false, .int .i64 0, .int .i64 0] 23 ?_; intro gb5507 hg w62 hbox hb; have BK5507 := Aside0.mk (hbox); have GW5507 := kg HB hg; have GE5507 := kg HB hg; have NB5501_5507 := kn BK5501 hg; have NB5507_5501 := km BK5501 hg; have NB5502_5507 := kn BK5502 hg; have NB5507_5502 := km BK5502 hg; have NB5503_5507 := kn BK5503 hg; have NB5507_5503 := km BK5503 hg; replace BK5501 := kb BK5501 hb; replace BK5502 := kb BK5502 hb; replace BK5503 := kb BK5503 hb; replace HB := kh HB hb; clear hb hbox hg; have hnb63 := NB5507_5501.out; have hnc63 := NB5501_5507.out; have hnb64 := NB5507_5502.out; have hnc64 := NB5502_5507.out; have hnb65 := NB5507_5503.out; have hnc65 := NB5503_5507.out; have ⟨hcz66_0, hcz66_1, hcz66_2, hfz66_0, hfz66_1, hfz66_2⟩ := kz3f BK5507; have hnb67 := NB5502_5503.out; have hnc67 := NB5503_5502.out; have ⟨hcz68_0, hcz68_1, hcz68_2, hfz68_0, hfz68_1, hfz68_2⟩ := kz3f BK5502) | ((with_reducible refine gate_callee (f := 39) rfl ?_); refine kc (some 10) Try.func39 #[.agg #[.bool a1_0, .int .i64 a1_1, .int .i64 a1_2]] (flyballref17_Norm.calls a1_0 a1_1 a1_2 false t5509 t5510 _ A4.out) ?_; intro w69 hb; replace BK5501 := kb BK5501 hb; replace BK5502 := kb BK5502 hb; replace BK5503 := kb BK5503 hb; replace BK5507 := kb (o' := .cells #[.bool false, .int .i64 t5505, .int .i64 t5506] 23 (0, 0)) BK5507 hb; replace HB := kh HB hb; (try clear hb)) | ((with_reducible refine gate_dst (N := 6) rfl ?_); refine kx 6 #[.bool false, .int .i64 0, .int .i64 0] 23 ?_; intro gb5511 hg w70 hbox hb; have BK5511 := Aside0.mk (hbox); have GW5511 := kg HB hg; have GE5511 := kg HB hg; have NB5501_5511 := kn BK5501 hg; have NB5511_5501 := km BK5501 hg; have NB5502_5511 := kn BK5502 hg; have NB5511_5502 := km BK5502 hg; have NB5503_5511 := kn BK5503 hg; have NB5511_5503 := km BK5503 hg; have NB5507_5511 := kn BK5507 hg; have NB5511_5507 := km BK5507 hg; replace BK5501 := kb BK5501 hb; replace BK5502 := kb BK5502 hb; replace BK5503 := kb BK5503 hb; replace BK5507 := kb BK5507 hb; replace HB := kh HB hb; clear hb hbox hg; have hnb71 := NB5511_5501.out; have hnc71 := NB5501_5511.out; have hnb72 := NB5511_5502.out; have hnc72 := NB5502_5511.out; have hnb73 := NB5511_5503.out; have hnc73 := NB5503_5511.out; have hnb74 := NB5511_5507.out; have hnc74 := NB5507_5511.out; have ⟨hcz75_0, hcz75_1, hcz75_2, hfz75_0, hfz75_1, hfz75_2⟩ := kz3f BK5511; have ⟨hcz76_0, hcz76_1, hcz76_2, hfz76_0, hfz76_1, hfz76_2⟩ := kz3f BK5507; have ⟨hcz77_0, hcz77_1, hcz77_2, hfz77_0, hfz77_1, hfz77_2⟩ := kz3f BK5503))
      refine bodyPost_ret (results_cell_row rfl _ _ gb5503 23 #[.bool false, .int .i64 ji53, .int .i64 ji54] (0, 0) _ rfl (pK BK5503) Try.underlying23 rfl (by kernel_rfl)) rfl ?_
      exact ⟨by first | rfl | (simp [errW_none, errW_some] <;> rfl) | (simp only [← hji53, ← hji54]; first | rfl | (simp [errW_none, errW_some] <;> rfl)) | (simp [*, errW_none, errW_some] <;> rfl), pl HB⟩
end Go.Proofs.Ytinmgnlofininaa.PAll
end
