/- Functions of the print, turned to this claim. -/
import Derived.Test.YtinmgnlofininaaZCDW
import Derived.Test.YtinmgnlofininaaZCDx0
import Derived.Test.YtinmgnlofininaaZCDx1
import Derived.Test.YtinmgnlofininaaZCDx16
section
namespace Go.Proofs.Ytinmgnlofininaa.PAll
open Go.RowKit Go.Proofs.YtinmgnlofininaaW.PrintWords Go.Proofs.YtinmgnlofininaaW.PrintLast Go.Proofs.YtinmgnlofininaaW.PrintMore
attribute [local go_sem] max2_int min2_int max_two min_two max_three min_three max_four min_four   -- for this text's walks alone
set_option linter.unusedVariables false
set_option linter.unusedSimpArgs false
attribute [local go_sem high] eqA23
/-! ### flyballlaw21_is: function 14 -/
def flyballlaw21_is.f (a0_0 : Bool) (a0_1 : Int) (a0_2 : Int) (a0_3 : Bool) (a0_4 : Int) (a0_5 : Int) (a1_0 : Bool) (a1_1 : Int) (a1_2 : Int) (a1_3 : Bool) (a1_4 : Int) (a1_5 : Int) : Option (Bool) := if (a0_0 == a1_0 && (a0_1 == a1_1 && (a0_2 == a1_2))) = true then (some (a0_3 == a1_3 && (a0_4 == a1_4 && (a0_5 == a1_5)))) else (some false)
set_option maxHeartbeats 8000000 in
set_option maxRecDepth 100000 in
theorem flyballlaw21_is.calls (a0_0 : Bool) (a0_1 : Int) (a0_2 : Int) (a0_3 : Bool) (a0_4 : Int) (a0_5 : Int) (a1_0 : Bool) (a1_1 : Int) (a1_2 : Int) (a1_3 : Bool) (a1_4 : Int) (a1_5 : Int) (r : Bool) (w : World) (h : flyballlaw21_is.f a0_0 a0_1 a0_2 a0_3 a0_4 a0_5 a1_0 a1_1 a1_2 a1_3 a1_4 a1_5 = some r) :
    Calls Try.prog 14 #[.agg #[.bool a0_0, .int .i64 a0_1, .int .i64 a0_2, .bool a0_3, .int .i64 a0_4, .int .i64 a0_5], .agg #[.bool a1_0, .int .i64 a1_1, .int .i64 a1_2, .bool a1_3, .int .i64 a1_4, .int .i64 a1_5]] w fun e w' => e = .returned (.bool r) ∧ Below w.heap.size w w' := by
  have hu25 := Try.underlying25
  have hu29 := Try.underlying29
  have hu23 := Try.underlying23
  have HB := Aside0.mk (Below.refl w.heap.size w)
  have H := h
  clear h
  unfold flyballlaw21_is.f at H
  by_cases c3 : (a0_0 == a1_0 && (a0_1 == a1_1 && (a0_2 == a1_2))) = true
  · rw [if_pos c3] at H
    have c3b0 : (a0_0 == a1_0 && (a0_1 == a1_1 && (a0_2 == a1_2))) = true := c3
    (try (have c3b1 : decide (a0_0 = a1_0 && (a0_1 == a1_1 && (a0_2 == a1_2))) = true := by simpa using c3))
    (try (have c3b2 : (a0_0 == a1_0 && (a0_1 == a1_1 && (a0_2 == a1_2))) = true := by simpa using c3))
    clear c3
    obtain rfl := Option.some.inj H
    go_enter Try.func14, Try.ntmps14
    go_wp2_with (first | ((with_reducible refine gate_dst (N := 2) rfl ?_); refine kx 2 #[.bool a0_0, .int .i64 a0_1, .int .i64 a0_2, .bool a0_3, .int .i64 a0_4, .int .i64 a0_5] 25 ?_; intro gb10151 hg w4 hbox hb; have BK10151 := Aside0.mk (hbox); have GW10151 := kg HB hg; have GE10151 := kg HB hg; replace HB := kh HB hb; clear hb hbox hg) | ((with_reducible refine gate_dst (N := 3) rfl ?_); refine kx 3 #[.bool a1_0, .int .i64 a1_1, .int .i64 a1_2, .bool a1_3, .int .i64 a1_4, .int .i64 a1_5] 29 ?_; intro gb10152 hg w5 hbox hb; have BK10152 := Aside0.mk (hbox); have GW10152 := kg HB hg; have GE10152 := kg HB hg; have NB10151_10152 := kn BK10151 hg; have NB10152_10151 := km BK10151 hg; replace BK10151 := kb BK10151 hb; replace HB := kh HB hb; clear hb hbox hg; have hnb6 := NB10151_10152.out; have hnc6 := NB10152_10151.out; have ⟨hcz7_0, hcz7_1, hcz7_2, hcz7_3, hcz7_4, hcz7_5, hfz7_0, hfz7_1, hfz7_2, hfz7_3, hfz7_4, hfz7_5⟩ := kz6f BK10151; have ⟨hcz8_0, hcz8_1, hcz8_2, hcz8_3, hcz8_4, hcz8_5, hfz8_0, hfz8_1, hfz8_2, hfz8_3, hfz8_4, hfz8_5⟩ := kz6f BK10152))
    go_ret
    exact ⟨pe, pl HB⟩
  · rw [if_neg c3] at H
    have c3b0 : (a0_0 == a1_0 && (a0_1 == a1_1 && (a0_2 == a1_2))) = false := by simpa using c3
    (try (have c3b1 : decide (a0_0 = a1_0 && (a0_1 == a1_1 && (a0_2 == a1_2))) = false := by simpa using c3))
    (try (have c3b2 : (a0_0 == a1_0 && (a0_1 == a1_1 && (a0_2 == a1_2))) = false := by simpa using c3))
    (try (have c3b3 : ¬ (a0_0 = a1_0 && (a0_1 == a1_1 && (a0_2 == a1_2))) := by simpa using c3))
    clear c3
    obtain rfl := Option.some.inj H
    go_enter Try.func14, Try.ntmps14
    go_wp2_with (first | ((with_reducible refine gate_dst (N := 2) rfl ?_); refine kx 2 #[.bool a0_0, .int .i64 a0_1, .int .i64 a0_2, .bool a0_3, .int .i64 a0_4, .int .i64 a0_5] 25 ?_; intro gb10151 hg w9 hbox hb; have BK10151 := Aside0.mk (hbox); have GW10151 := kg HB hg; have GE10151 := kg HB hg; replace HB := kh HB hb; clear hb hbox hg) | ((with_reducible refine gate_dst (N := 3) rfl ?_); refine kx 3 #[.bool a1_0, .int .i64 a1_1, .int .i64 a1_2, .bool a1_3, .int .i64 a1_4, .int .i64 a1_5] 29 ?_; intro gb10152 hg w10 hbox hb; have BK10152 := Aside0.mk (hbox); have GW10152 := kg HB hg; have GE10152 := kg HB hg; have NB10151_10152 := kn BK10151 hg; have NB10152_10151 := km BK10151 hg; replace BK10151 := kb BK10151 hb; replace HB := kh HB hb; clear hb hbox hg; have hnb11 := NB10151_10152.out; have hnc11 := NB10152_10151.out; have ⟨hcz12_0, hcz12_1, hcz12_2, hcz12_3, hcz12_4, hcz12_5, hfz12_0, hfz12_1, hfz12_2, hfz12_3, hfz12_4, hfz12_5⟩ := kz6f BK10151; have ⟨hcz13_0, hcz13_1, hcz13_2, hcz13_3, hcz13_4, hcz13_5, hfz13_0, hfz13_1, hfz13_2, hfz13_3, hfz13_4, hfz13_5⟩ := kz6f BK10152))
    go_ret
    exact ⟨pe, pl HB⟩
/-! ### flyballref21_Norm: function 62 -/
def flyballref21_Norm.f (a0_0 : Bool) (a0_1 : Int) (a0_2 : Int) (a0_3 : Bool) (a0_4 : Int) (a0_5 : Int) : Option (Bool × Int × Int × Bool × Int × Int) := (flyballref17_Norm.f a0_0 a0_1 a0_2).bind fun bt10303 => ((flyballref17_Norm.f a0_3 a0_4 a0_5).bind fun bt10307 => (if bt10303.1 = true then (some (true, 0, 0, true, 0, 0)) else (if bt10307.1 = true then (some (true, 0, 0, true, 0, 0)) else (some (bt10303.1, bt10303.2.1, bt10303.2.2, bt10307.1, bt10307.2.1, bt10307.2.2)))))
set_option maxHeartbeats 8000000 in
set_option maxRecDepth 100000 in
theorem flyballref21_Norm.calls (a0_0 : Bool) (a0_1 : Int) (a0_2 : Int) (a0_3 : Bool) (a0_4 : Int) (a0_5 : Int) (r1 : Bool) (r2 : Int) (r3 : Int) (r4 : Bool) (r5 : Int) (r6 : Int) (w : World) (h : flyballref21_Norm.f a0_0 a0_1 a0_2 a0_3 a0_4 a0_5 = some (r1, r2, r3, r4, r5, r6)) :
    Calls Try.prog 62 #[.agg #[.bool a0_0, .int .i64 a0_1, .int .i64 a0_2, .bool a0_3, .int .i64 a0_4, .int .i64 a0_5]] w fun e w' => e = .returned (.agg #[.bool r1, .int .i64 r2, .int .i64 r3, .bool r4, .int .i64 r5, .int .i64 r6]) ∧ Below w.heap.size w w' := by
  have hu29 := Try.underlying29
  have hu23 := Try.underlying23
  have HB := Aside0.mk (Below.refl w.heap.size w)
  have H := h
  clear h
  unfold flyballref21_Norm.f at H
  obtain ⟨⟨t10303, t10304, t10305⟩, A20, H⟩ := Option.bind_eq_some_iff.mp H
  have A2 := Aside0.mk A20
  clear A20
  (try dsimp only at H)
  obtain ⟨⟨t10307, t10308, t10309⟩, A30, H⟩ := Option.bind_eq_some_iff.mp H
  have A3 := Aside0.mk A30
  clear A30
  (try dsimp only at H)
  by_cases c4 : t10303 = true
  · subst c4
    rw [if_pos rfl] at H
    simp only [Option.some.injEq, Prod.mk.injEq] at H
    obtain ⟨rfl, rfl, rfl, rfl, rfl, rfl⟩ := H
    go_enter Try.func62, Try.ntmps62
    go_wp2_with (first | ((with_reducible refine gate_dst (N := 1) rfl ?_); refine kx 1 #[.bool a0_0, .int .i64 a0_1, .int .i64 a0_2, .bool a0_3, .int .i64 a0_4, .int .i64 a0_5] 29 ?_; intro gb10301 hg w5 hbox hb; have BK10301 := Aside0.mk (hbox); have GW10301 := kg HB hg; have GE10301 := kg HB hg; replace HB := kh HB hb; clear hb hbox hg) | ((with_reducible refine gate_dst (N := 2) rfl ?_); refine kx 2 #[.bool false, .int .i64 0, .int .i64 0, .bool false, .int .i64 0, .int .i64 0] 29 ?_; intro gb10302 hg w6 hbox hb; have BK10302 := Aside0.mk (hbox); have GW10302 := kg HB hg; have GE10302 := kg HB hg; have NB10301_10302 := kn BK10301 hg; have NB10302_10301 := km BK10301 hg; replace BK10301 := kb BK10301 hb; replace HB := kh HB hb; clear hb hbox hg; have hnb7 := NB10301_10302.out; have hnc7 := NB10302_10301.out; have ⟨hcz8_0, hcz8_1, hcz8_2, hcz8_3, hcz8_4, hcz8_5, hfz8_0, hfz8_1, hfz8_2, hfz8_3, hfz8_4, hfz8_5⟩ := kz6f BK10301) | ((with_reducible refine gate_callee (f := 39) rfl ?_); refine kc (some 7) Try.func39 #[.agg #[.bool a0_0, .int .i64 a0_1, .int .i64 a0_2]] (flyballref17_Norm.calls a0_0 a0_1 a0_2 true t10304 t10305 _ A2.out) ?_; intro w9 hb; replace BK10301 := kb BK10301 hb; replace BK10302 := kb BK10302 hb; replace HB := kh HB hb; (try clear hb)) | ((with_reducible refine gate_dst (N := 3) rfl ?_); refine kx 3 #[.bool false, .int .i64 0, .int .i64 0] 23 ?_; intro gb10306 hg w10 hbox hb; have BK10306 := Aside0.mk (hbox); have GW10306 := kg HB hg; have GE10306 := kg HB hg; have NB10301_10306 := kn BK10301 hg; have NB10306_10301 := km BK10301 hg; have NB10302_10306 := kn BK10302 hg; have NB10306_10302 := km BK10302 hg; replace BK10301 := kb BK10301 hb; replace BK10302 := kb BK10302 hb; replace HB := kh HB hb; clear hb hbox hg; have hnb11 := NB10306_10301.out; have hnc11 := NB10301_10306.out; have hnb12 := NB10306_10302.out; have hnc12 := NB10302_10306.out; have ⟨hcz13_0, hcz13_1, hcz13_2, hfz13_0, hfz13_1, hfz13_2⟩ := kz3f BK10306; have ⟨hcz14_0, hcz14_1, hcz14_2, hcz14_3, hcz14_4, hcz14_5, hfz14_0, hfz14_1, hfz14_2, hfz14_3, hfz14_4, hfz14_5⟩ := kz6f BK10301) | ((with_reducible refine gate_callee (f := 39) rfl ?_); refine kc (some 10) Try.func39 #[.agg #[.bool a0_3, .int .i64 a0_4, .int .i64 a0_5]] (flyballref17_Norm.calls a0_3 a0_4 a0_5 t10307 t10308 t10309 _ A3.out) ?_; intro w15 hb; replace BK10301 := kb BK10301 hb; replace BK10302 := kb BK10302 hb; replace BK10306 := kb (o' := .cells #[.bool true, .int .i64 t10304, .int .i64 t10305] 23 (0, 0)) BK10306 hb; replace HB := kh HB hb; (try clear hb)) | ((with_reducible refine gate_dst (N := 4) rfl ?_); refine kx 4 #[.bool false, .int .i64 0, .int .i64 0] 23 ?_; intro gb10310 hg w16 hbox hb; have BK10310 := Aside0.mk (hbox); have GW10310 := kg HB hg; have GE10310 := kg HB hg; have NB10301_10310 := kn BK10301 hg; have NB10310_10301 := km BK10301 hg; have NB10302_10310 := kn BK10302 hg; have NB10310_10302 := km BK10302 hg; have NB10306_10310 := kn BK10306 hg; have NB10310_10306 := km BK10306 hg; replace BK10301 := kb BK10301 hb; replace BK10302 := kb BK10302 hb; replace BK10306 := kb BK10306 hb; replace HB := kh HB hb; clear hb hbox hg; have hnb17 := NB10310_10301.out; have hnc17 := NB10301_10310.out; have hnb18 := NB10310_10302.out; have hnc18 := NB10302_10310.out; have hnb19 := NB10310_10306.out; have hnc19 := NB10306_10310.out; have ⟨hcz20_0, hcz20_1, hcz20_2, hfz20_0, hfz20_1, hfz20_2⟩ := kz3f BK10310; have ⟨hcz21_0, hcz21_1, hcz21_2, hfz21_0, hfz21_1, hfz21_2⟩ := kz3f BK10306; have ⟨hcz22_0, hcz22_1, hcz22_2, hcz22_3, hcz22_4, hcz22_5, hfz22_0, hfz22_1, hfz22_2, hfz22_3, hfz22_4, hfz22_5⟩ := kz6f BK10302))
    refine bodyPost_ret (results_cell_row rfl _ _ gb10302 29 #[.bool true, .int .i64 0, .int .i64 0, .bool true, .int .i64 0, .int .i64 0] (0, 0) _ rfl (pK BK10302) Try.underlying29 rfl (by kernel_rfl)) rfl ?_
    exact ⟨pe, pl HB⟩
  · replace c4 := Bool.eq_false_iff.mpr c4
    subst c4
    rw [if_neg (show ¬ (false = true) by decide)] at H
    by_cases c23 : t10307 = true
    · subst c23
      rw [if_pos rfl] at H
      simp only [Option.some.injEq, Prod.mk.injEq] at H
      obtain ⟨rfl, rfl, rfl, rfl, rfl, rfl⟩ := H
      go_enter Try.func62, Try.ntmps62
      go_wp2_with (first | ((with_reducible refine gate_dst (N := 1) rfl ?_); refine kx 1 #[.bool a0_0, .int .i64 a0_1, .int .i64 a0_2, .bool a0_3, .int .i64 a0_4, .int .i64 a0_5] 29 ?_; intro gb10301 hg w24 hbox hb; have BK10301 := Aside0.mk (hbox); have GW10301 := kg HB hg; have GE10301 := kg HB hg; replace HB := kh HB hb; clear hb hbox hg) | ((with_reducible refine gate_dst (N := 2) rfl ?_); refine kx 2 #[.bool false, .int .i64 0, .int .i64 0, .bool false, .int .i64 0, .int .i64 0] 29 ?_; intro gb10302 hg w25 hbox hb; have BK10302 := Aside0.mk (hbox); have GW10302 := kg HB hg; have GE10302 := kg HB hg; have NB10301_10302 := kn BK10301 hg; have NB10302_10301 := km BK10301 hg; replace BK10301 := kb BK10301 hb; replace HB := kh HB hb; clear hb hbox hg; have hnb26 := NB10301_10302.out; have hnc26 := NB10302_10301.out; have ⟨hcz27_0, hcz27_1, hcz27_2, hcz27_3, hcz27_4, hcz27_5, hfz27_0, hfz27_1, hfz27_2, hfz27_3, hfz27_4, hfz27_5⟩ := kz6f BK10301) | ((with_reducible refine gate_callee (f := 39) rfl ?_); refine kc (some 7) Try.func39 #[.agg #[.bool a0_0, .int .i64 a0_1, .int .i64 a0_2]] (flyballref17_Norm.calls a0_0 a0_1 a0_2 false t10304 t10305 _ A2.out) ?_; intro w28 hb; replace BK10301 := kb BK10301 hb; replace BK10302 := kb BK10302 hb; replace HB := kh HB hb; (try clear hb)) | ((with_reducible refine gate_dst (N := 3) rfl ?_); refine kx 3 #[.bool false, .int .i64 0, .int .i64 0] 23 ?_; intro gb10306 hg w29 hbox hb; have BK10306 := Aside0.mk (hbox); have GW10306 := kg HB hg; have GE10306 := kg HB hg; have NB10301_10306 := kn BK10301 hg; have NB10306_10301 := km BK10301 hg; have NB10302_10306 := kn BK10302 hg; have NB10306_10302 := km BK10302 hg; replace BK10301 := kb BK10301 hb; replace BK10302 := kb BK10302 hb; replace HB := kh HB hb; clear hb hbox hg; have hnb30 := NB10306_10301.out; have hnc30 := NB10301_10306.out; have hnb31 := NB10306_10302.out; have hnc31 := NB10302_10306.out; have ⟨hcz32_0, hcz32_1, hcz32_2, hfz32_0, hfz32_1, hfz32_2⟩ := kz3f BK10306; have ⟨hcz33_0, hcz33_1, hcz33_2, hcz33_3, hcz33_4, hcz33_5, hfz33_0, hfz33_1, hfz33_2, hfz33_3, hfz33_4, hfz33_5⟩ := kz6f BK10301) | ((with_reducible refine gate_callee (f := 39) rfl ?_); refine kc (some 10) Try.func39 #[.agg #[.bool a0_3, .int .i64 a0_4, .int .i64 a0_5]] (flyballref17_Norm.calls a0_3 a0_4 a0_5 true t10308 t10309 _ A3.out) ?_; intro w34 hb; replace BK10301 := kb BK10301 hb; replace BK10302 := kb BK10302 hb; replace BK10306 := kb (o' := .cells #[.bool false, .int .i64 t10304, .int .i64 t10305] 23 (0, 0)) BK10306 hb; replace HB := kh HB hb; (try clear hb)) | ((with_reducible refine gate_dst (N := 4) rfl ?_); refine kx 4 #[.bool false, .int .i64 0, .int .i64 0] 23 ?_; intro gb10310 hg w35 hbox hb; have BK10310 := Aside0.mk (hbox); have GW10310 := kg HB hg; have GE10310 := kg HB hg; have NB10301_10310 := kn BK10301 hg; have NB10310_10301 := km BK10301 hg; have NB10302_10310 := kn BK10302 hg; have NB10310_10302 := km BK10302 hg; have NB10306_10310 := kn BK10306 hg; have NB10310_10306 := km BK10306 hg; replace BK10301 := kb BK10301 hb; replace BK10302 := kb BK10302 hb; replace BK10306 := kb BK10306 hb; replace HB := kh HB hb; clear hb hbox hg; have hnb36 := NB10310_10301.out; have hnc36 := NB10301_10310.out; have hnb37 := NB10310_10302.out; have hnc37 := NB10302_10310.out; have hnb38 := NB10310_10306.out; have hnc38 := NB10306_10310.out; have ⟨hcz39_0, hcz39_1, hcz39_2, hfz39_0, hfz39_1, hfz39_2⟩ := kz3f BK10310; have ⟨hcz40_0, hcz40_1, hcz40_2, hfz40_0, hfz40_1, hfz40_2⟩ := kz3f BK10306; have ⟨hcz41_0, hcz41_1, hcz41_2, hcz41_3, hcz41_4, hcz41_5, hfz41_0, hfz41_1, hfz41_2, hfz41_3, hfz41_4, hfz41_5⟩ := kz6f BK10302))
      refine bodyPost_ret (results_cell_row rfl _ _ gb10302 29 #[.bool true, .int .i64 0, .int .i64 0, .bool true, .int .i64 0, .int .i64 0] (0, 0) _ rfl (pK BK10302) Try.underlying29 rfl (by kernel_rfl)) rfl ?_
      exact ⟨pe, pl HB⟩
    · replace c23 := Bool.eq_false_iff.mpr c23
      subst c23
      rw [if_neg (show ¬ (false = true) by decide)] at H
      simp only [Option.some.injEq, Prod.mk.injEq] at H
      obtain ⟨rfl, rfl, rfl, rfl, rfl, rfl⟩ := H
      go_enter Try.func62, Try.ntmps62
      go_wp2_with (first | ((with_reducible refine gate_dst (N := 1) rfl ?_); refine kx 1 #[.bool a0_0, .int .i64 a0_1, .int .i64 a0_2, .bool a0_3, .int .i64 a0_4, .int .i64 a0_5] 29 ?_; intro gb10301 hg w42 hbox hb; have BK10301 := Aside0.mk (hbox); have GW10301 := kg HB hg; have GE10301 := kg HB hg; replace HB := kh HB hb; clear hb hbox hg) | ((with_reducible refine gate_dst (N := 2) rfl ?_); refine kx 2 #[.bool false, .int .i64 0, .int .i64 0, .bool false, .int .i64 0, .int .i64 0] 29 ?_; intro gb10302 hg w43 hbox hb; have BK10302 := Aside0.mk (hbox); have GW10302 := kg HB hg; have GE10302 := kg HB hg; have NB10301_10302 := kn BK10301 hg; have NB10302_10301 := km BK10301 hg; replace BK10301 := kb BK10301 hb; replace HB := kh HB hb; clear hb hbox hg; have hnb44 := NB10301_10302.out; have hnc44 := NB10302_10301.out; have ⟨hcz45_0, hcz45_1, hcz45_2, hcz45_3, hcz45_4, hcz45_5, hfz45_0, hfz45_1, hfz45_2, hfz45_3, hfz45_4, hfz45_5⟩ := kz6f BK10301) | ((with_reducible refine gate_callee (f := 39) rfl ?_); refine kc (some 7) Try.func39 #[.agg #[.bool a0_0, .int .i64 a0_1, .int .i64 a0_2]] (flyballref17_Norm.calls a0_0 a0_1 a0_2 false t10304 t10305 _ A2.out) ?_; intro w46 hb; replace BK10301 := kb BK10301 hb; replace BK10302 := kb BK10302 hb; replace HB := kh HB hb; (try clear hb)) | ((with_reducible refine gate_dst (N := 3) rfl ?_); refine kx 3 #[.bool false, .int .i64 0, .int .i64 0] 23 ?_; intro gb10306 hg w47 hbox hb; have BK10306 := Aside0.mk (hbox); have GW10306 := kg HB hg; have GE10306 := kg HB hg; have NB10301_10306 := kn BK10301 hg; have NB10306_10301 := km BK10301 hg; have NB10302_10306 := kn BK10302 hg; have NB10306_10302 := km BK10302 hg; replace BK10301 := kb BK10301 hb; replace BK10302 := kb BK10302 hb; replace HB := kh HB hb; clear hb hbox hg; have hnb48 := NB10306_10301.out; have hnc48 := NB10301_10306.out; have hnb49 := NB10306_10302.out; have hnc49 := NB10302_10306.out; have ⟨hcz50_0, hcz50_1, hcz50_2, hfz50_0, hfz50_1, hfz50_2⟩ := kz3f BK10306; have ⟨hcz51_0, hcz51_1, hcz51_2, hcz51_3, hcz51_4, hcz51_5, hfz51_0, hfz51_1, hfz51_2, hfz51_3, hfz51_4, hfz51_5⟩ := kz6f BK10301) | ((with_reducible refine gate_callee (f := 39) rfl ?_); refine kc (some 10) Try.func39 #[.agg #[.bool a0_3, .int .i64 a0_4, .int .i64 a0_5]] (flyballref17_Norm.calls a0_3 a0_4 a0_5 false t10308 t10309 _ A3.out) ?_; intro w52 hb; replace BK10301 := kb BK10301 hb; replace BK10302 := kb BK10302 hb; replace BK10306 := kb (o' := .cells #[.bool false, .int .i64 t10304, .int .i64 t10305] 23 (0, 0)) BK10306 hb; replace HB := kh HB hb; (try clear hb)) | ((with_reducible refine gate_dst (N := 4) rfl ?_); refine kx 4 #[.bool false, .int .i64 0, .int .i64 0] 23 ?_; intro gb10310 hg w53 hbox hb; have BK10310 := Aside0.mk (hbox); have GW10310 := kg HB hg; have GE10310 := kg HB hg; have NB10301_10310 := kn BK10301 hg; have NB10310_10301 := km BK10301 hg; have NB10302_10310 := kn BK10302 hg; have NB10310_10302 := km BK10302 hg; have NB10306_10310 := kn BK10306 hg; have NB10310_10306 := km BK10306 hg; replace BK10301 := kb BK10301 hb; replace BK10302 := kb BK10302 hb; replace BK10306 := kb BK10306 hb; replace HB := kh HB hb; clear hb hbox hg; have hnb54 := NB10310_10301.out; have hnc54 := NB10301_10310.out; have hnb55 := NB10310_10302.out; have hnc55 := NB10302_10310.out; have hnb56 := NB10310_10306.out; have hnc56 := NB10306_10310.out; have ⟨hcz57_0, hcz57_1, hcz57_2, hfz57_0, hfz57_1, hfz57_2⟩ := kz3f BK10310; have ⟨hcz58_0, hcz58_1, hcz58_2, hfz58_0, hfz58_1, hfz58_2⟩ := kz3f BK10306; have ⟨hcz59_0, hcz59_1, hcz59_2, hcz59_3, hcz59_4, hcz59_5, hfz59_0, hfz59_1, hfz59_2, hfz59_3, hfz59_4, hfz59_5⟩ := kz6f BK10302))
      refine bodyPost_ret (results_cell_row rfl _ _ gb10302 29 #[.bool false, .int .i64 t10304, .int .i64 t10305, .bool false, .int .i64 t10308, .int .i64 t10309] (0, 0) _ rfl (pK BK10302) Try.underlying29 rfl (by kernel_rfl)) rfl ?_
      exact ⟨pe, pl HB⟩
/-! ### flyballref21_end: function 77 -/
def flyballref21_end.j0 : Nat → Int → Int → Bool → Option (Int)
  | 0, _, _, _ => none
  | k + 1, x0, x1, x10 => if x10 = true then (some x0) else (if x1 ≤ (-1099511627776) then (some x1) else (if x1 ≥ 1099511627776 then (some x1) else (some (mx (mn (wrap64 (x0 + x1)) 1099511627776) (-1099511627776)))))
def flyballref21_end.f (k : Nat) (a0 : Int) (a1 : Int) : Option (Int) := if a0 ≤ (-1099511627776) then (flyballref21_end.j0 k a0 a1 true) else (flyballref21_end.j0 k a0 a1 (decide (a0 ≥ 1099511627776)))
theorem flyballref21_end.mono_l : ∀ k, (∀ y0 y1 y2, LeO (flyballref21_end.j0 k y0 y1 y2) (flyballref21_end.j0 (k + 1) y0 y1 y2))
  | 0 => fun _ _ _ r h => by simp [flyballref21_end.j0] at h
  | k + 1 => by
    have ih0 := flyballref21_end.mono_l k
    · intro y0 y1 y2
      unfold flyballref21_end.j0
      repeat' first
      | (with_reducible exact ih0 _ _ _)
      | (with_reducible exact LeO.refl _)
      | (with_reducible exact LeO.none _)
      | (with_reducible refine LeO.ite ?_ ?_)
      | (with_reducible refine LeO.bind ?_ (fun _ => ?_))
      | exact ih0 _ _ _
      | exact LeO.none _
      | refine LeO.ite ?_ ?_
      | refine LeO.bind ?_ (fun _ => ?_)
theorem flyballref21_end.mono : ∀ a0 a1 k, LeO (flyballref21_end.f k a0 a1) (flyballref21_end.f (k + 1) a0 a1) := by
  intro a0 a1 k
  have ih0 := flyballref21_end.mono_l k
  unfold flyballref21_end.f
  repeat' first
      | (with_reducible exact ih0 _ _ _)
      | (with_reducible exact LeO.refl _)
      | (with_reducible exact LeO.none _)
      | (with_reducible refine LeO.ite ?_ ?_)
      | (with_reducible refine LeO.bind ?_ (fun _ => ?_))
      | exact ih0 _ _ _
      | exact LeO.none _
      | refine LeO.ite ?_ ?_
      | refine LeO.bind ?_ (fun _ => ?_)
set_option maxHeartbeats 8000000 in
set_option maxRecDepth 100000 in
theorem flyballref21_end.calls (k : Nat) (a0 : Int) (a1 : Int) (r : Int) (w : World) (h : flyballref21_end.f k a0 a1 = some r) :
    Calls Try.prog 77 #[.int .i64 a0, .int .i64 a1] w fun e w' => e = .returned (.int .i64 r) ∧ Below w.heap.size w w' := by
  have HB := Aside0.mk (Below.refl w.heap.size w)
  have H := h
  clear h
  unfold flyballref21_end.f at H
  have HC3 := Aside0.mk H
  clear H
  go_enter Try.func77, Try.ntmps77
  go_upto_region 1 with (fail)
  go_cut [10] (fun v10 wc => ∃ (kq : Nat) (x10_2 : Bool), v10 = .bool x10_2 ∧ Aside0 (flyballref21_end.j0 kq a0 a1 x10_2 = some r) ∧ Aside0 (kq ≤ k) ∧ Aside0 (Below w.heap.size w wc))
  case first =>
    have H := HC3.out
    clear HC3
    by_cases c4 : a0 ≤ (-1099511627776)
    · rw [if_pos c4] at H
      have c4b0 : decide (a0 ≤ (-1099511627776)) = true := decide_eq_true c4
      clear c4
      (first | rw [c4b0] | (simp only [i64_w, i32_w]; rw [c4b0]) | skip)
      have H' := Aside0.mk H
      clear H
      go_wp2
      go_meet
      case rel => exact ⟨_, (true), (by first | rfl | (simp; done) | (simp [*]; done)), H', ⟨by first | omega | exact Nat.le_refl _⟩, ⟨pl HB⟩⟩
    · rw [if_neg c4] at H
      have c4b0 : decide (a0 ≤ (-1099511627776)) = false := decide_eq_false c4
      clear c4
      (first | rw [c4b0] | (simp only [i64_w, i32_w]; rw [c4b0]) | skip)
      have H' := Aside0.mk H
      clear H
      go_wp2
      go_meet
      case rel => exact ⟨_, (decide (a0 ≥ 1099511627776)), (by first | rfl | (simp; done) | (simp [*]; done)), H', ⟨by first | omega | exact Nat.le_refl _⟩, ⟨pl HB⟩⟩
  case rest =>
    clear HC3
    try clear p2
    try clear c4
    try clear c4b0
    obtain ⟨kq, x10_2, rfl, HA, HJ2, HB⟩ := hcut
    cases kq with
    | zero => exact absurd HA.out (by simp [flyballref21_end.j0])
    | succ kj2 =>
      have H := HA.out
      clear HA
      simp only [flyballref21_end.j0] at H
      by_cases c5 : x10_2 = true
      · subst c5
        rw [if_pos rfl] at H
        obtain rfl := Option.some.inj H
        go_wp2
        go_ret
        exact ⟨pe, pl HB⟩
      · replace c5 := Bool.eq_false_iff.mpr c5
        subst c5
        rw [if_neg (show ¬ (false = true) by decide)] at H
        by_cases c6 : a1 ≤ (-1099511627776)
        · rw [if_pos c6] at H
          have c6b0 : decide (a1 ≤ (-1099511627776)) = true := decide_eq_true c6
          clear c6
          obtain rfl := Option.some.inj H
          go_wp2
          go_ret
          exact ⟨pe, pl HB⟩
        · rw [if_neg c6] at H
          have c6b0 : decide (a1 ≤ (-1099511627776)) = false := decide_eq_false c6
          clear c6
          by_cases c7 : a1 ≥ 1099511627776
          · rw [if_pos c7] at H
            have c7b0 : decide (1099511627776 ≤ a1) = true := decide_eq_true c7
            clear c7
            obtain rfl := Option.some.inj H
            go_wp2
            go_ret
            exact ⟨pe, pl HB⟩
          · rw [if_neg c7] at H
            have c7b0 : decide (1099511627776 ≤ a1) = false := decide_eq_false c7
            clear c7
            obtain ⟨ji8, hji8⟩ : ∃ j_ : Int, (mn (wrap64 (a0 + a1)) 1099511627776) = j_ := ⟨_, rfl⟩
            replace H : (some (mx (ji8) (-1099511627776))) = some r := by first | (rw [hji8] at H; exact H) | (simp only [hji8] at H ⊢; exact H)
            have hji8_ : (if 1099511627776 < (wrap64 (a0 + a1)) then 1099511627776 else (wrap64 (a0 + a1))) = ji8 := hji8
            obtain ⟨ji9, hji9⟩ : ∃ j_ : Int, (mx (ji8) (-1099511627776)) = j_ := ⟨_, rfl⟩
            replace H : (some ji9) = some r := by first | (rw [hji9] at H; exact H) | (simp only [hji9] at H ⊢; exact H)
            have hji9_ : (if (ji8) < (-1099511627776) then (-1099511627776) else (ji8)) = ji9 := hji9
            obtain rfl := Option.some.inj H
            go_wp2
            go_ret
            exact ⟨by first | rfl | (simp [errW_none, errW_some] <;> rfl) | (simp only [← hji8, ← hji9]; first | rfl | (simp [errW_none, errW_some] <;> rfl)) | (simp [*, errW_none, errW_some] <;> rfl), pl HB⟩
/-! ### flyballref21_Add: function 63 -/
def flyballref21_Add.j0 : Nat → Bool → Bool → Int → Int → Bool → Int → Int → Option (Bool × Int × Int)
  | 0, _, _, _, _, _, _, _ => none
  | k + 1, x16, x10608000, x10608001, x10608002, x10612000, x10612001, x10612002 => if x16 = true then (some (true, 0, 0)) else ((flyballref21_end.f k x10608001 x10612001).bind fun t10612 => ((flyballref21_end.f k x10608002 x10612002).bind fun t10613 => (some (false, mn t10612 1099511627775, mx t10613 (-1099511627775)))))
def flyballref21_Add.f (k : Nat) (a0_0 : Bool) (a0_1 : Int) (a0_2 : Int) (a1_0 : Bool) (a1_1 : Int) (a1_2 : Int) : Option (Bool × Int × Int) := (flyballref17_Norm.f a0_0 a0_1 a0_2).bind fun bt10604 => ((flyballref17_Norm.f a1_0 a1_1 a1_2).bind fun bt10608 => (if bt10604.1 = true then (flyballref21_Add.j0 k true bt10604.1 bt10604.2.1 bt10604.2.2 bt10608.1 bt10608.2.1 bt10608.2.2) else (flyballref21_Add.j0 k bt10608.1 bt10604.1 bt10604.2.1 bt10604.2.2 bt10608.1 bt10608.2.1 bt10608.2.2)))
theorem flyballref21_Add.mono_l : ∀ k, (∀ y0 y1 y2 y3 y4 y5 y6, LeO (flyballref21_Add.j0 k y0 y1 y2 y3 y4 y5 y6) (flyballref21_Add.j0 (k + 1) y0 y1 y2 y3 y4 y5 y6))
  | 0 => fun _ _ _ _ _ _ _ r h => by simp [flyballref21_Add.j0] at h
  | k + 1 => by
    have ih0 := flyballref21_Add.mono_l k
    · intro y0 y1 y2 y3 y4 y5 y6
      unfold flyballref21_Add.j0
      repeat' first
      | (with_reducible exact ih0 _ _ _ _ _ _ _)
      | (with_reducible exact flyballref21_end.mono _ _ _)
      | (with_reducible exact LeO.refl _)
      | (with_reducible exact LeO.none _)
      | (with_reducible refine LeO.ite ?_ ?_)
      | (with_reducible refine LeO.bind ?_ (fun _ => ?_))
      | exact ih0 _ _ _ _ _ _ _
      | exact flyballref21_end.mono _ _ _
      | exact LeO.none _
      | refine LeO.ite ?_ ?_
      | refine LeO.bind ?_ (fun _ => ?_)
theorem flyballref21_Add.mono : ∀ a0 a1 a2 a3 a4 a5 k, LeO (flyballref21_Add.f k a0 a1 a2 a3 a4 a5) (flyballref21_Add.f (k + 1) a0 a1 a2 a3 a4 a5) := by
  intro a0 a1 a2 a3 a4 a5 k
  have ih0 := flyballref21_Add.mono_l k
  unfold flyballref21_Add.f
  repeat' first
      | (with_reducible exact ih0 _ _ _ _ _ _ _)
      | (with_reducible exact flyballref21_end.mono _ _ _)
      | (with_reducible exact LeO.refl _)
      | (with_reducible exact LeO.none _)
      | (with_reducible refine LeO.ite ?_ ?_)
      | (with_reducible refine LeO.bind ?_ (fun _ => ?_))
      | exact ih0 _ _ _ _ _ _ _
      | exact flyballref21_end.mono _ _ _
      | exact LeO.none _
      | refine LeO.ite ?_ ?_
      | refine LeO.bind ?_ (fun _ => ?_)
def flyballref21_Add.T5 : Bool × List (List Nat × List Nat) := (true, [([], []), ([0], [0]), ([], []), ([2], [2]), ([1, 3], [1, 3]), ([4], [4]), ([], []), ([6], [6]), ([], []), ([8], [8]), ([7, 9, 4], [7, 9]), ([10], [10]), ([5, 11], [5, 11]), ([12, 10, 0, 1, 2, 3, 4, 5, 6, 7, 8, 9, 10, 11, 12], [12])])
def flyballref21_Add.B5 : List Nat := [0, 1, 0, 4, 15, 31, 0, 64, 0, 256, 991, 2015, 4095, 8191]
theorem flyballref21_Add.tab5 : rtab .any (opsOf Try.f63 5) = flyballref21_Add.T5 := by kernel_rfl
theorem flyballref21_Add.bits5 : waitsOk flyballref21_Add.T5.2 flyballref21_Add.B5 = true := by kernel_rfl
set_option maxHeartbeats 8000000 in
set_option maxRecDepth 100000 in
theorem flyballref21_Add.calls (k : Nat) (a0_0 : Bool) (a0_1 : Int) (a0_2 : Int) (a1_0 : Bool) (a1_1 : Int) (a1_2 : Int) (r1 : Bool) (r2 : Int) (r3 : Int) (w : World) (h : flyballref21_Add.f k a0_0 a0_1 a0_2 a1_0 a1_1 a1_2 = some (r1, r2, r3)) :
    Calls Try.prog 63 #[.agg #[.bool a0_0, .int .i64 a0_1, .int .i64 a0_2], .agg #[.bool a1_0, .int .i64 a1_1, .int .i64 a1_2]] w fun e w' => e = .returned (.agg #[.bool r1, .int .i64 r2, .int .i64 r3]) ∧ Below w.heap.size w w' := by
  have hu23 := Try.underlying23
  have HB := Aside0.mk (Below.refl w.heap.size w)
  have H := h
  clear h
  unfold flyballref21_Add.f at H
  obtain ⟨⟨t10604, t10605, t10606⟩, A30, H⟩ := Option.bind_eq_some_iff.mp H
  have A3 := Aside0.mk A30
  clear A30
  (try dsimp only at H)
  obtain ⟨⟨t10608, t10609, t10610⟩, A40, H⟩ := Option.bind_eq_some_iff.mp H
  have A4 := Aside0.mk A40
  clear A40
  (try dsimp only at H)
  have HC5 := Aside0.mk H
  clear H
  go_enter Try.func63, Try.ntmps63
  go_upto_region 3 with (first | ((with_reducible refine gate_dst (N := 2) rfl ?_); refine kx 2 #[.bool a0_0, .int .i64 a0_1, .int .i64 a0_2] 23 ?_; intro gb10601 hg w6 hbox hb; have BK10601 := Aside0.mk (hbox); have GW10601 := kg HB hg; have GE10601 := kg HB hg; replace HB := kh HB hb; clear hb hbox hg) | ((with_reducible refine gate_dst (N := 3) rfl ?_); refine kx 3 #[.bool a1_0, .int .i64 a1_1, .int .i64 a1_2] 23 ?_; intro gb10602 hg w7 hbox hb; have BK10602 := Aside0.mk (hbox); have GW10602 := kg HB hg; have GE10602 := kg HB hg; have NB10601_10602 := kn BK10601 hg; have NB10602_10601 := km BK10601 hg; replace BK10601 := kb BK10601 hb; replace HB := kh HB hb; clear hb hbox hg) | ((with_reducible refine gate_dst (N := 4) rfl ?_); refine kx 4 #[.bool false, .int .i64 0, .int .i64 0] 23 ?_; intro gb10603 hg w8 hbox hb; have BK10603 := Aside0.mk (hbox); have GW10603 := kg HB hg; have GE10603 := kg HB hg; have NB10601_10603 := kn BK10601 hg; have NB10603_10601 := km BK10601 hg; have NB10602_10603 := kn BK10602 hg; have NB10603_10602 := km BK10602 hg; replace BK10601 := kb BK10601 hb; replace BK10602 := kb BK10602 hb; replace HB := kh HB hb; clear hb hbox hg; have hnb9 := NB10601_10602.out; have hnc9 := NB10602_10601.out; have hnb10 := NB10601_10603.out; have hnc10 := NB10603_10601.out; have ⟨hcz11_0, hcz11_1, hcz11_2, hfz11_0, hfz11_1, hfz11_2⟩ := kz3f BK10601) | ((with_reducible refine gate_callee (f := 39) rfl ?_); refine kc (some 8) Try.func39 #[.agg #[.bool a0_0, .int .i64 a0_1, .int .i64 a0_2]] (flyballref17_Norm.calls a0_0 a0_1 a0_2 t10604 t10605 t10606 _ A3.out) ?_; intro w12 hb; replace BK10601 := kb BK10601 hb; replace BK10602 := kb BK10602 hb; replace BK10603 := kb BK10603 hb; replace HB := kh HB hb; (try clear hb)) | ((with_reducible refine gate_dst (N := 5) rfl ?_); refine kx 5 #[.bool false, .int .i64 0, .int .i64 0] 23 ?_; intro gb10607 hg w13 hbox hb; have BK10607 := Aside0.mk (hbox); have GW10607 := kg HB hg; have GE10607 := kg HB hg; have NB10601_10607 := kn BK10601 hg; have NB10607_10601 := km BK10601 hg; have NB10602_10607 := kn BK10602 hg; have NB10607_10602 := km BK10602 hg; have NB10603_10607 := kn BK10603 hg; have NB10607_10603 := km BK10603 hg; replace BK10601 := kb BK10601 hb; replace BK10602 := kb BK10602 hb; replace BK10603 := kb BK10603 hb; replace HB := kh HB hb; clear hb hbox hg; have hnb14 := NB10607_10601.out; have hnc14 := NB10601_10607.out; have hnb15 := NB10607_10602.out; have hnc15 := NB10602_10607.out; have hnb16 := NB10607_10603.out; have hnc16 := NB10603_10607.out; have ⟨hcz17_0, hcz17_1, hcz17_2, hfz17_0, hfz17_1, hfz17_2⟩ := kz3f BK10607; have hnb18 := NB10602_10603.out; have hnc18 := NB10603_10602.out; have ⟨hcz19_0, hcz19_1, hcz19_2, hfz19_0, hfz19_1, hfz19_2⟩ := kz3f BK10602) | ((with_reducible refine gate_callee (f := 39) rfl ?_); refine kc (some 10) Try.func39 #[.agg #[.bool a1_0, .int .i64 a1_1, .int .i64 a1_2]] (flyballref17_Norm.calls a1_0 a1_1 a1_2 t10608 t10609 t10610 _ A4.out) ?_; intro w20 hb; replace BK10601 := kb BK10601 hb; replace BK10602 := kb BK10602 hb; replace BK10603 := kb BK10603 hb; replace BK10607 := kb (o' := .cells #[.bool t10604, .int .i64 t10605, .int .i64 t10606] 23 (0, 0)) BK10607 hb; replace HB := kh HB hb; (try clear hb)) | ((with_reducible refine gate_dst (N := 6) rfl ?_); refine kx 6 #[.bool false, .int .i64 0, .int .i64 0] 23 ?_; intro gb10611 hg w21 hbox hb; have BK10611 := Aside0.mk (hbox); have GW10611 := kg HB hg; have GE10611 := kg HB hg; have NB10601_10611 := kn BK10601 hg; have NB10611_10601 := km BK10601 hg; have NB10602_10611 := kn BK10602 hg; have NB10611_10602 := km BK10602 hg; have NB10603_10611 := kn BK10603 hg; have NB10611_10603 := km BK10603 hg; have NB10607_10611 := kn BK10607 hg; have NB10611_10607 := km BK10607 hg; replace BK10601 := kb BK10601 hb; replace BK10602 := kb BK10602 hb; replace BK10603 := kb BK10603 hb; replace BK10607 := kb BK10607 hb; replace HB := kh HB hb; clear hb hbox hg; have hnb22 := NB10611_10601.out; have hnc22 := NB10601_10611.out; have hnb23 := NB10611_10602.out; have hnc23 := NB10602_10611.out; have hnb24 := NB10611_10603.out; have hnc24 := NB10603_10611.out; have hnb25 := NB10611_10607.out; have hnc25 := NB10607_10611.out; have ⟨hcz26_0, hcz26_1, hcz26_2, hfz26_0, hfz26_1, hfz26_2⟩ := kz3f BK10611))
  (try simp only [Act.put, List.setIfInBounds_toArray, List.set_cons_zero, List.set_cons_succ])
  go_cut [16] (fun v16 wc => ∃ (kq : Nat) (x16_4 : Bool), v16 = .bool x16_4 ∧ Aside0 (flyballref21_Add.j0 kq x16_4 t10604 t10605 t10606 t10608 t10609 t10610 = some (r1, r2, r3)) ∧ Aside0 (kq ≤ k) ∧ Aside0 (wc.heap[gb10601]? = some (.cells #[.bool a0_0, .int .i64 a0_1, .int .i64 a0_2] 23 (0, 0))) ∧ Aside0 (wc.heap[gb10602]? = some (.cells #[.bool a1_0, .int .i64 a1_1, .int .i64 a1_2] 23 (0, 0))) ∧ Aside0 (wc.heap[gb10603]? = some (.cells #[.bool false, .int .i64 0, .int .i64 0] 23 (0, 0))) ∧ Aside0 (wc.heap[gb10607]? = some (.cells #[.bool t10604, .int .i64 t10605, .int .i64 t10606] 23 (0, 0))) ∧ Aside0 (wc.heap[gb10611]? = some (.cells #[.bool t10608, .int .i64 t10609, .int .i64 t10610] 23 (0, 0))) ∧ Aside0 (Below w.heap.size w wc))
  case first =>
    have H := HC5.out
    clear HC5
    by_cases c27 : t10604 = true
    · subst c27
      rw [if_pos rfl] at H
      have H' := Aside0.mk H
      clear H
      have hnb28 := NB10607_10601.out
      have hnc28 := NB10601_10607.out
      have hnb29 := NB10607_10602.out
      have hnc29 := NB10602_10607.out
      have hnb30 := NB10607_10603.out
      have hnc30 := NB10603_10607.out
      have hnb31 := NB10607_10611.out
      have hnc31 := NB10611_10607.out
      have ⟨hcz32_0, hcz32_1, hcz32_2, hfz32_0, hfz32_1, hfz32_2⟩ := kz3f BK10607
      go_wp2
      go_meet
      case rel => exact ⟨_, (true), (by first | rfl | (simp; done) | (simp [*]; done)), H', ⟨by first | omega | exact Nat.le_refl _⟩, ⟨pk BK10601⟩, ⟨pk BK10602⟩, ⟨pk BK10603⟩, ⟨pk BK10607⟩, ⟨pK BK10611⟩, ⟨pl HB⟩⟩
    · replace c27 := Bool.eq_false_iff.mpr c27
      subst c27
      rw [if_neg (show ¬ (false = true) by decide)] at H
      have H' := Aside0.mk H
      clear H
      have hnb33 := NB10607_10601.out
      have hnc33 := NB10601_10607.out
      have hnb34 := NB10607_10602.out
      have hnc34 := NB10602_10607.out
      have hnb35 := NB10607_10603.out
      have hnc35 := NB10603_10607.out
      have hnb36 := NB10607_10611.out
      have hnc36 := NB10611_10607.out
      have ⟨hcz37_0, hcz37_1, hcz37_2, hfz37_0, hfz37_1, hfz37_2⟩ := kz3f BK10607
      have hnb38 := NB10611_10601.out
      have hnc38 := NB10601_10611.out
      have hnb39 := NB10611_10602.out
      have hnc39 := NB10602_10611.out
      have hnb40 := NB10611_10603.out
      have hnc40 := NB10603_10611.out
      have ⟨hcz41_0, hcz41_1, hcz41_2, hfz41_0, hfz41_1, hfz41_2⟩ := kz3f BK10611
      go_wp2
      go_meet
      case rel => exact ⟨_, (t10608), (by first | rfl | (simp; done) | (simp [*]; done)), H', ⟨by first | omega | exact Nat.le_refl _⟩, ⟨pk BK10601⟩, ⟨pk BK10602⟩, ⟨pk BK10603⟩, ⟨pk BK10607⟩, ⟨pK BK10611⟩, ⟨pl HB⟩⟩
  case rest =>
    clear HC5
    try clear c1
    try clear c2
    try clear p2
    try clear c3
    try clear c4
    try clear c6
    try clear c9
    try clear c10
    try clear c14
    try clear c15
    try clear c16
    try clear c18
    try clear c22
    try clear c23
    try clear c24
    try clear c25
    try clear c27
    try clear c28
    try clear c29
    try clear c30
    try clear c31
    try clear c33
    try clear c34
    try clear c35
    try clear c36
    try clear c38
    try clear c39
    try clear c40
    try clear hcz11_0
    try clear hcz11_1
    try clear hcz11_2
    try clear hcz17_0
    try clear hcz17_1
    try clear hcz17_2
    try clear hcz19_0
    try clear hcz19_1
    try clear hcz19_2
    try clear hcz26_0
    try clear hcz26_1
    try clear hcz26_2
    try clear hcz32_0
    try clear hcz32_1
    try clear hcz32_2
    try clear hcz37_0
    try clear hcz37_1
    try clear hcz37_2
    try clear hcz41_0
    try clear hcz41_1
    try clear hcz41_2
    try clear hfz11_0
    try clear hfz11_1
    try clear hfz11_2
    try clear hfz17_0
    try clear hfz17_1
    try clear hfz17_2
    try clear hfz19_0
    try clear hfz19_1
    try clear hfz19_2
    try clear hfz26_0
    try clear hfz26_1
    try clear hfz26_2
    try clear hfz32_0
    try clear hfz32_1
    try clear hfz32_2
    try clear hfz37_0
    try clear hfz37_1
    try clear hfz37_2
    try clear hfz41_0
    try clear hfz41_1
    try clear hfz41_2
    obtain ⟨kq, x16_4, rfl, HA, HJ4, BK10601, BK10602, BK10603, BK10607, BK10611, HB⟩ := hcut
    cases kq with
    | zero => exact absurd HA.out (by simp [flyballref21_Add.j0])
    | succ kj4 =>
      have H := HA.out
      clear HA
      simp only [flyballref21_Add.j0] at H
      by_cases c42 : x16_4 = true
      · subst c42
        rw [if_pos rfl] at H
        simp only [Option.some.injEq, Prod.mk.injEq] at H
        obtain ⟨rfl, rfl, rfl⟩ := H
        have hnb43 := NB10603_10601.out
        have hnc43 := NB10601_10603.out
        have hnb44 := NB10603_10602.out
        have hnc44 := NB10602_10603.out
        have hnb45 := NB10603_10607.out
        have hnc45 := NB10607_10603.out
        have hnb46 := NB10603_10611.out
        have hnc46 := NB10611_10603.out
        have hcz47_0 : wc.cell? ⟨gb10603, 0, none⟩ = some (.bool false) := bc BK10603 0
        have hcz47_1 : wc.cell? ⟨gb10603, 1, none⟩ = some (.int .i64 0) := bc BK10603 1
        have hcz47_2 : wc.cell? ⟨gb10603, 2, none⟩ = some (.int .i64 0) := bc BK10603 2
        have hfz47_0 := blk_frozen BK10603.out 0
        have hfz47_1 := blk_frozen BK10603.out 1
        have hfz47_2 := blk_frozen BK10603.out 2
        go_wp2
        refine bodyPost_ret (results_cell_row rfl _ _ gb10603 23 #[.bool true, .int .i64 0, .int .i64 0] (0, 0) _ rfl (pK BK10603) Try.underlying23 rfl (by kernel_rfl)) rfl ?_
        exact ⟨pe, pl HB⟩
      · replace c42 := Bool.eq_false_iff.mpr c42
        subst c42
        rw [if_neg (show ¬ (false = true) by decide)] at H
        obtain ⟨t10612, A480, H⟩ := Option.bind_eq_some_iff.mp H
        have A48 := Aside0.mk A480
        clear A480
        (try dsimp only at H)
        obtain ⟨ji49, hji49⟩ : ∃ j_ : Int, (mn t10612 1099511627775) = j_ := ⟨_, rfl⟩
        replace H : ((flyballref21_end.f kj4 t10606 t10610).bind fun t10613 => (some (false, ji49, mx t10613 (-1099511627775)))) = some (r1, r2, r3) := by first | (rw [hji49] at H; exact H) | (simp only [hji49] at H ⊢; exact H)
        (try rw [hji49] at A48)
        (try (have hji49h : ji49 ≤ 1099511627775 := by (rw [← hji49]; unfold mn; (repeat' split) <;> omega)))
        (try (have hji49g : ji49 ≤ 64 := by omega))
        have hji49_ : (if 1099511627775 < t10612 then 1099511627775 else t10612) = ji49 := hji49
        obtain ⟨t10613, A500, H⟩ := Option.bind_eq_some_iff.mp H
        have A50 := Aside0.mk A500
        clear A500
        (try dsimp only at H)
        obtain ⟨ji51, hji51⟩ : ∃ j_ : Int, (mx t10613 (-1099511627775)) = j_ := ⟨_, rfl⟩
        replace H : (some (false, ji49, ji51)) = some (r1, r2, r3) := by first | (rw [hji51] at H; exact H) | (simp only [hji51] at H ⊢; exact H)
        (try rw [hji51] at A48)
        (try rw [hji51] at A50)
        have hji51_ : (if t10613 < (-1099511627775) then (-1099511627775) else t10613) = ji51 := hji51
        simp only [Option.some.injEq, Prod.mk.injEq] at H
        obtain ⟨rfl, rfl, rfl⟩ := H
        try go_wp2
        replace BK10601 := Aside0.mk (blk_drew BK10601.out)
        replace BK10602 := Aside0.mk (blk_drew BK10602.out)
        replace BK10603 := Aside0.mk (blk_drew BK10603.out)
        replace BK10607 := Aside0.mk (blk_drew BK10607.out)
        replace BK10611 := Aside0.mk (blk_drew BK10611.out)
        replace HB := Aside0.mk (below_drew1 HB.out)
        refine start_ (n := 14) (S := fun w' => w'.cell? ⟨gb10607, 0, none⟩ = some (.bool t10604) ∧ w'.cell? ⟨gb10607, 1, none⟩ = some (.int .i64 t10605) ∧ w'.cell? ⟨gb10607, 2, none⟩ = some (.int .i64 t10606) ∧ w'.cell? ⟨gb10611, 0, none⟩ = some (.bool t10608) ∧ w'.cell? ⟨gb10611, 1, none⟩ = some (.int .i64 t10609) ∧ w'.cell? ⟨gb10611, 2, none⟩ = some (.int .i64 t10610)) (ds := []) #[false, false, false, false, false, false, false, false, false, false, false, false, false, false] (by kernel_rfl) rfl rfl ⟨bc BK10607 0, bc BK10607 1, bc BK10607 2, bc BK10611 0, bc BK10611 1, bc BK10611 2⟩ (fun hHeld => ?_); refine with_tabW flyballref21_Add.tab5 flyballref21_Add.bits5 (fun HT_ HW_ => ?_)
        generalize wc.drew = w52 at BK10601 BK10602 BK10603 BK10607 BK10611 HB hHeld ⊢
        refine pur 0 (some 18) #[true, false, false, false, false, false, false, false, false, false, false, false, false, false] (any_of HT_.out (by kernel_rfl)) ?_
        refine pur 2 (some 20) #[true, false, true, false, false, false, false, false, false, false, false, false, false, false] (any_of HT_.out (by kernel_rfl)) ?_
        refine pur 6 (some 24) #[true, false, true, false, false, false, true, false, false, false, false, false, false, false] (any_of HT_.out (by kernel_rfl)) ?_
        refine pur 8 (some 26) #[true, false, true, false, false, false, true, false, true, false, false, false, false, false] (any_of HT_.out (by kernel_rfl)) ?_
        refine tak 1 (some 19) #[true, true, true, false, false, false, true, false, true, false, false, false, false, false] (take_ofW HT_.out HW_.out (by kernel_rfl)) hHeld ?_
        refine tak 3 (some 21) #[true, true, true, true, false, false, true, false, true, false, false, false, false, false] (take_ofW HT_.out HW_.out (by kernel_rfl)) hHeld ?_
        refine tak 7 (some 25) #[true, true, true, true, false, false, true, true, true, false, false, false, false, false] (take_ofW HT_.out HW_.out (by kernel_rfl)) hHeld ?_
        refine tak 9 (some 27) #[true, true, true, true, false, false, true, true, true, true, false, false, false, false] (take_ofW HT_.out HW_.out (by kernel_rfl)) hHeld ?_
        refine one_ (i := 4) (N := some 22) #[true, true, true, true, true, false, true, true, true, true, false, false, false, false] rfl rfl (one_of HT_.out (by kernel_rfl)) (by decide) (fun K hK => ?_)
        refine gc Try.func77 #[.int .i64 t10605, .int .i64 t10609] (flyballref21_end.calls kj4 t10605 t10609 t10612 _ A48.out) ?_
        intro w53 hb
        replace BK10601 := kb BK10601 hb
        replace BK10602 := kb BK10602 hb
        replace BK10603 := kb BK10603 hb
        replace BK10607 := kb BK10607 hb
        replace BK10611 := kb BK10611 hb
        replace HB := kh HB hb
        (try clear hb)
        refine hK.out _ _ ⟨bc BK10607 0, bc BK10607 1, bc BK10607 2, bc BK10611 0, bc BK10611 1, bc BK10611 2⟩ (fun hHeld => ?_)
        clear hK K
        refine nrm (some 22) ?_
        refine pur 5 (some 23) #[true, true, true, true, true, true, true, true, true, true, false, false, false, false] (any_of HT_.out (by kernel_rfl)) ?_
        refine one_ (i := 10) (N := some 28) #[true, true, true, true, true, true, true, true, true, true, true, false, false, false] rfl rfl (one_of HT_.out (by kernel_rfl)) (by decide) (fun K hK => ?_)
        refine gc Try.func77 #[.int .i64 t10606, .int .i64 t10610] (flyballref21_end.calls kj4 t10606 t10610 t10613 _ A50.out) ?_
        intro w54 hb
        replace BK10601 := kb BK10601 hb
        replace BK10602 := kb BK10602 hb
        replace BK10603 := kb BK10603 hb
        replace BK10607 := kb BK10607 hb
        replace BK10611 := kb BK10611 hb
        replace HB := kh HB hb
        (try clear hb)
        refine hK.out _ _ ⟨bc BK10607 0, bc BK10607 1, bc BK10607 2, bc BK10611 0, bc BK10611 1, bc BK10611 2⟩ (fun hHeld => ?_)
        clear hK K
        refine nrm (some 28) ?_
        refine pur 11 (some 29) #[true, true, true, true, true, true, true, true, true, true, true, true, false, false] (any_of HT_.out (by kernel_rfl)) ?_
        refine pur 12 (some 30) #[true, true, true, true, true, true, true, true, true, true, true, true, true, false] (any_of HT_.out (by kernel_rfl)) ?_
        refine one_ (i := 13) (N := none) #[true, true, true, true, true, true, true, true, true, true, true, true, true, true] rfl rfl (one_of HT_.out (by kernel_rfl)) (by decide) (fun K hK => ?_)
        have hs55 : w54.cell? ⟨gb10603, 0, none⟩ = some (.bool false) := bc BK10603 0
        have hfs55 := blk_frozen BK10603.out 0
        have hns55_0 := NB10601_10603.out
        have hns55_1 := NB10602_10603.out
        have hns55_3 := NB10607_10603.out
        have hns55_4 := NB10611_10603.out
        have hms55_0 := NB10603_10601.out
        have hms55_1 := NB10603_10602.out
        have hms55_3 := NB10603_10607.out
        have hms55_4 := NB10603_10611.out
        have hs56 : w54.cell? ⟨gb10603, 1, none⟩ = some (.int .i64 0) := bc BK10603 1
        have hfs56 := blk_frozen BK10603.out 1
        have hs57 : w54.cell? ⟨gb10603, 2, none⟩ = some (.int .i64 0) := bc BK10603 2
        have hfs57 := blk_frozen BK10603.out 2
        refine skip_ (w1 := ?_) (by rfl) rfl ?_ ?_
        rotate_left
        · go_simp
          rfl
        refine hK.out _ _ ⟨cf hHeld.1, cf hHeld.2.1, cf hHeld.2.2.1, cf hHeld.2.2.2.1, cf hHeld.2.2.2.2.1, cf hHeld.2.2.2.2.2⟩ (fun hHeld => ?_)
        clear hK K
        refine done_ (done_of HT_.out (by kernel_rfl)) ?_
        try go_wp2
        refine bodyPost_ret (results_cell_row rfl _ _ gb10603 23 #[.bool false, .int .i64 ji49, .int .i64 ji51] (0, 0) _ rfl (pK BK10603) Try.underlying23 rfl (by kernel_rfl)) rfl ?_
        exact ⟨by first | rfl | (simp [errW_none, errW_some] <;> rfl) | (simp only [← hji49, ← hji51]; first | rfl | (simp [errW_none, errW_some] <;> rfl)) | (simp [*, errW_none, errW_some] <;> rfl), pl HB⟩
/-! ### flyballref21_Neg: function 64 -/
def flyballref21_Neg.f (a0_0 : Bool) (a0_1 : Int) (a0_2 : Int) : Option (Bool × Int × Int) := (flyballref17_Norm.f a0_0 a0_1 a0_2).bind fun bt10753 => (if bt10753.1 = true then (some (bt10753.1, bt10753.2.1, bt10753.2.2)) else (some (false, wrap64 (-bt10753.2.2), wrap64 (-bt10753.2.1))))
set_option maxHeartbeats 8000000 in
set_option maxRecDepth 100000 in
theorem flyballref21_Neg.calls (a0_0 : Bool) (a0_1 : Int) (a0_2 : Int) (r1 : Bool) (r2 : Int) (r3 : Int) (w : World) (h : flyballref21_Neg.f a0_0 a0_1 a0_2 = some (r1, r2, r3)) :
    Calls Try.prog 64 #[.agg #[.bool a0_0, .int .i64 a0_1, .int .i64 a0_2]] w fun e w' => e = .returned (.agg #[.bool r1, .int .i64 r2, .int .i64 r3]) ∧ Below w.heap.size w w' := by
  have hu23 := Try.underlying23
  have HB := Aside0.mk (Below.refl w.heap.size w)
  have H := h
  clear h
  unfold flyballref21_Neg.f at H
  obtain ⟨⟨t10753, t10754, t10755⟩, A20, H⟩ := Option.bind_eq_some_iff.mp H
  have A2 := Aside0.mk A20
  clear A20
  (try dsimp only at H)
  by_cases c3 : t10753 = true
  · subst c3
    rw [if_pos rfl] at H
    simp only [Option.some.injEq, Prod.mk.injEq] at H
    obtain ⟨rfl, rfl, rfl⟩ := H
    go_enter Try.func64, Try.ntmps64
    go_wp2_with (first | ((with_reducible refine gate_dst (N := 1) rfl ?_); refine kx 1 #[.bool a0_0, .int .i64 a0_1, .int .i64 a0_2] 23 ?_; intro gb10751 hg w4 hbox hb; have BK10751 := Aside0.mk (hbox); have GW10751 := kg HB hg; have GE10751 := kg HB hg; replace HB := kh HB hb; clear hb hbox hg) | ((with_reducible refine gate_dst (N := 2) rfl ?_); refine kx 2 #[.bool false, .int .i64 0, .int .i64 0] 23 ?_; intro gb10752 hg w5 hbox hb; have BK10752 := Aside0.mk (hbox); have GW10752 := kg HB hg; have GE10752 := kg HB hg; have NB10751_10752 := kn BK10751 hg; have NB10752_10751 := km BK10751 hg; replace BK10751 := kb BK10751 hb; replace HB := kh HB hb; clear hb hbox hg; have hnb6 := NB10751_10752.out; have hnc6 := NB10752_10751.out; have ⟨hcz7_0, hcz7_1, hcz7_2, hfz7_0, hfz7_1, hfz7_2⟩ := kz3f BK10751) | ((with_reducible refine gate_callee (f := 39) rfl ?_); refine kc (some 5) Try.func39 #[.agg #[.bool a0_0, .int .i64 a0_1, .int .i64 a0_2]] (flyballref17_Norm.calls a0_0 a0_1 a0_2 true t10754 t10755 _ A2.out) ?_; intro w8 hb; replace BK10751 := kb BK10751 hb; replace BK10752 := kb BK10752 hb; replace HB := kh HB hb; (try clear hb)) | ((with_reducible refine gate_dst (N := 3) rfl ?_); refine kx 3 #[.bool false, .int .i64 0, .int .i64 0] 23 ?_; intro gb10756 hg w9 hbox hb; have BK10756 := Aside0.mk (hbox); have GW10756 := kg HB hg; have GE10756 := kg HB hg; have NB10751_10756 := kn BK10751 hg; have NB10756_10751 := km BK10751 hg; have NB10752_10756 := kn BK10752 hg; have NB10756_10752 := km BK10752 hg; replace BK10751 := kb BK10751 hb; replace BK10752 := kb BK10752 hb; replace HB := kh HB hb; clear hb hbox hg; have hnb10 := NB10756_10751.out; have hnc10 := NB10751_10756.out; have hnb11 := NB10756_10752.out; have hnc11 := NB10752_10756.out; have ⟨hcz12_0, hcz12_1, hcz12_2, hfz12_0, hfz12_1, hfz12_2⟩ := kz3f BK10756; have ⟨hcz13_0, hcz13_1, hcz13_2, hfz13_0, hfz13_1, hfz13_2⟩ := kz3f BK10752))
    refine bodyPost_ret (results_cell_row rfl _ _ gb10752 23 #[.bool true, .int .i64 t10754, .int .i64 t10755] (0, 0) _ rfl (pK BK10752) Try.underlying23 rfl (by kernel_rfl)) rfl ?_
    exact ⟨pe, pl HB⟩
  · replace c3 := Bool.eq_false_iff.mpr c3
    subst c3
    rw [if_neg (show ¬ (false = true) by decide)] at H
    simp only [Option.some.injEq, Prod.mk.injEq] at H
    obtain ⟨rfl, rfl, rfl⟩ := H
    go_enter Try.func64, Try.ntmps64
    go_wp2_with (first | ((with_reducible refine gate_dst (N := 1) rfl ?_); refine kx 1 #[.bool a0_0, .int .i64 a0_1, .int .i64 a0_2] 23 ?_; intro gb10751 hg w14 hbox hb; have BK10751 := Aside0.mk (hbox); have GW10751 := kg HB hg; have GE10751 := kg HB hg; replace HB := kh HB hb; clear hb hbox hg) | ((with_reducible refine gate_dst (N := 2) rfl ?_); refine kx 2 #[.bool false, .int .i64 0, .int .i64 0] 23 ?_; intro gb10752 hg w15 hbox hb; have BK10752 := Aside0.mk (hbox); have GW10752 := kg HB hg; have GE10752 := kg HB hg; have NB10751_10752 := kn BK10751 hg; have NB10752_10751 := km BK10751 hg; replace BK10751 := kb BK10751 hb; replace HB := kh HB hb; clear hb hbox hg; have hnb16 := NB10751_10752.out; have hnc16 := NB10752_10751.out; have ⟨hcz17_0, hcz17_1, hcz17_2, hfz17_0, hfz17_1, hfz17_2⟩ := kz3f BK10751) | ((with_reducible refine gate_callee (f := 39) rfl ?_); refine kc (some 5) Try.func39 #[.agg #[.bool a0_0, .int .i64 a0_1, .int .i64 a0_2]] (flyballref17_Norm.calls a0_0 a0_1 a0_2 false t10754 t10755 _ A2.out) ?_; intro w18 hb; replace BK10751 := kb BK10751 hb; replace BK10752 := kb BK10752 hb; replace HB := kh HB hb; (try clear hb)) | ((with_reducible refine gate_dst (N := 3) rfl ?_); refine kx 3 #[.bool false, .int .i64 0, .int .i64 0] 23 ?_; intro gb10756 hg w19 hbox hb; have BK10756 := Aside0.mk (hbox); have GW10756 := kg HB hg; have GE10756 := kg HB hg; have NB10751_10756 := kn BK10751 hg; have NB10756_10751 := km BK10751 hg; have NB10752_10756 := kn BK10752 hg; have NB10756_10752 := km BK10752 hg; replace BK10751 := kb BK10751 hb; replace BK10752 := kb BK10752 hb; replace HB := kh HB hb; clear hb hbox hg; have hnb20 := NB10756_10751.out; have hnc20 := NB10751_10756.out; have hnb21 := NB10756_10752.out; have hnc21 := NB10752_10756.out; have ⟨hcz22_0, hcz22_1, hcz22_2, hfz22_0, hfz22_1, hfz22_2⟩ := kz3f BK10756; have ⟨hcz23_0, hcz23_1, hcz23_2, hfz23_0, hfz23_1, hfz23_2⟩ := kz3f BK10752))
    refine bodyPost_ret (results_cell_row rfl _ _ gb10752 23 #[.bool false, .int .i64 (wrap64 (-t10755)), .int .i64 (wrap64 (-t10754))] (0, 0) _ rfl (pK BK10752) Try.underlying23 rfl (by kernel_rfl)) rfl ?_
    exact ⟨pe, pl HB⟩
end Go.Proofs.Ytinmgnlofininaa.PAll
end
