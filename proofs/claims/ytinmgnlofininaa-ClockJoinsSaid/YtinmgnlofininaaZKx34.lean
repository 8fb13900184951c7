/- Functions of the print, turned to this claim. -/
import Derived.Test.YtinmgnlofininaaZKW
import Derived.Test.YtinmgnlofininaaZKx0
import Derived.Test.YtinmgnlofininaaZKx1
import Derived.Test.YtinmgnlofininaaZKx16
section
namespace Go.Proofs.Ytinmgnlofininaa.PAll
open Go.RowKit Go.Proofs.YtinmgnlofininaaW.PrintWords Go.Proofs.YtinmgnlofininaaW.PrintLast Go.Proofs.YtinmgnlofininaaW.PrintMore
attribute [local go_sem] max2_int min2_int max_two min_two max_three min_three max_four min_four   -- for this text's walks alone
set_option linter.unusedVariables false
set_option linter.unusedSimpArgs false
attribute [local go_sem high] eqA23
/-! ### flyballlaw21_is: function 14 -/
def flyballlaw21_is.f (a0_0 : Bool) (a0_1 : Int) (a0_2 : Int) (a0_3 : Bool) (a0_4 : Int) (a0_5 : Int) (a1_0 : Bool) (a1_1 : Int) (a1_2 : Int) (a1_3 : Bool) (a1_4 : Int) (a1_5 : Int) : Option (Bool) := if (a0_0 == a1_0 && (a0_1 == a1_1 && (a0_2 == a1_2))) = true then (some (a0_3 == a1_3 && (a0_4 == a1_4 && (a0_5 == a1_5)))) else (some false)
set_option maxHeartbeats 8000000 in
set_option maxRecDepth 100000 in
theorem flyballlaw21_is.calls (a0_0 : Bool) (a0_1 : Int) (a0_2 : Int) (a0_3 : Bool) (a0_4 : Int) (a0_5 : Int) (a1_0 : Bool) (a1_1 : Int) (a1_2 : Int) (a1_3 : Bool) (a1_4 : Int) (a1_5 : Int) (r : Bool) (w : World) (h : flyballlaw21_is.f a0_0 a0_1 a0_2 a0_3 a0_4 a0_5 a1_0 a1_1 a1_2 a1_3 a1_4 a1_5 = some r) :
    Calls Try.prog 14 #[.agg #[.bool a0_0, .int .i64 a0_1, .int .i64 a0_2, .bool a0_3, .int .i64 a0_4, .int .i64 a0_5], .agg #[.bool a1_0, .int .i64 a1_1, .int .i64 a1_2, .bool a1_3, .int .i64 a1_4, .int .i64 a1_5]] w fun e w' => e = .returned (.bool r) ∧ Below w.heap.size w w' := by
  have hu25 := Try.underlying25
  have hu29 := Try.underlying29
  have hu23 := Try.underlying23
  have HB := Aside0.mk (Below.refl w.heap.size w)
  have H := h
  clear h
  unfold flyballlaw21_is.f at H
  by_cases c3 : (a0_0 == a1_0 && (a0_1 == a1_1 && (a0_2 == a1_2))) = true
  · rw [if_pos c3] at H
    have c3b0 : (a0_0 == a1_0 && (a0_1 == a1_1 && (a0_2 == a1_2))) = true := c3
    (try (have c3b1 : decide (a0_0 = a1_0 && (a0_1 == a1_1 && (a0_2 == a1_2))) = true := by simpa using c3))
    (try (have c3b2 : (a0_0 == a1_0 && (a0_1 == a1_1 && (a0_2 == a1_2))) = true := by simpa using c3))
    clear c3
    obtain rfl := Option.some.inj H
    go_enter Try.func14, Try.ntmps14
    go_wp2_with (first | ((with_reducible refine gate_dst (N := 2) rfl ?_); refine kx 2 #[.bool a0_0, .int .i64 a0_1, .int .i64 a0_2, .bool a0_3, .int .i64 a0_4, .int .i64 a0_5] 25 ?_; intro gb10151 hg w4 hbox hb; have BK10151 := Aside0.mk (hbox); have GW10151 := kg HB hg; have GE10151 := kg HB hg; replace HB := kh HB hb; clear hb hbox hg) | ((with_reducible refine gate_dst (N := 3) rfl ?_); refine kx 3 #[.bool a1_0, .int .i64 a1_1, .int .i64 a1_2, .bool a1_3, .int .i64 a1_4, .int .i64 a1_5] 29 ?_; intro gb10152 hg w5 hbox hb; have BK10152 := Aside0.mk (hbox); have GW10152 := kg HB hg; have GE10152 := kg HB hg; have NB10151_10152 := kn BK10151 hg; have NB10152_10151 := km BK10151 hg; replace BK10151 := kb BK10151 hb; replace HB := kh HB hb; clear hb hbox hg; have hnb6 := NB10151_10152.out; have hnc6 := NB10152_10151.out; have ⟨hcz7_0, hcz7_1, hcz7_2, hcz7_3, hcz7_4, hcz7_5, hfz7_0, hfz7_1, hfz7_2, hfz7_3, hfz7_4, hfz7_5⟩ := kz6f BK10151; have ⟨hcz8_0, hcz8_1, hcz8_2, hcz8_3, hcz8_4, hcz8_5, hfz8_0, hfz8_1, hfz8_2, hfz8_3, hfz8_4, hfz8_5⟩ := kz6f BK10152))
    go_ret
    exact ⟨pe, pl HB⟩
  · rw [if_neg c3] at H
    have c3b0 : (a0_0 == a1_0 && (a0_1 == a1_1 && (a0_2 == a1_2))) = false := by simpa using c3
    (try (have c3b1 : decide (a0_0 = a1_0 && (a0_1 == a1_1 && (a0_2 == a1_2))) = false := by simpa using c3))
    (try (have c3b2 : (a0_0 == a1_0 && (a0_1 == a1_1 && (a0_2 == a1_2))) = false := by simpa using c3))
    (try (have c3b3 : ¬ (a0_0 = a1_0 && (a0_1 == a1_1 && (a0_2 == a1_2))) := by simpa using c3))
    clear c3
    obtain rfl := Option.some.inj H
    go_enter Try.func14, Try.ntmps14
    go_wp2_with (first | ((with_reducible refine gate_dst (N := 2) rfl ?_); refine kx 2 #[.bool a0_0, .int .i64 a0_1, .int .i64 a0_2, .bool a0_3, .int .i64 a0_4, .int .i64 a0_5] 25 ?_; intro gb10151 hg w9 hbox hb; have BK10151 := Aside0.mk (hbox); have GW10151 := kg HB hg; have GE10151 := kg HB hg; replace HB := kh HB hb; clear hb hbox hg) | ((with_reducible refine gate_dst (N := 3) rfl ?_); refine kx 3 #[.bool a1_0, .int .i64 a1_1, .int .i64 a1_2, .bool a1_3, .int .i64 a1_4, .int .i64 a1_5] 29 ?_; intro gb10152 hg w10 hbox hb; have BK10152 := Aside0.mk (hbox); have GW10152 := kg HB hg; have GE10152 := kg HB hg; have NB10151_10152 := kn BK10151 hg; have NB10152_10151 := km BK10151 hg; replace BK10151 := kb BK10151 hb; replace HB := kh HB hb; clear hb hbox hg; have hnb11 := NB10151_10152.out; have hnc11 := NB10152_10151.out; have ⟨hcz12_0, hcz12_1, hcz12_2, hcz12_3, hcz12_4, hcz12_5, hfz12_0, hfz12_1, hfz12_2, hfz12_3, hfz12_4, hfz12_5⟩ := kz6f BK10151; have ⟨hcz13_0, hcz13_1, hcz13_2, hcz13_3, hcz13_4, hcz13_5, hfz13_0, hfz13_1, hfz13_2, hfz13_3, hfz13_4, hfz13_5⟩ := kz6f BK10152))
    go_ret
    exact ⟨pe, pl HB⟩
/-! ### flyballref21_Norm: function 62 -/
def flyballref21_Norm.f (a0_0 : Bool) (a0_1 : Int) (a0_2 : Int) (a0_3 : Bool) (a0_4 : Int) (a0_5 : Int) : Option (Bool × Int × Int × Bool × Int × Int) := (flyballref17_Norm.f a0_0 a0_1 a0_2).bind fun bt10303 => ((flyballref17_Norm.f a0_3 a0_4 a0_5).bind fun bt10307 => (if bt10303.1 = true then (some (true, 0, 0, true, 0, 0)) else (if bt10307.1 = true then (some (true, 0, 0, true, 0, 0)) else (some (bt10303.1, bt10303.2.1, bt10303.2.2, bt10307.1, bt10307.2.1, bt10307.2.2)))))
set_option maxHeartbeats 8000000 in
set_option maxRecDepth 100000 in
theorem flyballref21_Norm.calls (a0_0 : Bool) (a0_1 : Int) (a0_2 : Int) (a0_3 : Bool) (a0_4 : Int) (a0_5 : Int) (r1 : Bool) (r2 : Int) (r3 : Int) (r4 : Bool) (r5 : Int) (r6 : Int) (w : World) (h : flyballref21_Norm.f a0_0 a0_1 a0_2 a0_3 a0_4 a0_5 = some (r1, r2, r3, r4, r5, r6)) :
    Calls Try.prog 62 #[.agg #[.bool a0_0, .int .i64 a0_1, .int .i64 a0_2, .bool a0_3, .int .i64 a0_4, .int .i64 a0_5]] w fun e w' => e = .returned (.agg #[.bool r1, .int .i64 r2, .int .i64 r3, .bool r4, .int .i64 r5, .int .i64 r6]) ∧ Below w.heap.size w w' := by
  have hu29 := Try.underlying29
  have hu23 := Try.underlying23
  have HB := Aside0.mk (Below.refl w.heap.size w)
  have H := h
  clear h
  unfold flyballref21_Norm.f at H
  obtain ⟨⟨t10303, t10304, t10305⟩, A20, H⟩ := Option.bind_eq_some_iff.mp H
  have A2 := Aside0.mk A20
  clear A20
  (try dsimp only at H)
  obtain ⟨⟨t10307, t10308, t10309⟩, A30, H⟩ := Option.bind_eq_some_iff.mp H
  have A3 := Aside0.mk A30
  clear A30
  (try dsimp only at H)
  by_cases c4 : t10303 = true
  · subst c4
    rw [if_pos rfl] at H
    simp only [Option.some.injEq, Prod.mk.injEq] at H
    obtain ⟨rfl, rfl, rfl, rfl, rfl, rfl⟩ := H
    go_enter Try.func62, Try.ntmps62
    go_wp2_with (first | ((with_reducible refine gate_dst (N := 1) rfl ?_); refine kx 1 #[.bool a0_0, .int .i64 a0_1, .int .i64 a0_2, .bool a0_3, .int .i64 a0_4, .int .i64 a0_5] 29 ?_; intro gb10301 hg w5 hbox hb; have BK10301 := Aside0.mk (hbox); have GW10301 := kg HB hg; have GE10301 := kg HB hg; replace HB := kh HB hb; clear hb hbox hg) | ((with_reducible refine gate_dst (N := 2) rfl ?_); refine kx 2 #[.bool false, .int .i64 0, .int .i64 0, .bool false, .int .i64 0, .int .i64 0] 29 ?_; intro gb10302 hg w6 hbox hb; have BK10302 := Aside0.mk (hbox); have GW10302 := kg HB hg; have GE10302 := kg HB hg; have NB10301_10302 := kn BK10301 hg; have NB10302_10301 := km BK10301 hg; replace BK10301 := kb BK10301 hb; replace HB := kh HB hb; clear hb hbox hg; have hnb7 := NB10301_10302.out; have hnc7 := NB10302_10301.out; have ⟨hcz8_0, hcz8_1, hcz8_2, hcz8_3, hcz8_4, hcz8_5, hfz8_0, hfz8_1, hfz8_2, hfz8_3, hfz8_4, hfz8_5⟩ := kz6f BK10301) | ((with_reducible refine gate_callee (f := 39) rfl ?_); refine kc (some 7) Try.func39 #[.agg #[.bool a0_0, .int .i64 a0_1, .int .i64 a0_2]] (flyballref17_Norm.calls a0_0 a0_1 a0_2 true t10304 t10305 _ A2.out) ?_; intro w9 hb; replace BK10301 := kb BK10301 hb; replace BK10302 := kb BK10302 hb; replace HB := kh HB hb; (try clear hb)) | ((with_reducible refine gate_dst (N := 3) rfl ?_); refine kx 3 #[.bool false, .int .i64 0, .int .i64 0] 23 ?_; intro gb10306 hg w10 hbox hb; have BK10306 := Aside0.mk (hbox); have GW10306 := kg HB hg; have GE10306 := kg HB hg; have NB10301_10306 := kn BK10301 hg; have NB10306_10301 := km BK10301 hg; have NB10302_10306 := kn BK10302 hg; have NB10306_10302 := km BK10302 hg; replace BK10301 := kb BK10301 hb; replace BK10302 := kb BK10302 hb; replace HB := kh HB hb; clear hb hbox hg; have hnb11 := NB10306_10301.out; have hnc11 := NB10301_10306.out; have hnb12 := NB10306_10302.out; have hnc12 := NB10302_10306.out; have ⟨hcz13_0, hcz13_1, hcz13_2, hfz13_0, hfz13_1, hfz13_2⟩ := kz3f BK10306; have ⟨hcz14_0, hcz14_1, hcz14_2, hcz14_3, hcz14_4, hcz14_5, hfz14_0, hfz14_1, hfz14_2, hfz14_3, hfz14_4, hfz14_5⟩ := kz6f BK10301) | ((with_reducible refine gate_callee (f := 39) rfl ?_); refine kc (some 10) Try.func39 #[.agg #[.bool a0_3, .int .i64 a0_4, .int .i64 a0_5]] (flyballref17_Norm.calls a0_3 a0_4 a0_5 t10307 t10308 t10309 _ A3.out) ?_; intro w15 hb; replace BK10301 := kb BK10301 hb; replace BK10302 := kb BK10302 hb; replace BK10306 := kb (o' := .cells #[.bool true, .int .i64 t10304, .int .i64 t10305] 23 (0, 0)) BK10306 hb; replace HB := kh HB hb; (try clear hb)) | ((with_reducible refine gate_dst (N := 4) rfl ?_); refine kx 4 #[.bool false, .int .i64 0, .int .i64 0] 23 ?_; intro gb10310 hg w16 hbox hb; have BK10310 := Aside0.mk (hbox); have GW10310 := kg HB hg; have GE10310 := kg HB hg; have NB10301_10310 := kn BK10301 hg; have NB10310_10301 := km BK10301 hg; have NB10302_10310 := kn BK10302 hg; have NB10310_10302 := km BK10302 hg; have NB10306_10310 := kn BK10306 hg; have NB10310_10306 := km BK10306 hg; replace BK10301 := kb BK10301 hb; replace BK10302 := kb BK10302 hb; replace BK10306 := kb BK10306 hb; replace HB := kh HB hb; clear hb hbox hg; have hnb17 := NB10310_10301.out; have hnc17 := NB10301_10310.out; have hnb18 := NB10310_10302.out; have hnc18 := NB10302_10310.out; have hnb19 := NB10310_10306.out; have hnc19 := NB10306_10310.out; have ⟨hcz20_0, hcz20_1, hcz20_2, hfz20_0, hfz20_1, hfz20_2⟩ := kz3f BK10310; have ⟨hcz21_0, hcz21_1, hcz21_2, hfz21_0, hfz21_1, hfz21_2⟩ := kz3f BK10306; have ⟨hcz22_0, hcz22_1, hcz22_2, hcz22_3, hcz22_4, hcz22_5, hfz22_0, hfz22_1, hfz22_2, hfz22_3, hfz22_4, hfz22_5⟩ := kz6f BK10302))
    refine bodyPost_ret (results_cell_row rfl _ _ gb10302 29 #[.bool true, .int .i64 0, .int .i64 0, .bool true, .int .i64 0, .int .i64 0] (0, 0) _ rfl (pK BK10302) Try.underlying29 rfl (by kernel_rfl)) rfl ?_
    exact ⟨pe, pl HB⟩
  · replace c4 := Bool.eq_false_iff.mpr c4
    subst c4
    rw [if_neg (show ¬ (false = true) by decide)] at H
    by_cases c23 : t10307 = true
    · subst c23
      rw [if_pos rfl] at H
      simp only [Option.some.injEq, Prod.mk.injEq] at H
      obtain ⟨rfl, rfl, rfl, rfl, rfl, rfl⟩ := H
      go_enter Try.func62, Try.ntmps62
      go_wp2_with (first | ((with_reducible refine gate_dst (N := 1) rfl ?_); refine kx 1 #[.bool a0_0, .int .i64 a0_1, .int .i64 a0_2, .bool a0_3, .int .i64 a0_4, .int .i64 a0_5] 29 ?_; intro gb10301 hg w24 hbox hb; have BK10301 := Aside0.mk (hbox); have GW10301 := kg HB hg; have GE10301 := kg HB hg; replace HB := kh HB hb; clear hb hbox hg) | ((with_reducible refine gate_dst (N := 2) rfl ?_); refine kx 2 #[.bool false, .int .i64 0, .int .i64 0, .bool false, .int .i64 0, .int .i64 0] 29 ?_; intro gb10302 hg w25 hbox hb; have BK10302 := Aside0.mk (hbox); have GW10302 := kg HB hg; have GE10302 := kg HB hg; have NB10301_10302 := kn BK10301 hg; have NB10302_10301 := km BK10301 hg; replace BK10301 := kb BK10301 hb; replace HB := kh HB hb; clear hb hbox hg; have hnb26 := NB10301_10302.out; have hnc26 := NB10302_10301.out; have ⟨hcz27_0, hcz27_1, hcz27_2, hcz27_3, hcz27_4, hcz27_5, hfz27_0, hfz27_1, hfz27_2, hfz27_3, hfz27_4, hfz27_5⟩ := kz6f BK10301) | ((with_reducible refine gate_callee (f := 39) rfl ?_); refine kc (some 7) Try.func39 #[.agg #[.bool a0_0, .int .i64 a0_1, .int .i64 a0_2]] (flyballref17_Norm.calls a0_0 a0_1 a0_2 false t10304 t10305 _ A2.out) ?_; intro w28 hb; replace BK10301 := kb BK10301 hb; replace BK10302 := kb BK10302 hb; replace HB := kh HB hb; (try clear hb)) | ((with_reducible refine gate_dst (N := 3) rfl ?_); refine kx 3 #[.bool false, .int .i64 0, .int .i64 0] 23 ?_; intro gb10306 hg w29 hbox hb; have BK10306 := Aside0.mk (hbox); have GW10306 := kg HB hg; have GE10306 := kg HB hg; have NB10301_10306 := kn BK10301 hg; have NB10306_10301 := km BK10301 hg; have NB10302_10306 := kn BK10302 hg; have NB10306_10302 := km BK10302 hg; replace BK10301 := kb BK10301 hb; replace BK10302 := kb BK10302 hb; replace HB := kh HB hb; clear hb hbox hg; have hnb30 := NB10306_10301.out; have hnc30 := NB10301_10306.out; have hnb31 := NB10306_10302.out; have hnc31 := NB10302_10306.out; have ⟨hcz32_0, hcz32_1, hcz32_2, hfz32_0, hfz32_1, hfz32_2⟩ := kz3f BK10306; have ⟨hcz33_0, hcz33_1, hcz33_2, hcz33_3, hcz33_4, hcz33_5, hfz33_0, hfz33_1, hfz33_2, hfz33_3, hfz33_4, hfz33_5⟩ := kz6f BK10301) | ((with_reducible refine gate_callee (f := 39) rfl ?_); refine kc (some 10) Try.func39 #[.agg #[.bool a0_3, .int .i64 a0_4, .int .i64 a0_5]] (flyballref17_Norm.calls a0_3 a0_4 a0_5 true t10308 t10309 _ A3.out) ?_; intro w34 hb; replace BK10301 := kb BK10301 hb; replace BK10302 := kb BK10302 hb; replace BK10306 := kb (o' := .cells #[.bool false, .int .i64 t10304, .int .i64 t10305] 23 (0, 0)) BK10306 hb; replace HB := kh HB hb; (try clear hb)) | ((with_reducible refine gate_dst (N := 4) rfl ?_); refine kx 4 #[.bool false, .int .i64 0, .int .i64 0] 23 ?_; intro gb10310 hg w35 hbox hb; have BK10310 := Aside0.mk (hbox); have GW10310 := kg HB hg; have GE10310 := kg HB hg; have NB10301_10310 := kn BK10301 hg; have NB10310_10301 := km BK10301 hg; have NB10302_10310 := kn BK10302 hg; have NB10310_10302 := km BK10302 hg; have NB10306_10310 := kn BK10306 hg; have NB10310_10306 := km BK10306 hg; replace BK10301 := kb BK10301 hb; replace BK10302 := kb BK10302 hb; replace BK10306 := kb BK10306 hb; replace HB := kh HB hb; clear hb hbox hg; have hnb36 := NB10310_10301.out; have hnc36 := NB10301_10310.out; have hnb37 := NB10310_10302.out; have hnc37 := NB10302_10310.out; have hnb38 := NB10310_10306.out; have hnc38 := NB10306_10310.out; have ⟨hcz39_0, hcz39_1, hcz39_2, hfz39_0, hfz39_1, hfz39_2⟩ := kz3f BK10310; have ⟨hcz40_0, hcz40_1, hcz40_2, hfz40_0, hfz40_1, hfz40_2⟩ := kz3f BK10306; have ⟨hcz41_0, hcz41_1, hcz41_2, hcz41_3, hcz41_4, hcz41_5, hfz41_0, hfz41_1, hfz41_2, hfz41_3, hfz41_4, hfz41_5⟩ := kz6f BK10302))
      refine bodyPost_ret (results_cell_row rfl _ _ gb10302 29 #[.bool true, .int .i64 0, .int .i64 0, .bool true, .int .i64 0, .int .i64 0] (0, 0) _ rfl (pK BK10302) Try.underlying29 rfl (by kernel_rfl)) rfl ?_
      exact ⟨pe, pl HB⟩
    · replace c23 := Bool.eq_false_iff.mpr c23
      subst c23
      rw [if_neg (show ¬ (false = true) by decide)] at H
      simp only [Option.some.injEq, Prod.mk.injEq] at H
      obtain ⟨rfl, rfl, rfl, rfl, rfl, rfl⟩ := H
      go_enter Try.func62, Try.ntmps62
      go_wp2_with (first | ((with_reducible refine gate_dst (N := 1) rfl ?_); refine kx 1 #[.bool a0_0, .int .i64 a0_1, .int .i64 a0_2, .bool a0_3, .int .i64 a0_4, .int .i64 a0_5] 29 ?_; intro gb10301 hg w42 hbox hb; have BK10301 := Aside0.mk (hbox); have GW10301 := kg HB hg; have GE10301 := kg HB hg; replace HB := kh HB hb; clear hb hbox hg) | ((with_reducible refine gate_dst (N := 2) rfl ?_); refine kx 2 #[.bool false, .int .i64 0, .int .i64 0, .bool false, .int .i64 0, .int .i64 0] 29 ?_; intro gb10302 hg w43 hbox hb; have BK10302 := Aside0.mk (hbox); have GW10302 := kg HB hg; have GE10302 := kg HB hg; have NB10301_10302 := kn BK10301 hg; have NB10302_10301 := km BK10301 hg; replace BK10301 := kb BK10301 hb; replace HB := kh HB hb; clear hb hbox hg; have hnb44 := NB10301_10302.out; have hnc44 := NB10302_10301.out; have ⟨hcz45_0, hcz45_1, hcz45_2, hcz45_3, hcz45_4, hcz45_5, hfz45_0, hfz45_1, hfz45_2, hfz45_3, hfz45_4, hfz45_5⟩ := kz6f BK10301) | ((with_reducible refine gate_callee (f := 39) rfl ?_); refine kc (some 7) Try.func39 #[.agg #[.bool a0_0, .int .i64 a0_1, .int .i64 a0_2]] (flyballref17_Norm.calls a0_0 a0_1 a0_2 false t10304 t10305 _ A2.out) ?_; intro w46 hb; replace BK10301 := kb BK10301 hb; replace BK10302 := kb BK10302 hb; replace HB := kh HB hb; (try clear hb)) | ((with_reducible refine gate_dst (N := 3) rfl ?_); refine kx 3 #[.bool false, .int .i64 0, .int .i64 0] 23 ?_; intro gb10306 hg w47 hbox hb; have BK10306 := Aside0.mk (hbox); have GW10306 := kg HB hg; have GE10306 := kg HB hg; have NB10301_10306 := kn BK10301 hg; have NB10306_10301 := km BK10301 hg; have NB10302_10306 := kn BK10302 hg; have NB10306_10302 := km BK10302 hg; replace BK10301 := kb BK10301 hb; replace BK10302 := kb BK10302 hb; replace HB := kh HB hb; clear hb hbox hg; have hnb48 := NB10306_10301.out; have hnc48 := NB10301_10306.out; have hnb49 := NB10306_10302.out; have hnc49 := NB10302_10306.out; have ⟨hcz50_0, hcz50_1, hcz50_2, hfz50_0, hfz50_1, hfz50_2⟩ := kz3f BK10306; have ⟨hcz51_0, hcz51_1, hcz51_2, hcz51_3, hcz51_4, hcz51_5, hfz51_0, hfz51_1, hfz51_2, hfz51_3, hfz51_4, hfz51_5⟩ := kz6f BK10301) | ((with_reducible refine gate_callee (f := 39) rfl ?_); refine kc (some 10) Try.func39 #[.agg #[.bool a0_3, .int .i64 a0_4, .int .i64 a0_5]] (flyballref17_Norm.calls a0_3 a0_4 a0_5 false t10308 t10309 _ A3.out) ?_; intro w52 hb; replace BK10301 := kb BK10301 hb; replace BK10302 := kb BK10302 hb; replace BK10306 := kb (o' := .cells #[.bool false, .int .i64 t10304, .int .i64 t10305] 23 (0, 0)) BK10306 hb; replace HB := kh HB hb; (try clear hb)) | ((with_reducible refine gate_dst (N := 4) rfl ?_); refine kx 4 #[.bool false, .int .i64 0, .int .i64 0] 23 ?_; intro gb10310 hg w53 hbox hb; have BK10310 := Aside0.mk (hbox); have GW10310 := kg HB hg; have GE10310 := kg HB hg; have NB10301_10310 := kn BK10301 hg; have NB10310_10301 := km BK10301 hg; have NB10302_10310 := kn BK10302 hg; have NB10310_10302 := km BK10302 hg; have NB10306_10310 := kn BK10306 hg; have NB10310_10306 := km BK10306 hg; replace BK10301 := kb BK10301 hb; replace BK10302 := kb BK10302 hb; replace BK10306 := kb BK10306 hb; replace HB := kh HB hb; clear hb hbox hg; have hnb54 := NB10310_10301.out; have hnc54 := NB10301_10310.out; have hnb55 := NB10310_10302.out; have hnc55 := NB10302_10310.out; have hnb56 := NB10310_10306.out; have hnc56 := NB10306_10310.out; have ⟨hcz57_0, hcz57_1, hcz57_2, hfz57_0, hfz57_1, hfz57_2⟩ := kz3f BK10310; have ⟨hcz58_0, hcz58_1, hcz58_2, hfz58_0, hfz58_1, hfz58_2⟩ := kz3f BK10306; have ⟨hcz59_0, hcz59_1, hcz59_2, hcz59_3, hcz59_4, hcz59_5, hfz59_0, hfz59_1, hfz59_2, hfz59_3, hfz59_4, hfz59_5⟩ := kz6f BK10302))
      refine bodyPost_ret (results_cell_row rfl _ _ gb10302 29 #[.bool false, .int .i64 t10304, .int .i64 t10305, .bool false, .int .i64 t10308, .int .i64 t10309] (0, 0) _ rfl (pK BK10302) Try.underlying29 rfl (by kernel_rfl)) rfl ?_
      exact ⟨pe, pl HB⟩
end Go.Proofs.Ytinmgnlofininaa.PAll
end
