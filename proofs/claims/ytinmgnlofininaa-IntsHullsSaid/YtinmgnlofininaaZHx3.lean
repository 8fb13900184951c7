/- Functions of the print, turned to this claim. -/
import Derived.Test.YtinmgnlofininaaZHW
import Derived.Test.YtinmgnlofininaaZHx0
section
namespace Go.Proofs.Ytinmgnlofininaa.PAll
open Go.RowKit Go.Proofs.YtinmgnlofininaaW.PrintWords Go.Proofs.YtinmgnlofininaaW.PrintLast Go.Proofs.YtinmgnlofininaaW.PrintMore
attribute [local go_sem] max2_int min2_int max_two min_two max_three min_three max_four min_four   -- for this text's walks alone
set_option linter.unusedVariables false
set_option linter.unusedSimpArgs false
/-! ### ints_none: function 70 -/
def ints_none.f  : Option (Bool × Int × Int) := some (true, 0, 0)
set_option maxHeartbeats 8000000 in
set_option maxRecDepth 100000 in
theorem ints_none.calls  (r1 : Bool) (r2 : Int) (r3 : Int) (w : World) (h : ints_none.f  = some (r1, r2, r3)) :
    Calls Try.prog 70 #[] w fun e w' => e = .returned (.agg #[.bool r1, .int .i64 r2, .int .i64 r3]) ∧ Below w.heap.size w w' := by
  have hu23 := Try.underlying23
  have HB := Aside0.mk (Below.refl w.heap.size w)
  have H := h
  clear h
  unfold ints_none.f at H
  simp only [Option.some.injEq, Prod.mk.injEq] at H
  obtain ⟨rfl, rfl, rfl⟩ := H
  go_enter Try.func70, Try.ntmps70
  go_wp2_with (first | ((with_reducible refine gate_dst (N := 0) rfl ?_); refine kx 0 #[.bool false, .int .i64 0, .int .i64 0] 23 ?_; intro gb101 hg w1 hbox hb; have BK101 := Aside0.mk (hbox); have GW101 := kg HB hg; have GE101 := kg HB hg; replace HB := kh HB hb; clear hb hbox hg; have ⟨hcz2_0, hcz2_1, hcz2_2, hfz2_0, hfz2_1, hfz2_2⟩ := kz3f BK101))
  refine bodyPost_ret (results_cell_row rfl _ _ gb101 23 #[.bool true, .int .i64 0, .int .i64 0] (0, 0) _ rfl (pK BK101) Try.underlying23 rfl (by kernel_rfl)) rfl ?_
  exact ⟨pe, pl HB⟩
/-! ### ints_norm: function 68 -/
def ints_norm.f (a0_0 : Bool) (a0_1 : Int) (a0_2 : Int) : Option (Bool × Int × Int) := if a0_0 = true then ((ints_none.f).bind fun bt253 => (some (bt253.1, bt253.2.1, bt253.2.2))) else (if a0_1 > a0_2 then ((ints_none.f).bind fun bt256 => (some (bt256.1, bt256.2.1, bt256.2.2))) else (if a0_1 ≥ 1099511627776 then ((ints_none.f).bind fun bt259 => (some (bt259.1, bt259.2.1, bt259.2.2))) else (if a0_2 ≤ (-1099511627776) then ((ints_none.f).bind fun bt262 => (some (bt262.1, bt262.2.1, bt262.2.2))) else (some (false, mx a0_1 (-1099511627776), mn a0_2 1099511627776)))))
set_option maxHeartbeats 8000000 in
set_option maxRecDepth 100000 in
theorem ints_norm.calls (a0_0 : Bool) (a0_1 : Int) (a0_2 : Int) (r1 : Bool) (r2 : Int) (r3 : Int) (w : World) (h : ints_norm.f a0_0 a0_1 a0_2 = some (r1, r2, r3)) :
    Calls Try.prog 68 #[.agg #[.bool a0_0, .int .i64 a0_1, .int .i64 a0_2]] w fun e w' => e = .returned (.agg #[.bool r1, .int .i64 r2, .int .i64 r3]) ∧ Below w.heap.size w w' := by
  have hu23 := Try.underlying23
  have HB := Aside0.mk (Below.refl w.heap.size w)
  have H := h
  clear h
  unfold ints_norm.f at H
  by_cases c2 : a0_0 = true
  · subst c2
    rw [if_pos rfl] at H
    obtain ⟨⟨t253, t254, t255⟩, A30, H⟩ := Option.bind_eq_some_iff.mp H
    have A3 := Aside0.mk A30
    clear A30
    (try dsimp only at H)
    simp only [Option.some.injEq, Prod.mk.injEq] at H
    obtain ⟨rfl, rfl, rfl⟩ := H
    go_enter Try.func68, Try.ntmps68
    go_wp2_with (first | ((with_reducible refine gate_dst (N := 1) rfl ?_); refine kx 1 #[.bool true, .int .i64 a0_1, .int .i64 a0_2] 23 ?_; intro gb251 hg w4 hbox hb; have BK251 := Aside0.mk (hbox); have GW251 := kg HB hg; have GE251 := kg HB hg; replace HB := kh HB hb; clear hb hbox hg) | ((with_reducible refine gate_dst (N := 2) rfl ?_); refine kx 2 #[.bool false, .int .i64 0, .int .i64 0] 23 ?_; intro gb252 hg w5 hbox hb; have BK252 := Aside0.mk (hbox); have GW252 := kg HB hg; have GE252 := kg HB hg; have NB251_252 := kn BK251 hg; have NB252_251 := km BK251 hg; replace BK251 := kb BK251 hb; replace HB := kh HB hb; clear hb hbox hg; have hnb6 := NB251_252.out; have hnc6 := NB252_251.out; have ⟨hcz7_0, hcz7_1, hcz7_2, hfz7_0, hfz7_1, hfz7_2⟩ := kz3f BK251) | ((with_reducible refine gate_callee (f := 70) rfl ?_); refine kc (some 22) Try.func70 #[] (ints_none.calls  t253 t254 t255 _ A3.out) ?_; intro w8 hb; replace BK251 := kb BK251 hb; replace BK252 := kb BK252 hb; replace HB := kh HB hb; (try clear hb); have ⟨hcz9_0, hcz9_1, hcz9_2, hfz9_0, hfz9_1, hfz9_2⟩ := kz3f BK252))
    refine bodyPost_ret (results_cell_row rfl _ _ gb252 23 #[.bool t253, .int .i64 t254, .int .i64 t255] (0, 0) _ rfl (pK BK252) Try.underlying23 rfl (by kernel_rfl)) rfl ?_
    exact ⟨pe, pl HB⟩
  · replace c2 := Bool.eq_false_iff.mpr c2
    subst c2
    rw [if_neg (show ¬ (false = true) by decide)] at H
    by_cases c10 : a0_1 > a0_2
    · rw [if_pos c10] at H
      have c10b0 : decide (a0_2 < a0_1) = true := decide_eq_true c10
      clear c10
      obtain ⟨⟨t256, t257, t258⟩, A110, H⟩ := Option.bind_eq_some_iff.mp H
      have A11 := Aside0.mk A110
      clear A110
      (try dsimp only at H)
      simp only [Option.some.injEq, Prod.mk.injEq] at H
      obtain ⟨rfl, rfl, rfl⟩ := H
      go_enter Try.func68, Try.ntmps68
      go_wp2_with (first | ((with_reducible refine gate_dst (N := 1) rfl ?_); refine kx 1 #[.bool false, .int .i64 a0_1, .int .i64 a0_2] 23 ?_; intro gb251 hg w12 hbox hb; have BK251 := Aside0.mk (hbox); have GW251 := kg HB hg; have GE251 := kg HB hg; replace HB := kh HB hb; clear hb hbox hg) | ((with_reducible refine gate_dst (N := 2) rfl ?_); refine kx 2 #[.bool false, .int .i64 0, .int .i64 0] 23 ?_; intro gb252 hg w13 hbox hb; have BK252 := Aside0.mk (hbox); have GW252 := kg HB hg; have GE252 := kg HB hg; have NB251_252 := kn BK251 hg; have NB252_251 := km BK251 hg; replace BK251 := kb BK251 hb; replace HB := kh HB hb; clear hb hbox hg; have hnb14 := NB251_252.out; have hnc14 := NB252_251.out; have ⟨hcz15_0, hcz15_1, hcz15_2, hfz15_0, hfz15_1, hfz15_2⟩ := kz3f BK251) | ((with_reducible refine gate_callee (f := 70) rfl ?_); refine kc (some 22) Try.func70 #[] (ints_none.calls  t256 t257 t258 _ A11.out) ?_; intro w16 hb; replace BK251 := kb BK251 hb; replace BK252 := kb BK252 hb; replace HB := kh HB hb; (try clear hb); have ⟨hcz17_0, hcz17_1, hcz17_2, hfz17_0, hfz17_1, hfz17_2⟩ := kz3f BK252))
      refine bodyPost_ret (results_cell_row rfl _ _ gb252 23 #[.bool t256, .int .i64 t257, .int .i64 t258] (0, 0) _ rfl (pK BK252) Try.underlying23 rfl (by kernel_rfl)) rfl ?_
      exact ⟨pe, pl HB⟩
    · rw [if_neg c10] at H
      have c10b0 : decide (a0_2 < a0_1) = false := decide_eq_false c10
      clear c10
      by_cases c18 : a0_1 ≥ 1099511627776
      · rw [if_pos c18] at H
        have c18b0 : decide (1099511627776 ≤ a0_1) = true := decide_eq_true c18
        clear c18
        obtain ⟨⟨t259, t260, t261⟩, A190, H⟩ := Option.bind_eq_some_iff.mp H
        have A19 := Aside0.mk A190
        clear A190
        (try dsimp only at H)
        simp only [Option.some.injEq, Prod.mk.injEq] at H
        obtain ⟨rfl, rfl, rfl⟩ := H
        go_enter Try.func68, Try.ntmps68
        go_wp2_with (first | ((with_reducible refine gate_dst (N := 1) rfl ?_); refine kx 1 #[.bool false, .int .i64 a0_1, .int .i64 a0_2] 23 ?_; intro gb251 hg w20 hbox hb; have BK251 := Aside0.mk (hbox); have GW251 := kg HB hg; have GE251 := kg HB hg; replace HB := kh HB hb; clear hb hbox hg) | ((with_reducible refine gate_dst (N := 2) rfl ?_); refine kx 2 #[.bool false, .int .i64 0, .int .i64 0] 23 ?_; intro gb252 hg w21 hbox hb; have BK252 := Aside0.mk (hbox); have GW252 := kg HB hg; have GE252 := kg HB hg; have NB251_252 := kn BK251 hg; have NB252_251 := km BK251 hg; replace BK251 := kb BK251 hb; replace HB := kh HB hb; clear hb hbox hg; have hnb22 := NB251_252.out; have hnc22 := NB252_251.out; have ⟨hcz23_0, hcz23_1, hcz23_2, hfz23_0, hfz23_1, hfz23_2⟩ := kz3f BK251) | ((with_reducible refine gate_callee (f := 70) rfl ?_); refine kc (some 22) Try.func70 #[] (ints_none.calls  t259 t260 t261 _ A19.out) ?_; intro w24 hb; replace BK251 := kb BK251 hb; replace BK252 := kb BK252 hb; replace HB := kh HB hb; (try clear hb); have ⟨hcz25_0, hcz25_1, hcz25_2, hfz25_0, hfz25_1, hfz25_2⟩ := kz3f BK252))
        refine bodyPost_ret (results_cell_row rfl _ _ gb252 23 #[.bool t259, .int .i64 t260, .int .i64 t261] (0, 0) _ rfl (pK BK252) Try.underlying23 rfl (by kernel_rfl)) rfl ?_
        exact ⟨pe, pl HB⟩
      · rw [if_neg c18] at H
        have c18b0 : decide (1099511627776 ≤ a0_1) = false := decide_eq_false c18
        clear c18
        by_cases c26 : a0_2 ≤ (-1099511627776)
        · rw [if_pos c26] at H
          have c26b0 : decide (a0_2 ≤ (-1099511627776)) = true := decide_eq_true c26
          clear c26
          obtain ⟨⟨t262, t263, t264⟩, A270, H⟩ := Option.bind_eq_some_iff.mp H
          have A27 := Aside0.mk A270
          clear A270
          (try dsimp only at H)
          simp only [Option.some.injEq, Prod.mk.injEq] at H
          obtain ⟨rfl, rfl, rfl⟩ := H
          go_enter Try.func68, Try.ntmps68
          go_wp2_with (first | ((with_reducible refine gate_dst (N := 1) rfl ?_); refine kx 1 #[.bool false, .int .i64 a0_1, .int .i64 a0_2] 23 ?_; intro gb251 hg w28 hbox hb; have BK251 := Aside0.mk (hbox); have GW251 := kg HB hg; have GE251 := kg HB hg; replace HB := kh HB hb; clear hb hbox hg) | ((with_reducible refine gate_dst (N := 2) rfl ?_); refine kx 2 #[.bool false, .int .i64 0, .int .i64 0] 23 ?_; intro gb252 hg w29 hbox hb; have BK252 := Aside0.mk (hbox); have GW252 := kg HB hg; have GE252 := kg HB hg; have NB251_252 := kn BK251 hg; have NB252_251 := km BK251 hg; replace BK251 := kb BK251 hb; replace HB := kh HB hb; clear hb hbox hg; have hnb30 := NB251_252.out; have hnc30 := NB252_251.out; have ⟨hcz31_0, hcz31_1, hcz31_2, hfz31_0, hfz31_1, hfz31_2⟩ := kz3f BK251) | ((with_reducible refine gate_callee (f := 70) rfl ?_); refine kc (some 22) Try.func70 #[] (ints_none.calls  t262 t263 t264 _ A27.out) ?_; intro w32 hb; replace BK251 := kb BK251 hb; replace BK252 := kb BK252 hb; replace HB := kh HB hb; (try clear hb); have ⟨hcz33_0, hcz33_1, hcz33_2, hfz33_0, hfz33_1, hfz33_2⟩ := kz3f BK252))
          refine bodyPost_ret (results_cell_row rfl _ _ gb252 23 #[.bool t262, .int .i64 t263, .int .i64 t264] (0, 0) _ rfl (pK BK252) Try.underlying23 rfl (by kernel_rfl)) rfl ?_
          exact ⟨pe, pl HB⟩
        · rw [if_neg c26] at H
          have c26b0 : decide (a0_2 ≤ (-1099511627776)) = false := decide_eq_false c26
          clear c26
          obtain ⟨ji34, hji34⟩ : ∃ j_ : Int, (mx a0_1 (-1099511627776)) = j_ := ⟨_, rfl⟩
          replace H : (some (false, ji34, mn a0_2 1099511627776)) = some (r1, r2, r3) := by first | (rw [hji34] at H; exact H) | (simp only [hji34] at H ⊢; exact H)
          have hji34_ : (if a0_1 < (-1099511627776) then (-1099511627776) else a0_1) = ji34 := hji34
          obtain ⟨ji35, hji35⟩ : ∃ j_ : Int, (mn a0_2 1099511627776) = j_ := ⟨_, rfl⟩
          replace H : (some (false, ji34, ji35)) = some (r1, r2, r3) := by first | (rw [hji35] at H; exact H) | (simp only [hji35] at H ⊢; exact H)
          (try (have hji35h : ji35 ≤ 1099511627776 := by (rw [← hji35]; unfold mn; (repeat' split) <;> omega)))
          (try (have hji35g : ji35 ≤ 64 := by omega))
          have hji35_ : (if 1099511627776 < a0_2 then 1099511627776 else a0_2) = ji35 := hji35
          simp only [Option.some.injEq, Prod.mk.injEq] at H
          obtain ⟨rfl, rfl, rfl⟩ := H
          go_enter Try.func68, Try.ntmps68
          go_wp2_with (first | ((with_reducible refine gate_dst (N := 1) rfl ?_); refine kx 1 #[.bool false, .int .i64 a0_1, .int .i64 a0_2] 23 ?_; intro gb251 hg w36 hbox hb; have BK251 := Aside0.mk (hbox); have GW251 := kg HB hg; have GE251 := kg HB hg; replace HB := kh HB hb; clear hb hbox hg) | ((with_reducible refine gate_dst (N := 2) rfl ?_); refine kx 2 #[.bool false, .int .i64 0, .int .i64 0] 23 ?_; intro gb252 hg w37 hbox hb; have BK252 := Aside0.mk (hbox); have GW252 := kg HB hg; have GE252 := kg HB hg; have NB251_252 := kn BK251 hg; have NB252_251 := km BK251 hg; replace BK251 := kb BK251 hb; replace HB := kh HB hb; clear hb hbox hg; have hnb38 := NB251_252.out; have hnc38 := NB252_251.out; have ⟨hcz39_0, hcz39_1, hcz39_2, hfz39_0, hfz39_1, hfz39_2⟩ := kz3f BK251; have ⟨hcz40_0, hcz40_1, hcz40_2, hfz40_0, hfz40_1, hfz40_2⟩ := kz3f BK252))
          refine bodyPost_ret (results_cell_row rfl _ _ gb252 23 #[.bool false, .int .i64 ji34, .int .i64 ji35] (0, 0) _ rfl (pK BK252) Try.underlying23 rfl (by kernel_rfl)) rfl ?_
          exact ⟨by first | rfl | (simp [errW_none, errW_some] <;> rfl) | (simp only [← hji34, ← hji35]; first | rfl | (simp [errW_none, errW_some] <;> rfl)) | (simp [*, errW_none, errW_some] <;> rfl), pl HB⟩
/-! ### ints_Make: function 37 -/
def ints_Make.f (a0 : Int) (a1 : Int) : Option (Bool × Int × Int) := (ints_norm.f false a0 a1).bind fun bt402 => (some (bt402.1, bt402.2.1, bt402.2.2))
set_option maxHeartbeats 8000000 in
set_option maxRecDepth 100000 in
theorem ints_Make.calls (a0 : Int) (a1 : Int) (r1 : Bool) (r2 : Int) (r3 : Int) (w : World) (h : ints_Make.f a0 a1 = some (r1, r2, r3)) :
    Calls Try.prog 37 #[.int .i64 a0, .int .i64 a1] w fun e w' => e = .returned (.agg #[.bool r1, .int .i64 r2, .int .i64 r3]) ∧ Below w.heap.size w w' := by
  have hu23 := Try.underlying23
  have HB := Aside0.mk (Below.refl w.heap.size w)
  have H := h
  clear h
  unfold ints_Make.f at H
  obtain ⟨⟨t402, t403, t404⟩, A30, H⟩ := Option.bind_eq_some_iff.mp H
  have A3 := Aside0.mk A30
  clear A30
  (try dsimp only at H)
  simp only [Option.some.injEq, Prod.mk.injEq] at H
  obtain ⟨rfl, rfl, rfl⟩ := H
  go_enter Try.func37, Try.ntmps37
  go_wp2_with (first | ((with_reducible refine gate_dst (N := 4) rfl ?_); refine kx 4 #[.bool false, .int .i64 0, .int .i64 0] 23 ?_; intro gb401 hg w4 hbox hb; have BK401 := Aside0.mk (hbox); have GW401 := kg HB hg; have GE401 := kg HB hg; replace HB := kh HB hb; clear hb hbox hg) | ((with_reducible refine gate_callee (f := 68) rfl ?_); refine kc (some 8) Try.func68 #[.agg #[.bool false, .int .i64 a0, .int .i64 a1]] (ints_norm.calls false a0 a1 t402 t403 t404 _ A3.out) ?_; intro w5 hb; replace BK401 := kb BK401 hb; replace HB := kh HB hb; (try clear hb); have ⟨hcz6_0, hcz6_1, hcz6_2, hfz6_0, hfz6_1, hfz6_2⟩ := kz3f BK401))
  refine bodyPost_ret (results_cell_row rfl _ _ gb401 23 #[.bool t402, .int .i64 t403, .int .i64 t404] (0, 0) _ rfl (pK BK401) Try.underlying23 rfl (by kernel_rfl)) rfl ?_
  exact ⟨pe, pl HB⟩
/-! ### ints_Point: function 35 -/
def ints_Point.f (a0 : Int) : Option (Bool × Int × Int) := (ints_Make.f a0 a0).bind fun bt552 => (some (bt552.1, bt552.2.1, bt552.2.2))
set_option maxHeartbeats 8000000 in
set_option maxRecDepth 100000 in
theorem ints_Point.calls (a0 : Int) (r1 : Bool) (r2 : Int) (r3 : Int) (w : World) (h : ints_Point.f a0 = some (r1, r2, r3)) :
    Calls Try.prog 35 #[.int .i64 a0] w fun e w' => e = .returned (.agg #[.bool r1, .int .i64 r2, .int .i64 r3]) ∧ Below w.heap.size w w' := by
  have hu23 := Try.underlying23
  have HB := Aside0.mk (Below.refl w.heap.size w)
  have H := h
  clear h
  unfold ints_Point.f at H
  obtain ⟨⟨t552, t553, t554⟩, A20, H⟩ := Option.bind_eq_some_iff.mp H
  have A2 := Aside0.mk A20
  clear A20
  (try dsimp only at H)
  simp only [Option.some.injEq, Prod.mk.injEq] at H
  obtain ⟨rfl, rfl, rfl⟩ := H
  go_enter Try.func35, Try.ntmps35
  go_wp2_with (first | ((with_reducible refine gate_dst (N := 2) rfl ?_); refine kx 2 #[.bool false, .int .i64 0, .int .i64 0] 23 ?_; intro gb551 hg w3 hbox hb; have BK551 := Aside0.mk (hbox); have GW551 := kg HB hg; have GE551 := kg HB hg; replace HB := kh HB hb; clear hb hbox hg) | ((with_reducible refine gate_callee (f := 37) rfl ?_); refine kc (some 5) Try.func37 #[.int .i64 a0, .int .i64 a0] (ints_Make.calls a0 a0 t552 t553 t554 _ A2.out) ?_; intro w4 hb; replace BK551 := kb BK551 hb; replace HB := kh HB hb; (try clear hb); have ⟨hcz5_0, hcz5_1, hcz5_2, hfz5_0, hfz5_1, hfz5_2⟩ := kz3f BK551))
  refine bodyPost_ret (results_cell_row rfl _ _ gb551 23 #[.bool t552, .int .i64 t553, .int .i64 t554] (0, 0) _ rfl (pK BK551) Try.underlying23 rfl (by kernel_rfl)) rfl ?_
  exact ⟨pe, pl HB⟩
/-! ### ints_Has: function 36 -/
def ints_Has.f (a0_0 : Bool) (a0_1 : Int) (a0_2 : Int) (a1 : Int) : Option (Bool) := (ints_norm.f a0_0 a0_1 a0_2).bind fun bt702 => (if bt702.1 = true then (some false) else (if bt702.2.1 = (-1099511627776) then (if bt702.2.2 = 1099511627776 then (some true) else (some (decide (a1 ≤ bt702.2.2)))) else (if a1 ≥ bt702.2.1 then (if bt702.2.2 = 1099511627776 then (some true) else (some (decide (a1 ≤ bt702.2.2)))) else (some false))))
set_option maxHeartbeats 8000000 in
set_option maxRecDepth 100000 in
theorem ints_Has.calls (a0_0 : Bool) (a0_1 : Int) (a0_2 : Int) (a1 : Int) (r : Bool) (w : World) (h : ints_Has.f a0_0 a0_1 a0_2 a1 = some r) :
    Calls Try.prog 36 #[.agg #[.bool a0_0, .int .i64 a0_1, .int .i64 a0_2], .int .i64 a1] w fun e w' => e = .returned (.bool r) ∧ Below w.heap.size w w' := by
  have hu23 := Try.underlying23
  have HB := Aside0.mk (Below.refl w.heap.size w)
  have H := h
  clear h
  unfold ints_Has.f at H
  obtain ⟨⟨t702, t703, t704⟩, A30, H⟩ := Option.bind_eq_some_iff.mp H
  have A3 := Aside0.mk A30
  clear A30
  (try dsimp only at H)
  by_cases c4 : t702 = true
  · subst c4
    rw [if_pos rfl] at H
    obtain rfl := Option.some.inj H
    go_enter Try.func36, Try.ntmps36
    go_wp2_with (first | ((with_reducible refine gate_dst (N := 2) rfl ?_); refine kx 2 #[.bool a0_0, .int .i64 a0_1, .int .i64 a0_2] 23 ?_; intro gb701 hg w5 hbox hb; have BK701 := Aside0.mk (hbox); have GW701 := kg HB hg; have GE701 := kg HB hg; replace HB := kh HB hb; clear hb hbox hg; have ⟨hcz6_0, hcz6_1, hcz6_2, hfz6_0, hfz6_1, hfz6_2⟩ := kz3f BK701) | ((with_reducible refine gate_callee (f := 68) rfl ?_); refine kc (some 6) Try.func68 #[.agg #[.bool a0_0, .int .i64 a0_1, .int .i64 a0_2]] (ints_norm.calls a0_0 a0_1 a0_2 true t703 t704 _ A3.out) ?_; intro w7 hb; replace BK701 := kb BK701 hb; replace HB := kh HB hb; (try clear hb); have ⟨hcz8_0, hcz8_1, hcz8_2, hfz8_0, hfz8_1, hfz8_2⟩ := kz3f BK701))
    go_ret
    exact ⟨pe, pl HB⟩
  · replace c4 := Bool.eq_false_iff.mpr c4
    subst c4
    rw [if_neg (show ¬ (false = true) by decide)] at H
    by_cases c9 : t703 = (-1099511627776)
    · rw [if_pos c9] at H
      have c9b0 : (t703 == (-1099511627776)) = true := beq_iff_eq.mpr c9
      have c9b1 : (t703 != (-1099511627776)) = false := bne_eq_false_iff_eq.mpr c9
      clear c9
      by_cases c10 : t704 = 1099511627776
      · rw [if_pos c10] at H
        have c10b0 : (t704 == 1099511627776) = true := beq_iff_eq.mpr c10
        have c10b1 : (t704 != 1099511627776) = false := bne_eq_false_iff_eq.mpr c10
        clear c10
        obtain rfl := Option.some.inj H
        go_enter Try.func36, Try.ntmps36
        go_wp2_with (first | ((with_reducible refine gate_dst (N := 2) rfl ?_); refine kx 2 #[.bool a0_0, .int .i64 a0_1, .int .i64 a0_2] 23 ?_; intro gb701 hg w11 hbox hb; have BK701 := Aside0.mk (hbox); have GW701 := kg HB hg; have GE701 := kg HB hg; replace HB := kh HB hb; clear hb hbox hg; have ⟨hcz12_0, hcz12_1, hcz12_2, hfz12_0, hfz12_1, hfz12_2⟩ := kz3f BK701) | ((with_reducible refine gate_callee (f := 68) rfl ?_); refine kc (some 6) Try.func68 #[.agg #[.bool a0_0, .int .i64 a0_1, .int .i64 a0_2]] (ints_norm.calls a0_0 a0_1 a0_2 false t703 t704 _ A3.out) ?_; intro w13 hb; replace BK701 := kb BK701 hb; replace HB := kh HB hb; (try clear hb); have ⟨hcz14_0, hcz14_1, hcz14_2, hfz14_0, hfz14_1, hfz14_2⟩ := kz3f BK701))
        go_ret
        exact ⟨pe, pl HB⟩
      · rw [if_neg c10] at H
        have c10b0 : (t704 == 1099511627776) = false := beq_eq_false_iff_ne.mpr c10
        have c10b1 : (t704 != 1099511627776) = true := bne_iff_ne.mpr c10
        obtain rfl := Option.some.inj H
        go_enter Try.func36, Try.ntmps36
        go_wp2_with (first | ((with_reducible refine gate_dst (N := 2) rfl ?_); refine kx 2 #[.bool a0_0, .int .i64 a0_1, .int .i64 a0_2] 23 ?_; intro gb701 hg w15 hbox hb; have BK701 := Aside0.mk (hbox); have GW701 := kg HB hg; have GE701 := kg HB hg; replace HB := kh HB hb; clear hb hbox hg; have ⟨hcz16_0, hcz16_1, hcz16_2, hfz16_0, hfz16_1, hfz16_2⟩ := kz3f BK701) | ((with_reducible refine gate_callee (f := 68) rfl ?_); refine kc (some 6) Try.func68 #[.agg #[.bool a0_0, .int .i64 a0_1, .int .i64 a0_2]] (ints_norm.calls a0_0 a0_1 a0_2 false t703 t704 _ A3.out) ?_; intro w17 hb; replace BK701 := kb BK701 hb; replace HB := kh HB hb; (try clear hb); have ⟨hcz18_0, hcz18_1, hcz18_2, hfz18_0, hfz18_1, hfz18_2⟩ := kz3f BK701))
        go_ret
        exact ⟨pe, pl HB⟩
    · rw [if_neg c9] at H
      have c9b0 : (t703 == (-1099511627776)) = false := beq_eq_false_iff_ne.mpr c9
      have c9b1 : (t703 != (-1099511627776)) = true := bne_iff_ne.mpr c9
      by_cases c19 : a1 ≥ t703
      · rw [if_pos c19] at H
        have c19b0 : decide (t703 ≤ a1) = true := decide_eq_true c19
        clear c19
        by_cases c20 : t704 = 1099511627776
        · rw [if_pos c20] at H
          have c20b0 : (t704 == 1099511627776) = true := beq_iff_eq.mpr c20
          have c20b1 : (t704 != 1099511627776) = false := bne_eq_false_iff_eq.mpr c20
          clear c20
          obtain rfl := Option.some.inj H
          go_enter Try.func36, Try.ntmps36
          go_wp2_with (first | ((with_reducible refine gate_dst (N := 2) rfl ?_); refine kx 2 #[.bool a0_0, .int .i64 a0_1, .int .i64 a0_2] 23 ?_; intro gb701 hg w21 hbox hb; have BK701 := Aside0.mk (hbox); have GW701 := kg HB hg; have GE701 := kg HB hg; replace HB := kh HB hb; clear hb hbox hg; have ⟨hcz22_0, hcz22_1, hcz22_2, hfz22_0, hfz22_1, hfz22_2⟩ := kz3f BK701) | ((with_reducible refine gate_callee (f := 68) rfl ?_); refine kc (some 6) Try.func68 #[.agg #[.bool a0_0, .int .i64 a0_1, .int .i64 a0_2]] (ints_norm.calls a0_0 a0_1 a0_2 false t703 t704 _ A3.out) ?_; intro w23 hb; replace BK701 := kb BK701 hb; replace HB := kh HB hb; (try clear hb); have ⟨hcz24_0, hcz24_1, hcz24_2, hfz24_0, hfz24_1, hfz24_2⟩ := kz3f BK701))
          go_ret
          exact ⟨pe, pl HB⟩
        · rw [if_neg c20] at H
          have c20b0 : (t704 == 1099511627776) = false := beq_eq_false_iff_ne.mpr c20
          have c20b1 : (t704 != 1099511627776) = true := bne_iff_ne.mpr c20
          obtain rfl := Option.some.inj H
          go_enter Try.func36, Try.ntmps36
          go_wp2_with (first | ((with_reducible refine gate_dst (N := 2) rfl ?_); refine kx 2 #[.bool a0_0, .int .i64 a0_1, .int .i64 a0_2] 23 ?_; intro gb701 hg w25 hbox hb; have BK701 := Aside0.mk (hbox); have GW701 := kg HB hg; have GE701 := kg HB hg; replace HB := kh HB hb; clear hb hbox hg; have ⟨hcz26_0, hcz26_1, hcz26_2, hfz26_0, hfz26_1, hfz26_2⟩ := kz3f BK701) | ((with_reducible refine gate_callee (f := 68) rfl ?_); refine kc (some 6) Try.func68 #[.agg #[.bool a0_0, .int .i64 a0_1, .int .i64 a0_2]] (ints_norm.calls a0_0 a0_1 a0_2 false t703 t704 _ A3.out) ?_; intro w27 hb; replace BK701 := kb BK701 hb; replace HB := kh HB hb; (try clear hb); have ⟨hcz28_0, hcz28_1, hcz28_2, hfz28_0, hfz28_1, hfz28_2⟩ := kz3f BK701))
          go_ret
          exact ⟨pe, pl HB⟩
      · rw [if_neg c19] at H
        have c19b0 : decide (t703 ≤ a1) = false := decide_eq_false c19
        clear c19
        obtain rfl := Option.some.inj H
        go_enter Try.func36, Try.ntmps36
        go_wp2_with (first | ((with_reducible refine gate_dst (N := 2) rfl ?_); refine kx 2 #[.bool a0_0, .int .i64 a0_1, .int .i64 a0_2] 23 ?_; intro gb701 hg w29 hbox hb; have BK701 := Aside0.mk (hbox); have GW701 := kg HB hg; have GE701 := kg HB hg; replace HB := kh HB hb; clear hb hbox hg; have ⟨hcz30_0, hcz30_1, hcz30_2, hfz30_0, hfz30_1, hfz30_2⟩ := kz3f BK701) | ((with_reducible refine gate_callee (f := 68) rfl ?_); refine kc (some 6) Try.func68 #[.agg #[.bool a0_0, .int .i64 a0_1, .int .i64 a0_2]] (ints_norm.calls a0_0 a0_1 a0_2 false t703 t704 _ A3.out) ?_; intro w31 hb; replace BK701 := kb BK701 hb; replace HB := kh HB hb; (try clear hb); have ⟨hcz32_0, hcz32_1, hcz32_2, hfz32_0, hfz32_1, hfz32_2⟩ := kz3f BK701))
        go_ret
        exact ⟨pe, pl HB⟩
/-! ### ints_Inside: function 41 -/
def ints_Inside.f (a0_0 : Bool) (a0_1 : Int) (a0_2 : Int) (a1_0 : Bool) (a1_1 : Int) (a1_2 : Int) : Option (Bool) := (ints_norm.f a0_0 a0_1 a0_2).bind fun bt853 => ((ints_norm.f a1_0 a1_1 a1_2).bind fun bt856 => (if bt853.1 = true then (some true) else (if bt856.1 = true then (some false) else (if bt856.2.1 ≤ bt853.2.1 then (some (decide (bt853.2.2 ≤ bt856.2.2))) else (some false)))))
set_option maxHeartbeats 8000000 in
set_option maxRecDepth 100000 in
theorem ints_Inside.calls (a0_0 : Bool) (a0_1 : Int) (a0_2 : Int) (a1_0 : Bool) (a1_1 : Int) (a1_2 : Int) (r : Bool) (w : World) (h : ints_Inside.f a0_0 a0_1 a0_2 a1_0 a1_1 a1_2 = some r) :
    Calls Try.prog 41 #[.agg #[.bool a0_0, .int .i64 a0_1, .int .i64 a0_2], .agg #[.bool a1_0, .int .i64 a1_1, .int .i64 a1_2]] w fun e w' => e = .returned (.bool r) ∧ Below w.heap.size w w' := by
  have hu23 := Try.underlying23
  have HB := Aside0.mk (Below.refl w.heap.size w)
  have H := h
  clear h
  unfold ints_Inside.f at H
  obtain ⟨⟨t853, t854, t855⟩, A30, H⟩ := Option.bind_eq_some_iff.mp H
  have A3 := Aside0.mk A30
  clear A30
  (try dsimp only at H)
  obtain ⟨⟨t856, t857, t858⟩, A40, H⟩ := Option.bind_eq_some_iff.mp H
  have A4 := Aside0.mk A40
  clear A40
  (try dsimp only at H)
  by_cases c5 : t853 = true
  · subst c5
    rw [if_pos rfl] at H
    obtain rfl := Option.some.inj H
    go_enter Try.func41, Try.ntmps41
    try go_wp2_with (first | ((with_reducible refine gate_dst (N := 2) rfl ?_); refine kx 2 #[.bool a0_0, .int .i64 a0_1, .int .i64 a0_2] 23 ?_; intro gb851 hg w6 hbox hb; have BK851 := Aside0.mk (hbox); have GW851 := kg HB hg; have GE851 := kg HB hg; replace HB := kh HB hb; clear hb hbox hg) | ((with_reducible refine gate_dst (N := 3) rfl ?_); refine kx 3 #[.bool a1_0, .int .i64 a1_1, .int .i64 a1_2] 23 ?_; intro gb852 hg w7 hbox hb; have BK852 := Aside0.mk (hbox); have GW852 := kg HB hg; have GE852 := kg HB hg; have NB851_852 := kn BK851 hg; have NB852_851 := km BK851 hg; replace BK851 := kb BK851 hb; replace HB := kh HB hb; clear hb hbox hg))
    replace BK851 := Aside0.mk (blk_drew BK851.out)
    replace BK852 := Aside0.mk (blk_drew BK852.out)
    replace HB := Aside0.mk (below_drew1 HB.out)
    refine start_ (n := 6) (S := fun w' => w'.cell? ⟨gb851, 0, none⟩ = some (.bool a0_0) ∧ w'.cell? ⟨gb851, 1, none⟩ = some (.int .i64 a0_1) ∧ w'.cell? ⟨gb851, 2, none⟩ = some (.int .i64 a0_2) ∧ w'.cell? ⟨gb852, 0, none⟩ = some (.bool a1_0) ∧ w'.cell? ⟨gb852, 1, none⟩ = some (.int .i64 a1_1) ∧ w'.cell? ⟨gb852, 2, none⟩ = some (.int .i64 a1_2)) (ds := [4, 5]) #[false, false, false, false, false, false] (by kernel_rfl) rfl rfl ⟨bc BK851 0, bc BK851 1, bc BK851 2, bc BK852 0, bc BK852 1, bc BK852 2⟩ (fun hHeld => ?_)
    generalize w7.drew = w8 at BK851 BK852 HB hHeld ⊢
    refine tak 0 (some 5) #[true, false, false, false, false, false] (by kernel_rfl) hHeld ?_
    refine tak 2 (some 7) #[true, false, true, false, false, false] (by kernel_rfl) hHeld ?_
    refine one_ (i := 1) (N := some 6) #[true, true, true, false, false, false] rfl rfl (by kernel_rfl) (by decide) (fun K hK => ?_)
    refine gc Try.func68 #[.agg #[.bool a0_0, .int .i64 a0_1, .int .i64 a0_2]] (ints_norm.calls a0_0 a0_1 a0_2 true t854 t855 _ A3.out) ?_
    intro w9 hb
    replace BK851 := kb BK851 hb
    replace BK852 := kb BK852 hb
    replace HB := kh HB hb
    (try clear hb)
    refine hK.out _ _ ⟨bc BK851 0, bc BK851 1, bc BK851 2, bc BK852 0, bc BK852 1, bc BK852 2⟩ (fun hHeld => ?_)
    clear hK K
    refine nrm (some 6) ?_
    refine one_ (i := 3) (N := some 8) #[true, true, true, true, false, false] rfl rfl (by kernel_rfl) (by decide) (fun K hK => ?_)
    refine gc Try.func68 #[.agg #[.bool a1_0, .int .i64 a1_1, .int .i64 a1_2]] (ints_norm.calls a1_0 a1_1 a1_2 t856 t857 t858 _ A4.out) ?_
    intro w10 hb
    replace BK851 := kb BK851 hb
    replace BK852 := kb BK852 hb
    replace HB := kh HB hb
    (try clear hb)
    refine hK.out _ _ ⟨bc BK851 0, bc BK851 1, bc BK851 2, bc BK852 0, bc BK852 1, bc BK852 2⟩ (fun hHeld => ?_)
    clear hK K
    refine nrm (some 8) ?_
    refine last_ (i := 4) (N := none) #[true, true, true, true, true, false] rfl rfl (by kernel_rfl) (by decide) (fun K hK => ?_)
    have hs11 : w10.cell? ⟨gb851, 0, none⟩ = some (.bool a0_0) := bc BK851 0
    have hfs11 := blk_frozen BK851.out 0
    have hns11_1 := NB852_851.out
    have hms11_1 := NB851_852.out
    have hs12 : w10.cell? ⟨gb851, 1, none⟩ = some (.int .i64 a0_1) := bc BK851 1
    have hfs12 := blk_frozen BK851.out 1
    have hs13 : w10.cell? ⟨gb851, 2, none⟩ = some (.int .i64 a0_2) := bc BK851 2
    have hfs13 := blk_frozen BK851.out 2
    refine skip_ (w1 := ?_) (by rfl) rfl ?_ ?_
    rotate_left
    · go_simp
      rfl
    refine hK.out _ _ ?_
    clear hK K
    refine last_ (i := 5) (N := none) #[true, true, true, true, true, true] rfl rfl (by kernel_rfl) (by decide) (fun K hK => ?_)
    have hs14 : w10.cell? ⟨gb852, 0, none⟩ = some (.bool a1_0) := bc BK852 0
    have hfs14 := blk_frozen BK852.out 0
    have hns14_0 := NB851_852.out
    have hms14_0 := NB852_851.out
    have hs15 : w10.cell? ⟨gb852, 1, none⟩ = some (.int .i64 a1_1) := bc BK852 1
    have hfs15 := blk_frozen BK852.out 1
    have hs16 : w10.cell? ⟨gb852, 2, none⟩ = some (.int .i64 a1_2) := bc BK852 2
    have hfs16 := blk_frozen BK852.out 2
    refine skip_ (w1 := ?_) (by rfl) rfl ?_ ?_
    rotate_left
    · go_simp
      rfl
    refine hK.out _ _ ?_
    clear hK K
    refine done_ (by kernel_rfl) ?_
    have hnb17 := NB851_852.out
    have hnc17 := NB852_851.out
    have ⟨hcz18_0, hcz18_1, hcz18_2, hfz18_0, hfz18_1, hfz18_2⟩ := kz3f BK851
    try go_wp2
    go_ret
    exact ⟨pe, pl HB⟩
  · replace c5 := Bool.eq_false_iff.mpr c5
    subst c5
    rw [if_neg (show ¬ (false = true) by decide)] at H
    by_cases c19 : t856 = true
    · subst c19
      rw [if_pos rfl] at H
      obtain rfl := Option.some.inj H
      go_enter Try.func41, Try.ntmps41
      try go_wp2_with (first | ((with_reducible refine gate_dst (N := 2) rfl ?_); refine kx 2 #[.bool a0_0, .int .i64 a0_1, .int .i64 a0_2] 23 ?_; intro gb851 hg w20 hbox hb; have BK851 := Aside0.mk (hbox); have GW851 := kg HB hg; have GE851 := kg HB hg; replace HB := kh HB hb; clear hb hbox hg) | ((with_reducible refine gate_dst (N := 3) rfl ?_); refine kx 3 #[.bool a1_0, .int .i64 a1_1, .int .i64 a1_2] 23 ?_; intro gb852 hg w21 hbox hb; have BK852 := Aside0.mk (hbox); have GW852 := kg HB hg; have GE852 := kg HB hg; have NB851_852 := kn BK851 hg; have NB852_851 := km BK851 hg; replace BK851 := kb BK851 hb; replace HB := kh HB hb; clear hb hbox hg))
      replace BK851 := Aside0.mk (blk_drew BK851.out)
      replace BK852 := Aside0.mk (blk_drew BK852.out)
      replace HB := Aside0.mk (below_drew1 HB.out)
      refine start_ (n := 6) (S := fun w' => w'.cell? ⟨gb851, 0, none⟩ = some (.bool a0_0) ∧ w'.cell? ⟨gb851, 1, none⟩ = some (.int .i64 a0_1) ∧ w'.cell? ⟨gb851, 2, none⟩ = some (.int .i64 a0_2) ∧ w'.cell? ⟨gb852, 0, none⟩ = some (.bool a1_0) ∧ w'.cell? ⟨gb852, 1, none⟩ = some (.int .i64 a1_1) ∧ w'.cell? ⟨gb852, 2, none⟩ = some (.int .i64 a1_2)) (ds := [4, 5]) #[false, false, false, false, false, false] (by kernel_rfl) rfl rfl ⟨bc BK851 0, bc BK851 1, bc BK851 2, bc BK852 0, bc BK852 1, bc BK852 2⟩ (fun hHeld => ?_)
      generalize w21.drew = w22 at BK851 BK852 HB hHeld ⊢
      refine tak 0 (some 5) #[true, false, false, false, false, false] (by kernel_rfl) hHeld ?_
      refine tak 2 (some 7) #[true, false, true, false, false, false] (by kernel_rfl) hHeld ?_
      refine one_ (i := 1) (N := some 6) #[true, true, true, false, false, false] rfl rfl (by kernel_rfl) (by decide) (fun K hK => ?_)
      refine gc Try.func68 #[.agg #[.bool a0_0, .int .i64 a0_1, .int .i64 a0_2]] (ints_norm.calls a0_0 a0_1 a0_2 false t854 t855 _ A3.out) ?_
      intro w23 hb
      replace BK851 := kb BK851 hb
      replace BK852 := kb BK852 hb
      replace HB := kh HB hb
      (try clear hb)
      refine hK.out _ _ ⟨bc BK851 0, bc BK851 1, bc BK851 2, bc BK852 0, bc BK852 1, bc BK852 2⟩ (fun hHeld => ?_)
      clear hK K
      refine nrm (some 6) ?_
      refine one_ (i := 3) (N := some 8) #[true, true, true, true, false, false] rfl rfl (by kernel_rfl) (by decide) (fun K hK => ?_)
      refine gc Try.func68 #[.agg #[.bool a1_0, .int .i64 a1_1, .int .i64 a1_2]] (ints_norm.calls a1_0 a1_1 a1_2 true t857 t858 _ A4.out) ?_
      intro w24 hb
      replace BK851 := kb BK851 hb
      replace BK852 := kb BK852 hb
      replace HB := kh HB hb
      (try clear hb)
      refine hK.out _ _ ⟨bc BK851 0, bc BK851 1, bc BK851 2, bc BK852 0, bc BK852 1, bc BK852 2⟩ (fun hHeld => ?_)
      clear hK K
      refine nrm (some 8) ?_
      refine last_ (i := 4) (N := none) #[true, true, true, true, true, false] rfl rfl (by kernel_rfl) (by decide) (fun K hK => ?_)
      have hs25 : w24.cell? ⟨gb851, 0, none⟩ = some (.bool a0_0) := bc BK851 0
      have hfs25 := blk_frozen BK851.out 0
      have hns25_1 := NB852_851.out
      have hms25_1 := NB851_852.out
      have hs26 : w24.cell? ⟨gb851, 1, none⟩ = some (.int .i64 a0_1) := bc BK851 1
      have hfs26 := blk_frozen BK851.out 1
      have hs27 : w24.cell? ⟨gb851, 2, none⟩ = some (.int .i64 a0_2) := bc BK851 2
      have hfs27 := blk_frozen BK851.out 2
      refine skip_ (w1 := ?_) (by rfl) rfl ?_ ?_
      rotate_left
      · go_simp
        rfl
      refine hK.out _ _ ?_
      clear hK K
      refine last_ (i := 5) (N := none) #[true, true, true, true, true, true] rfl rfl (by kernel_rfl) (by decide) (fun K hK => ?_)
      have hs28 : w24.cell? ⟨gb852, 0, none⟩ = some (.bool a1_0) := bc BK852 0
      have hfs28 := blk_frozen BK852.out 0
      have hns28_0 := NB851_852.out
      have hms28_0 := NB852_851.out
      have hs29 : w24.cell? ⟨gb852, 1, none⟩ = some (.int .i64 a1_1) := bc BK852 1
      have hfs29 := blk_frozen BK852.out 1
      have hs30 : w24.cell? ⟨gb852, 2, none⟩ = some (.int .i64 a1_2) := bc BK852 2
      have hfs30 := blk_frozen BK852.out 2
      refine skip_ (w1 := ?_) (by rfl) rfl ?_ ?_
      rotate_left
      · go_simp
        rfl
      refine hK.out _ _ ?_
      clear hK K
      refine done_ (by kernel_rfl) ?_
      have hnb31 := NB851_852.out
      have hnc31 := NB852_851.out
      have ⟨hcz32_0, hcz32_1, hcz32_2, hfz32_0, hfz32_1, hfz32_2⟩ := kz3f BK851
      have ⟨hcz33_0, hcz33_1, hcz33_2, hfz33_0, hfz33_1, hfz33_2⟩ := kz3f BK852
      try go_wp2
      go_ret
      exact ⟨pe, pl HB⟩
    · replace c19 := Bool.eq_false_iff.mpr c19
      subst c19
      rw [if_neg (show ¬ (false = true) by decide)] at H
      by_cases c34 : t857 ≤ t854
      · rw [if_pos c34] at H
        have c34b0 : decide (t857 ≤ t854) = true := decide_eq_true c34
        clear c34
        obtain rfl := Option.some.inj H
        go_enter Try.func41, Try.ntmps41
        try go_wp2_with (first | ((with_reducible refine gate_dst (N := 2) rfl ?_); refine kx 2 #[.bool a0_0, .int .i64 a0_1, .int .i64 a0_2] 23 ?_; intro gb851 hg w35 hbox hb; have BK851 := Aside0.mk (hbox); have GW851 := kg HB hg; have GE851 := kg HB hg; replace HB := kh HB hb; clear hb hbox hg) | ((with_reducible refine gate_dst (N := 3) rfl ?_); refine kx 3 #[.bool a1_0, .int .i64 a1_1, .int .i64 a1_2] 23 ?_; intro gb852 hg w36 hbox hb; have BK852 := Aside0.mk (hbox); have GW852 := kg HB hg; have GE852 := kg HB hg; have NB851_852 := kn BK851 hg; have NB852_851 := km BK851 hg; replace BK851 := kb BK851 hb; replace HB := kh HB hb; clear hb hbox hg))
        replace BK851 := Aside0.mk (blk_drew BK851.out)
        replace BK852 := Aside0.mk (blk_drew BK852.out)
        replace HB := Aside0.mk (below_drew1 HB.out)
        refine start_ (n := 6) (S := fun w' => w'.cell? ⟨gb851, 0, none⟩ = some (.bool a0_0) ∧ w'.cell? ⟨gb851, 1, none⟩ = some (.int .i64 a0_1) ∧ w'.cell? ⟨gb851, 2, none⟩ = some (.int .i64 a0_2) ∧ w'.cell? ⟨gb852, 0, none⟩ = some (.bool a1_0) ∧ w'.cell? ⟨gb852, 1, none⟩ = some (.int .i64 a1_1) ∧ w'.cell? ⟨gb852, 2, none⟩ = some (.int .i64 a1_2)) (ds := [4, 5]) #[false, false, false, false, false, false] (by kernel_rfl) rfl rfl ⟨bc BK851 0, bc BK851 1, bc BK851 2, bc BK852 0, bc BK852 1, bc BK852 2⟩ (fun hHeld => ?_)
        generalize w36.drew = w37 at BK851 BK852 HB hHeld ⊢
        refine tak 0 (some 5) #[true, false, false, false, false, false] (by kernel_rfl) hHeld ?_
        refine tak 2 (some 7) #[true, false, true, false, false, false] (by kernel_rfl) hHeld ?_
        refine one_ (i := 1) (N := some 6) #[true, true, true, false, false, false] rfl rfl (by kernel_rfl) (by decide) (fun K hK => ?_)
        refine gc Try.func68 #[.agg #[.bool a0_0, .int .i64 a0_1, .int .i64 a0_2]] (ints_norm.calls a0_0 a0_1 a0_2 false t854 t855 _ A3.out) ?_
        intro w38 hb
        replace BK851 := kb BK851 hb
        replace BK852 := kb BK852 hb
        replace HB := kh HB hb
        (try clear hb)
        refine hK.out _ _ ⟨bc BK851 0, bc BK851 1, bc BK851 2, bc BK852 0, bc BK852 1, bc BK852 2⟩ (fun hHeld => ?_)
        clear hK K
        refine nrm (some 6) ?_
        refine one_ (i := 3) (N := some 8) #[true, true, true, true, false, false] rfl rfl (by kernel_rfl) (by decide) (fun K hK => ?_)
        refine gc Try.func68 #[.agg #[.bool a1_0, .int .i64 a1_1, .int .i64 a1_2]] (ints_norm.calls a1_0 a1_1 a1_2 false t857 t858 _ A4.out) ?_
        intro w39 hb
        replace BK851 := kb BK851 hb
        replace BK852 := kb BK852 hb
        replace HB := kh HB hb
        (try clear hb)
        refine hK.out _ _ ⟨bc BK851 0, bc BK851 1, bc BK851 2, bc BK852 0, bc BK852 1, bc BK852 2⟩ (fun hHeld => ?_)
        clear hK K
        refine nrm (some 8) ?_
        refine last_ (i := 4) (N := none) #[true, true, true, true, true, false] rfl rfl (by kernel_rfl) (by decide) (fun K hK => ?_)
        have hs40 : w39.cell? ⟨gb851, 0, none⟩ = some (.bool a0_0) := bc BK851 0
        have hfs40 := blk_frozen BK851.out 0
        have hns40_1 := NB852_851.out
        have hms40_1 := NB851_852.out
        have hs41 : w39.cell? ⟨gb851, 1, none⟩ = some (.int .i64 a0_1) := bc BK851 1
        have hfs41 := blk_frozen BK851.out 1
        have hs42 : w39.cell? ⟨gb851, 2, none⟩ = some (.int .i64 a0_2) := bc BK851 2
        have hfs42 := blk_frozen BK851.out 2
        refine skip_ (w1 := ?_) (by rfl) rfl ?_ ?_
        rotate_left
        · go_simp
          rfl
        refine hK.out _ _ ?_
        clear hK K
        refine last_ (i := 5) (N := none) #[true, true, true, true, true, true] rfl rfl (by kernel_rfl) (by decide) (fun K hK => ?_)
        have hs43 : w39.cell? ⟨gb852, 0, none⟩ = some (.bool a1_0) := bc BK852 0
        have hfs43 := blk_frozen BK852.out 0
        have hns43_0 := NB851_852.out
        have hms43_0 := NB852_851.out
        have hs44 : w39.cell? ⟨gb852, 1, none⟩ = some (.int .i64 a1_1) := bc BK852 1
        have hfs44 := blk_frozen BK852.out 1
        have hs45 : w39.cell? ⟨gb852, 2, none⟩ = some (.int .i64 a1_2) := bc BK852 2
        have hfs45 := blk_frozen BK852.out 2
        refine skip_ (w1 := ?_) (by rfl) rfl ?_ ?_
        rotate_left
        · go_simp
          rfl
        refine hK.out _ _ ?_
        clear hK K
        refine done_ (by kernel_rfl) ?_
        have hnb46 := NB851_852.out
        have hnc46 := NB852_851.out
        have ⟨hcz47_0, hcz47_1, hcz47_2, hfz47_0, hfz47_1, hfz47_2⟩ := kz3f BK851
        have ⟨hcz48_0, hcz48_1, hcz48_2, hfz48_0, hfz48_1, hfz48_2⟩ := kz3f BK852
        try go_wp2
        go_ret
        exact ⟨pe, pl HB⟩
      · rw [if_neg c34] at H
        have c34b0 : decide (t857 ≤ t854) = false := decide_eq_false c34
        clear c34
        obtain rfl := Option.some.inj H
        go_enter Try.func41, Try.ntmps41
        try go_wp2_with (first | ((with_reducible refine gate_dst (N := 2) rfl ?_); refine kx 2 #[.bool a0_0, .int .i64 a0_1, .int .i64 a0_2] 23 ?_; intro gb851 hg w49 hbox hb; have BK851 := Aside0.mk (hbox); have GW851 := kg HB hg; have GE851 := kg HB hg; replace HB := kh HB hb; clear hb hbox hg) | ((with_reducible refine gate_dst (N := 3) rfl ?_); refine kx 3 #[.bool a1_0, .int .i64 a1_1, .int .i64 a1_2] 23 ?_; intro gb852 hg w50 hbox hb; have BK852 := Aside0.mk (hbox); have GW852 := kg HB hg; have GE852 := kg HB hg; have NB851_852 := kn BK851 hg; have NB852_851 := km BK851 hg; replace BK851 := kb BK851 hb; replace HB := kh HB hb; clear hb hbox hg))
        replace BK851 := Aside0.mk (blk_drew BK851.out)
        replace BK852 := Aside0.mk (blk_drew BK852.out)
        replace HB := Aside0.mk (below_drew1 HB.out)
        refine start_ (n := 6) (S := fun w' => w'.cell? ⟨gb851, 0, none⟩ = some (.bool a0_0) ∧ w'.cell? ⟨gb851, 1, none⟩ = some (.int .i64 a0_1) ∧ w'.cell? ⟨gb851, 2, none⟩ = some (.int .i64 a0_2) ∧ w'.cell? ⟨gb852, 0, none⟩ = some (.bool a1_0) ∧ w'.cell? ⟨gb852, 1, none⟩ = some (.int .i64 a1_1) ∧ w'.cell? ⟨gb852, 2, none⟩ = some (.int .i64 a1_2)) (ds := [4, 5]) #[false, false, false, false, false, false] (by kernel_rfl) rfl rfl ⟨bc BK851 0, bc BK851 1, bc BK851 2, bc BK852 0, bc BK852 1, bc BK852 2⟩ (fun hHeld => ?_)
        generalize w50.drew = w51 at BK851 BK852 HB hHeld ⊢
        refine tak 0 (some 5) #[true, false, false, false, false, false] (by kernel_rfl) hHeld ?_
        refine tak 2 (some 7) #[true, false, true, false, false, false] (by kernel_rfl) hHeld ?_
        refine one_ (i := 1) (N := some 6) #[true, true, true, false, false, false] rfl rfl (by kernel_rfl) (by decide) (fun K hK => ?_)
        refine gc Try.func68 #[.agg #[.bool a0_0, .int .i64 a0_1, .int .i64 a0_2]] (ints_norm.calls a0_0 a0_1 a0_2 false t854 t855 _ A3.out) ?_
        intro w52 hb
        replace BK851 := kb BK851 hb
        replace BK852 := kb BK852 hb
        replace HB := kh HB hb
        (try clear hb)
        refine hK.out _ _ ⟨bc BK851 0, bc BK851 1, bc BK851 2, bc BK852 0, bc BK852 1, bc BK852 2⟩ (fun hHeld => ?_)
        clear hK K
        refine nrm (some 6) ?_
        refine one_ (i := 3) (N := some 8) #[true, true, true, true, false, false] rfl rfl (by kernel_rfl) (by decide) (fun K hK => ?_)
        refine gc Try.func68 #[.agg #[.bool a1_0, .int .i64 a1_1, .int .i64 a1_2]] (ints_norm.calls a1_0 a1_1 a1_2 false t857 t858 _ A4.out) ?_
        intro w53 hb
        replace BK851 := kb BK851 hb
        replace BK852 := kb BK852 hb
        replace HB := kh HB hb
        (try clear hb)
        refine hK.out _ _ ⟨bc BK851 0, bc BK851 1, bc BK851 2, bc BK852 0, bc BK852 1, bc BK852 2⟩ (fun hHeld => ?_)
        clear hK K
        refine nrm (some 8) ?_
        refine last_ (i := 4) (N := none) #[true, true, true, true, true, false] rfl rfl (by kernel_rfl) (by decide) (fun K hK => ?_)
        have hs54 : w53.cell? ⟨gb851, 0, none⟩ = some (.bool a0_0) := bc BK851 0
        have hfs54 := blk_frozen BK851.out 0
        have hns54_1 := NB852_851.out
        have hms54_1 := NB851_852.out
        have hs55 : w53.cell? ⟨gb851, 1, none⟩ = some (.int .i64 a0_1) := bc BK851 1
        have hfs55 := blk_frozen BK851.out 1
        have hs56 : w53.cell? ⟨gb851, 2, none⟩ = some (.int .i64 a0_2) := bc BK851 2
        have hfs56 := blk_frozen BK851.out 2
        refine skip_ (w1 := ?_) (by rfl) rfl ?_ ?_
        rotate_left
        · go_simp
          rfl
        refine hK.out _ _ ?_
        clear hK K
        refine last_ (i := 5) (N := none) #[true, true, true, true, true, true] rfl rfl (by kernel_rfl) (by decide) (fun K hK => ?_)
        have hs57 : w53.cell? ⟨gb852, 0, none⟩ = some (.bool a1_0) := bc BK852 0
        have hfs57 := blk_frozen BK852.out 0
        have hns57_0 := NB851_852.out
        have hms57_0 := NB852_851.out
        have hs58 : w53.cell? ⟨gb852, 1, none⟩ = some (.int .i64 a1_1) := bc BK852 1
        have hfs58 := blk_frozen BK852.out 1
        have hs59 : w53.cell? ⟨gb852, 2, none⟩ = some (.int .i64 a1_2) := bc BK852 2
        have hfs59 := blk_frozen BK852.out 2
        refine skip_ (w1 := ?_) (by rfl) rfl ?_ ?_
        rotate_left
        · go_simp
          rfl
        refine hK.out _ _ ?_
        clear hK K
        refine done_ (by kernel_rfl) ?_
        have hnb60 := NB851_852.out
        have hnc60 := NB852_851.out
        have ⟨hcz61_0, hcz61_1, hcz61_2, hfz61_0, hfz61_1, hfz61_2⟩ := kz3f BK851
        have ⟨hcz62_0, hcz62_1, hcz62_2, hfz62_0, hfz62_1, hfz62_2⟩ := kz3f BK852
        try go_wp2
        go_ret
        exact ⟨pe, pl HB⟩
end Go.Proofs.Ytinmgnlofininaa.PAll
end
