/- Functions of the print, turned to this claim. -/
import Derived.Test.YtinmgnlofininaaZKW
import Derived.Test.YtinmgnlofininaaZKx0
import Derived.Test.YtinmgnlofininaaZKx16
import Derived.Test.YtinmgnlofininaaZKx34
section
namespace Go.Proofs.Ytinmgnlofininaa.PAll
open Go.RowKit Go.Proofs.YtinmgnlofininaaW.PrintWords Go.Proofs.YtinmgnlofininaaW.PrintLast Go.Proofs.YtinmgnlofininaaW.PrintMore
attribute [local go_sem] max2_int min2_int max_two min_two max_three min_three max_four min_four   -- for this text's walks alone
set_option linter.unusedVariables false
set_option linter.unusedSimpArgs false
/-! ### flyballref21_Has: function 34 -/
def flyballref21_Has.j0 : Nat → Int → Int → Bool → Bool → Int → Int → Bool → Int → Int → Option (Bool)
  | 0, _, _, _, _, _, _, _, _, _ => none
  | k + 1, x1, x2, x23, x12409000, x12409001, x12409002, x12409003, x12409004, x12409005 => if x23 = true then (some false) else ((flyballref17_Has.f x12409000 x12409001 x12409002 (wrap64 (x1 - x2))).bind fun t12409 => (if t12409 = true then ((flyballref17_Has.f x12409003 x12409004 x12409005 (wrap64 (x1 + x2))).bind fun t12410 => (some t12410)) else (some false)))
def flyballref21_Has.f (k : Nat) (a0_0 : Bool) (a0_1 : Int) (a0_2 : Int) (a0_3 : Bool) (a0_4 : Int) (a0_5 : Int) (a1 : Int) (a2 : Int) : Option (Bool) := (flyballref21_Norm.f a0_0 a0_1 a0_2 a0_3 a0_4 a0_5).bind fun bt12402 => (if a1 < (-2199023255552) then (flyballref21_Has.j0 k a1 a2 true bt12402.1 bt12402.2.1 bt12402.2.2.1 bt12402.2.2.2.1 bt12402.2.2.2.2.1 bt12402.2.2.2.2.2) else (if a1 > 2199023255552 then (flyballref21_Has.j0 k a1 a2 true bt12402.1 bt12402.2.1 bt12402.2.2.1 bt12402.2.2.2.1 bt12402.2.2.2.2.1 bt12402.2.2.2.2.2) else (if a2 < (-2199023255552) then (flyballref21_Has.j0 k a1 a2 true bt12402.1 bt12402.2.1 bt12402.2.2.1 bt12402.2.2.2.1 bt12402.2.2.2.2.1 bt12402.2.2.2.2.2) else (flyballref21_Has.j0 k a1 a2 (decide (a2 > 2199023255552)) bt12402.1 bt12402.2.1 bt12402.2.2.1 bt12402.2.2.2.1 bt12402.2.2.2.2.1 bt12402.2.2.2.2.2))))
theorem flyballref21_Has.mono_l : ∀ k, (∀ y0 y1 y2 y3 y4 y5 y6 y7 y8, LeO (flyballref21_Has.j0 k y0 y1 y2 y3 y4 y5 y6 y7 y8) (flyballref21_Has.j0 (k + 1) y0 y1 y2 y3 y4 y5 y6 y7 y8))
  | 0 => fun _ _ _ _ _ _ _ _ _ r h => by simp [flyballref21_Has.j0] at h
  | k + 1 => by
    have ih0 := flyballref21_Has.mono_l k
    · intro y0 y1 y2 y3 y4 y5 y6 y7 y8
      unfold flyballref21_Has.j0
      repeat' first
      | (with_reducible exact ih0 _ _ _ _ _ _ _ _ _)
      | (with_reducible exact LeO.refl _)
      | (with_reducible exact LeO.none _)
      | (with_reducible refine LeO.ite ?_ ?_)
      | (with_reducible refine LeO.bind ?_ (fun _ => ?_))
      | exact ih0 _ _ _ _ _ _ _ _ _
      | exact LeO.none _
      | refine LeO.ite ?_ ?_
      | refine LeO.bind ?_ (fun _ => ?_)
theorem flyballref21_Has.mono : ∀ a0 a1 a2 a3 a4 a5 a6 a7 k, LeO (flyballref21_Has.f k a0 a1 a2 a3 a4 a5 a6 a7) (flyballref21_Has.f (k + 1) a0 a1 a2 a3 a4 a5 a6 a7) := by
  intro a0 a1 a2 a3 a4 a5 a6 a7 k
  have ih0 := flyballref21_Has.mono_l k
  unfold flyballref21_Has.f
  repeat' first
      | (with_reducible exact ih0 _ _ _ _ _ _ _ _ _)
      | (with_reducible exact LeO.refl _)
      | (with_reducible exact LeO.none _)
      | (with_reducible refine LeO.ite ?_ ?_)
      | (with_reducible refine LeO.bind ?_ (fun _ => ?_))
      | exact ih0 _ _ _ _ _ _ _ _ _
      | exact LeO.none _
      | refine LeO.ite ?_ ?_
      | refine LeO.bind ?_ (fun _ => ?_)
set_option maxHeartbeats 8000000 in
set_option maxRecDepth 100000 in
theorem flyballref21_Has.calls (k : Nat) (a0_0 : Bool) (a0_1 : Int) (a0_2 : Int) (a0_3 : Bool) (a0_4 : Int) (a0_5 : Int) (a1 : Int) (a2 : Int) (r : Bool) (w : World) (h : flyballref21_Has.f k a0_0 a0_1 a0_2 a0_3 a0_4 a0_5 a1 a2 = some r) :
    Calls Try.prog 34 #[.agg #[.bool a0_0, .int .i64 a0_1, .int .i64 a0_2, .bool a0_3, .int .i64 a0_4, .int .i64 a0_5], .int .i64 a1, .int .i64 a2] w fun e w' => e = .returned (.bool r) ∧ Below w.heap.size w w' := by
  have hu29 := Try.underlying29
  have hu23 := Try.underlying23
  have HB := Aside0.mk (Below.refl w.heap.size w)
  have H := h
  clear h
  unfold flyballref21_Has.f at H
  obtain ⟨⟨t12402, t12403, t12404, t12405, t12406, t12407⟩, A40, H⟩ := Option.bind_eq_some_iff.mp H
  have A4 := Aside0.mk A40
  clear A40
  (try dsimp only at H)
  have HC5 := Aside0.mk H
  clear H
  go_enter Try.func34, Try.ntmps34
  go_upto_region 2 with (first | ((with_reducible refine gate_dst (N := 3) rfl ?_); refine kx 3 #[.bool a0_0, .int .i64 a0_1, .int .i64 a0_2, .bool a0_3, .int .i64 a0_4, .int .i64 a0_5] 29 ?_; intro gb12401 hg w6 hbox hb; have BK12401 := Aside0.mk (hbox); have GW12401 := kg HB hg; have GE12401 := kg HB hg; replace HB := kh HB hb; clear hb hbox hg; have ⟨hcz7_0, hcz7_1, hcz7_2, hcz7_3, hcz7_4, hcz7_5, hfz7_0, hfz7_1, hfz7_2, hfz7_3, hfz7_4, hfz7_5⟩ := kz6f BK12401) | ((with_reducible refine gate_callee (f := 62) rfl ?_); refine kc (some 9) Try.func62 #[.agg #[.bool a0_0, .int .i64 a0_1, .int .i64 a0_2, .bool a0_3, .int .i64 a0_4, .int .i64 a0_5]] (flyballref21_Norm.calls a0_0 a0_1 a0_2 a0_3 a0_4 a0_5 t12402 t12403 t12404 t12405 t12406 t12407 _ A4.out) ?_; intro w8 hb; replace BK12401 := kb BK12401 hb; replace HB := kh HB hb; (try clear hb)) | ((with_reducible refine gate_dst (N := 7) rfl ?_); refine kx 7 #[.bool false, .int .i64 0, .int .i64 0, .bool false, .int .i64 0, .int .i64 0] 29 ?_; intro gb12408 hg w9 hbox hb; have BK12408 := Aside0.mk (hbox); have GW12408 := kg HB hg; have GE12408 := kg HB hg; have NB12401_12408 := kn BK12401 hg; have NB12408_12401 := km BK12401 hg; replace BK12401 := kb BK12401 hb; replace HB := kh HB hb; clear hb hbox hg; have hnb10 := NB12408_12401.out; have hnc10 := NB12401_12408.out; have ⟨hcz11_0, hcz11_1, hcz11_2, hcz11_3, hcz11_4, hcz11_5, hfz11_0, hfz11_1, hfz11_2, hfz11_3, hfz11_4, hfz11_5⟩ := kz6f BK12408))
  (try simp only [Act.put, List.setIfInBounds_toArray, List.set_cons_zero, List.set_cons_succ])
  go_cut [23] (fun v23 wc => ∃ (kq : Nat) (x23_4 : Bool), v23 = .bool x23_4 ∧ Aside0 (flyballref21_Has.j0 kq a1 a2 x23_4 t12402 t12403 t12404 t12405 t12406 t12407 = some r) ∧ Aside0 (kq ≤ k) ∧ Aside0 (wc.heap[gb12401]? = some (.cells #[.bool a0_0, .int .i64 a0_1, .int .i64 a0_2, .bool a0_3, .int .i64 a0_4, .int .i64 a0_5] 29 (0, 0))) ∧ Aside0 (wc.heap[gb12408]? = some (.cells #[.bool t12402, .int .i64 t12403, .int .i64 t12404, .bool t12405, .int .i64 t12406, .int .i64 t12407] 29 (0, 0))) ∧ Aside0 (Below w.heap.size w wc))
  case first =>
    have H := HC5.out
    clear HC5
    by_cases c12 : a1 < (-2199023255552)
    · rw [if_pos c12] at H
      have c12b0 : decide (a1 < (-2199023255552)) = true := decide_eq_true c12
      clear c12
      (first | rw [c12b0] | (simp only [i64_w, i32_w]; rw [c12b0]) | skip)
      have H' := Aside0.mk H
      clear H
      go_wp2
      go_meet
      case rel => exact ⟨_, (true), (by first | rfl | (simp; done) | (simp [*]; done)), H', ⟨by first | omega | exact Nat.le_refl _⟩, ⟨pk BK12401⟩, ⟨pK BK12408⟩, ⟨pl HB⟩⟩
    · rw [if_neg c12] at H
      have c12b0 : decide (a1 < (-2199023255552)) = false := decide_eq_false c12
      clear c12
      (first | rw [c12b0] | (simp only [i64_w, i32_w]; rw [c12b0]) | skip)
      by_cases c13 : a1 > 2199023255552
      · rw [if_pos c13] at H
        have c13b0 : decide (2199023255552 < a1) = true := decide_eq_true c13
        clear c13
        have H' := Aside0.mk H
        clear H
        go_wp2
        go_meet
        case rel => exact ⟨_, (true), (by first | rfl | (simp; done) | (simp [*]; done)), H', ⟨by first | omega | exact Nat.le_refl _⟩, ⟨pk BK12401⟩, ⟨pK BK12408⟩, ⟨pl HB⟩⟩
      · rw [if_neg c13] at H
        have c13b0 : decide (2199023255552 < a1) = false := decide_eq_false c13
        clear c13
        by_cases c14 : a2 < (-2199023255552)
        · rw [if_pos c14] at H
          have c14b0 : decide (a2 < (-2199023255552)) = true := decide_eq_true c14
          clear c14
          have H' := Aside0.mk H
          clear H
          go_wp2
          go_meet
          case rel => exact ⟨_, (true), (by first | rfl | (simp; done) | (simp [*]; done)), H', ⟨by first | omega | exact Nat.le_refl _⟩, ⟨pk BK12401⟩, ⟨pK BK12408⟩, ⟨pl HB⟩⟩
        · rw [if_neg c14] at H
          have c14b0 : decide (a2 < (-2199023255552)) = false := decide_eq_false c14
          clear c14
          have H' := Aside0.mk H
          clear H
          go_wp2
          go_meet
          case rel => exact ⟨_, (decide (a2 > 2199023255552)), (by first | rfl | (simp; done) | (simp [*]; done)), H', ⟨by first | omega | exact Nat.le_refl _⟩, ⟨pk BK12401⟩, ⟨pK BK12408⟩, ⟨pl HB⟩⟩
  case rest =>
    clear HC5
    try clear c1
    try clear p2
    try clear c3
    try clear c6
    try clear c10
    try clear c12
    try clear c12b0
    try clear c13
    try clear c13b0
    try clear c14
    try clear c14b0
    try clear hcz11_0
    try clear hcz11_1
    try clear hcz11_2
    try clear hcz11_3
    try clear hcz11_4
    try clear hcz11_5
    try clear hcz7_0
    try clear hcz7_1
    try clear hcz7_2
    try clear hcz7_3
    try clear hcz7_4
    try clear hcz7_5
    try clear hfz11_0
    try clear hfz11_1
    try clear hfz11_2
    try clear hfz11_3
    try clear hfz11_4
    try clear hfz11_5
    try clear hfz7_0
    try clear hfz7_1
    try clear hfz7_2
    try clear hfz7_3
    try clear hfz7_4
    try clear hfz7_5
    obtain ⟨kq, x23_4, rfl, HA, HJ4, BK12401, BK12408, HB⟩ := hcut
    cases kq with
    | zero => exact absurd HA.out (by simp [flyballref21_Has.j0])
    | succ kj4 =>
      have H := HA.out
      clear HA
      simp only [flyballref21_Has.j0] at H
      by_cases c15 : x23_4 = true
      · subst c15
        rw [if_pos rfl] at H
        obtain rfl := Option.some.inj H
        go_wp2
        go_ret
        exact ⟨pe, pl HB⟩
      · replace c15 := Bool.eq_false_iff.mpr c15
        subst c15
        rw [if_neg (show ¬ (false = true) by decide)] at H
        obtain ⟨t12409, A160, H⟩ := Option.bind_eq_some_iff.mp H
        have A16 := Aside0.mk A160
        clear A160
        (try dsimp only at H)
        by_cases c17 : t12409 = true
        · subst c17
          rw [if_pos rfl] at H
          obtain ⟨t12410, A180, H⟩ := Option.bind_eq_some_iff.mp H
          have A18 := Aside0.mk A180
          clear A180
          (try dsimp only at H)
          obtain rfl := Option.some.inj H
          have hnb19 := NB12408_12401.out
          have hnc19 := NB12401_12408.out
          have hcz20_0 : wc.cell? ⟨gb12408, 0, none⟩ = some (.bool t12402) := bc BK12408 0
          have hcz20_1 : wc.cell? ⟨gb12408, 1, none⟩ = some (.int .i64 t12403) := bc BK12408 1
          have hcz20_2 : wc.cell? ⟨gb12408, 2, none⟩ = some (.int .i64 t12404) := bc BK12408 2
          have hcz20_3 : wc.cell? ⟨gb12408, 3, none⟩ = some (.bool t12405) := bc BK12408 3
          have hcz20_4 : wc.cell? ⟨gb12408, 4, none⟩ = some (.int .i64 t12406) := bc BK12408 4
          have hcz20_5 : wc.cell? ⟨gb12408, 5, none⟩ = some (.int .i64 t12407) := bc BK12408 5
          have hfz20_0 := blk_frozen BK12408.out 0
          have hfz20_1 := blk_frozen BK12408.out 1
          have hfz20_2 := blk_frozen BK12408.out 2
          have hfz20_3 := blk_frozen BK12408.out 3
          have hfz20_4 := blk_frozen BK12408.out 4
          have hfz20_5 := blk_frozen BK12408.out 5
          go_wp2_with (first | ((with_reducible refine gate_callee (f := 40) rfl ?_); refine kc (some 29) Try.func40 #[.agg #[.bool t12402, .int .i64 t12403, .int .i64 t12404], .int .i64 (wrap64 (a1 - a2))] (flyballref17_Has.calls t12402 t12403 t12404 (wrap64 (a1 - a2)) true _ A16.out) ?_; intro w21 hb; replace BK12401 := kb BK12401 hb; replace BK12408 := kb BK12408 hb; replace HB := kh HB hb; (try clear hb); have ⟨hcz22_0, hcz22_1, hcz22_2, hcz22_3, hcz22_4, hcz22_5, hfz22_0, hfz22_1, hfz22_2, hfz22_3, hfz22_4, hfz22_5⟩ := kz6f BK12408) | (go_at_call 40; (with_reducible refine (flyballref17_Has.calls t12405 t12406 t12407 (wrap64 (a1 + a2)) t12410 _ A18.out).mono ?_); rintro e w23 ⟨rfl, hb⟩; replace BK12401 := kb BK12401 hb; replace BK12408 := kb BK12408 hb; replace HB := kh HB hb; (try clear hb)))
          go_ret
          exact ⟨pe, pl HB⟩
        · replace c17 := Bool.eq_false_iff.mpr c17
          subst c17
          rw [if_neg (show ¬ (false = true) by decide)] at H
          obtain rfl := Option.some.inj H
          have hnb24 := NB12408_12401.out
          have hnc24 := NB12401_12408.out
          have hcz25_0 : wc.cell? ⟨gb12408, 0, none⟩ = some (.bool t12402) := bc BK12408 0
          have hcz25_1 : wc.cell? ⟨gb12408, 1, none⟩ = some (.int .i64 t12403) := bc BK12408 1
          have hcz25_2 : wc.cell? ⟨gb12408, 2, none⟩ = some (.int .i64 t12404) := bc BK12408 2
          have hcz25_3 : wc.cell? ⟨gb12408, 3, none⟩ = some (.bool t12405) := bc BK12408 3
          have hcz25_4 : wc.cell? ⟨gb12408, 4, none⟩ = some (.int .i64 t12406) := bc BK12408 4
          have hcz25_5 : wc.cell? ⟨gb12408, 5, none⟩ = some (.int .i64 t12407) := bc BK12408 5
          have hfz25_0 := blk_frozen BK12408.out 0
          have hfz25_1 := blk_frozen BK12408.out 1
          have hfz25_2 := blk_frozen BK12408.out 2
          have hfz25_3 := blk_frozen BK12408.out 3
          have hfz25_4 := blk_frozen BK12408.out 4
          have hfz25_5 := blk_frozen BK12408.out 5
          go_wp2_with (first | ((with_reducible refine gate_callee (f := 40) rfl ?_); refine kc (some 29) Try.func40 #[.agg #[.bool t12402, .int .i64 t12403, .int .i64 t12404], .int .i64 (wrap64 (a1 - a2))] (flyballref17_Has.calls t12402 t12403 t12404 (wrap64 (a1 - a2)) false _ A16.out) ?_; intro w26 hb; replace BK12401 := kb BK12401 hb; replace BK12408 := kb BK12408 hb; replace HB := kh HB hb; (try clear hb)))
          go_ret
          exact ⟨pe, pl HB⟩
end Go.Proofs.Ytinmgnlofininaa.PAll
end
