-- Laid by this session's wip/more.py over the kit's print; hand-written parts are in it.
import Derived.Test.YtinmgnlofininaaPAllx0
import Derived.Test.YtinmgnlofininaaPAllx3
namespace Go.Proofs.Ytinmgnlofininaa.PAll
open Go.RowKit Go.Proofs.YtinmgnlofininaaW.PrintWords Go.Proofs.YtinmgnlofininaaW.PrintLast Go.Proofs.YtinmgnlofininaaW.PrintMore
attribute [local go_sem] max2_int min2_int max_two min_two max_three min_three max_four min_four   -- for this text's walks alone
set_option linter.unusedVariables false
set_option linter.unusedSimpArgs false

/-! ### flyballlaw17_of: function 55 -/
mutual
def flyballlaw17_of.j0 : Nat → Int → Bool → Bool → Int → Int → Option (Int × Bool)
  | 0, _, _, _, _, _ => none
  | k + 1, x1, x16, x4602000, x4602001, x4602002 => if x16 = true then (some (x1, true)) else (if x4602001 > (-2147483648) then (if x4602001 < 2147483648 then ((ints_Has.f x4602000 x4602001 x4602002 x4602001).bind fun t4603 => (flyballlaw17_of.j1 k t4603 x4602000 x4602001 x4602002)) else (flyballlaw17_of.j1 k false x4602000 x4602001 x4602002)) else (flyballlaw17_of.j1 k false x4602000 x4602001 x4602002))
def flyballlaw17_of.j1 : Nat → Bool → Bool → Int → Int → Option (Int × Bool)
  | 0, _, _, _, _ => none
  | k + 1, x31, x4602000, x4602001, x4602002 => if x31 = true then (some (x4602001, true)) else (if x4602002 > (-2147483648) then (if x4602002 < 2147483648 then ((ints_Has.f x4602000 x4602001 x4602002 x4602002).bind fun t4604 => (if t4604 = true then (some (x4602002, true)) else ((ints_Has.f x4602000 x4602001 x4602002 0).bind fun t4605 => (some (0, t4605))))) else ((ints_Has.f x4602000 x4602001 x4602002 0).bind fun t4606 => (some (0, t4606)))) else ((ints_Has.f x4602000 x4602001 x4602002 0).bind fun t4607 => (some (0, t4607))))
end
def flyballlaw17_of.f (k : Nat) (a0_0 : Bool) (a0_1 : Int) (a0_2 : Int) (a1 : Int) : Option (Int × Bool) := (ints_Has.f a0_0 a0_1 a0_2 a1).bind fun t4602 => (if t4602 = true then (if a1 > (-2147483648) then (flyballlaw17_of.j0 k a1 (decide (a1 < 2147483648)) a0_0 a0_1 a0_2) else (flyballlaw17_of.j0 k a1 false a0_0 a0_1 a0_2)) else (flyballlaw17_of.j0 k a1 false a0_0 a0_1 a0_2))
theorem flyballlaw17_of.mono_l : ∀ k, (∀ y0 y1 y2 y3 y4, LeO (flyballlaw17_of.j0 k y0 y1 y2 y3 y4) (flyballlaw17_of.j0 (k + 1) y0 y1 y2 y3 y4)) ∧ (∀ y0 y1 y2 y3, LeO (flyballlaw17_of.j1 k y0 y1 y2 y3) (flyballlaw17_of.j1 (k + 1) y0 y1 y2 y3))
  | 0 => ⟨fun _ _ _ _ _ r h => by simp [flyballlaw17_of.j0] at h, fun _ _ _ _ r h => by simp [flyballlaw17_of.j1] at h⟩
  | k + 1 => by
    obtain ⟨ih0, ih1⟩ := flyballlaw17_of.mono_l k
    refine ⟨?_, ?_⟩
    · intro y0 y1 y2 y3 y4
      unfold flyballlaw17_of.j0
      repeat' first
      | (with_reducible exact ih0 _ _ _ _ _)
      | (with_reducible exact ih1 _ _ _ _)
      | (with_reducible exact LeO.refl _)
      | (with_reducible exact LeO.none _)
      | (with_reducible refine LeO.ite ?_ ?_)
      | (with_reducible refine LeO.bind ?_ (fun _ => ?_))
      | exact ih0 _ _ _ _ _
      | exact ih1 _ _ _ _
      | exact LeO.none _
      | refine LeO.ite ?_ ?_
      | refine LeO.bind ?_ (fun _ => ?_)
    · intro y0 y1 y2 y3
      unfold flyballlaw17_of.j1
      repeat' first
      | (with_reducible exact ih0 _ _ _ _ _)
      | (with_reducible exact ih1 _ _ _ _)
      | (with_reducible exact LeO.refl _)
      | (with_reducible exact LeO.none _)
      | (with_reducible refine LeO.ite ?_ ?_)
      | (with_reducible refine LeO.bind ?_ (fun _ => ?_))
      | exact ih0 _ _ _ _ _
      | exact ih1 _ _ _ _
      | exact LeO.none _
      | refine LeO.ite ?_ ?_
      | refine LeO.bind ?_ (fun _ => ?_)
theorem flyballlaw17_of.mono : ∀ a0 a1 a2 a3 k, LeO (flyballlaw17_of.f k a0 a1 a2 a3) (flyballlaw17_of.f (k + 1) a0 a1 a2 a3) := by
  intro a0 a1 a2 a3 k
  obtain ⟨ih0, ih1⟩ := flyballlaw17_of.mono_l k
  unfold flyballlaw17_of.f
  repeat' first
      | (with_reducible exact ih0 _ _ _ _ _)
      | (with_reducible exact ih1 _ _ _ _)
      | (with_reducible exact LeO.refl _)
      | (with_reducible exact LeO.none _)
      | (with_reducible refine LeO.ite ?_ ?_)
      | (with_reducible refine LeO.bind ?_ (fun _ => ?_))
      | exact ih0 _ _ _ _ _
      | exact ih1 _ _ _ _
      | exact LeO.none _
      | refine LeO.ite ?_ ?_
      | refine LeO.bind ?_ (fun _ => ?_)
set_option maxHeartbeats 8000000 in
set_option maxRecDepth 100000 in
theorem flyballlaw17_of.calls (k : Nat) (a0_0 : Bool) (a0_1 : Int) (a0_2 : Int) (a1 : Int) (r1 : Int) (r2 : Bool) (w : World) (h : flyballlaw17_of.f k a0_0 a0_1 a0_2 a1 = some (r1, r2)) :
    Calls Try.prog 55 #[.agg #[.bool a0_0, .int .i64 a0_1, .int .i64 a0_2], .int .i64 a1] w fun e w' => e = .returned (.tuple #[.int .i64 r1, .bool r2]) ∧ Below w.heap.size w w' := by
  have hu23 := Try.underlying23
  have HB := Aside0.mk (Below.refl w.heap.size w)
  have H := h
  clear h
  unfold flyballlaw17_of.f at H
  have HC3 := Aside0.mk H
  clear H
  go_enter Try.func55, Try.ntmps55
  go_upto_region 1 with (first | ((with_reducible refine gate_dst (N := 2) rfl ?_); refine kx 2 #[.bool a0_0, .int .i64 a0_1, .int .i64 a0_2] 23 ?_; intro gb4601 hg w4 hbox hb; have BK4601 := Aside0.mk (hbox); have GW4601 := kg HB hg; have GE4601 := kg HB hg; replace HB := kh HB hb; clear hb hbox hg))
  (try simp only [Act.put, List.setIfInBounds_toArray, List.set_cons_zero, List.set_cons_succ])
  go_cut [16] (fun v16 wc => ∃ (kq : Nat) (x16_2 : Bool), v16 = .bool x16_2 ∧ Aside0 (flyballlaw17_of.j0 kq a1 x16_2 a0_0 a0_1 a0_2 = some (r1, r2)) ∧ Aside0 (kq ≤ k) ∧ Aside0 (wc.heap[gb4601]? = some (.cells #[.bool a0_0, .int .i64 a0_1, .int .i64 a0_2] 23 (0, 0))) ∧ Aside0 (Below w.heap.size w wc))
  case first =>
    have H := HC3.out
    clear HC3
    obtain ⟨t4602, A50, H⟩ := Option.bind_eq_some_iff.mp H
    have A5 := Aside0.mk A50
    clear A50
    (try dsimp only at H)
    by_cases c6 : t4602 = true
    · subst c6
      rw [if_pos rfl] at H
      by_cases c7 : a1 > (-2147483648)
      · rw [if_pos c7] at H
        have c7b0 : decide ((-2147483648) < a1) = true := decide_eq_true c7
        clear c7
        (first | rw [c7b0] | (simp only [i64_w, i32_w]; rw [c7b0]) | skip)
        have H' := Aside0.mk H
        clear H
        have ⟨hcz8_0, hcz8_1, hcz8_2, hfz8_0, hfz8_1, hfz8_2⟩ := kz3f BK4601
        go_wp2_with (first | ((with_reducible refine gate_callee (f := 36) rfl ?_); refine kc (some 8) Try.func36 #[.agg #[.bool a0_0, .int .i64 a0_1, .int .i64 a0_2], .int .i64 a1] (ints_Has.calls a0_0 a0_1 a0_2 a1 true _ A5.out) ?_; intro w9 hb; replace BK4601 := kb BK4601 hb; replace HB := kh HB hb; (try clear hb)))
        go_meet
        case rel => exact ⟨_, (decide (a1 < 2147483648)), (by first | rfl | (simp; done) | (simp [*]; done)), H', ⟨by first | omega | exact Nat.le_refl _⟩, ⟨pk BK4601⟩, ⟨pl HB⟩⟩
      · rw [if_neg c7] at H
        have c7b0 : decide ((-2147483648) < a1) = false := decide_eq_false c7
        clear c7
        (first | rw [c7b0] | (simp only [i64_w, i32_w]; rw [c7b0]) | skip)
        have H' := Aside0.mk H
        clear H
        have ⟨hcz10_0, hcz10_1, hcz10_2, hfz10_0, hfz10_1, hfz10_2⟩ := kz3f BK4601
        go_wp2_with (first | ((with_reducible refine gate_callee (f := 36) rfl ?_); refine kc (some 8) Try.func36 #[.agg #[.bool a0_0, .int .i64 a0_1, .int .i64 a0_2], .int .i64 a1] (ints_Has.calls a0_0 a0_1 a0_2 a1 true _ A5.out) ?_; intro w11 hb; replace BK4601 := kb BK4601 hb; replace HB := kh HB hb; (try clear hb)))
        go_meet
        case rel => exact ⟨_, (false), (by first | rfl | (simp; done) | (simp [*]; done)), H', ⟨by first | omega | exact Nat.le_refl _⟩, ⟨pk BK4601⟩, ⟨pl HB⟩⟩
    · replace c6 := Bool.eq_false_iff.mpr c6
      subst c6
      rw [if_neg (show ¬ (false = true) by decide)] at H
      have H' := Aside0.mk H
      clear H
      have ⟨hcz12_0, hcz12_1, hcz12_2, hfz12_0, hfz12_1, hfz12_2⟩ := kz3f BK4601
      go_wp2_with (first | ((with_reducible refine gate_callee (f := 36) rfl ?_); refine kc (some 8) Try.func36 #[.agg #[.bool a0_0, .int .i64 a0_1, .int .i64 a0_2], .int .i64 a1] (ints_Has.calls a0_0 a0_1 a0_2 a1 false _ A5.out) ?_; intro w13 hb; replace BK4601 := kb BK4601 hb; replace HB := kh HB hb; (try clear hb)))
      go_meet
      case rel => exact ⟨_, (false), (by first | rfl | (simp; done) | (simp [*]; done)), H', ⟨by first | omega | exact Nat.le_refl _⟩, ⟨pk BK4601⟩, ⟨pl HB⟩⟩
  case rest =>
    clear HC3
    try clear p2
    try clear c3
    try clear c5
    try clear c6
    try clear c7
    try clear c7b0
    try clear hcz10_0
    try clear hcz10_1
    try clear hcz10_2
    try clear hcz12_0
    try clear hcz12_1
    try clear hcz12_2
    try clear hcz8_0
    try clear hcz8_1
    try clear hcz8_2
    try clear hfz10_0
    try clear hfz10_1
    try clear hfz10_2
    try clear hfz12_0
    try clear hfz12_1
    try clear hfz12_2
    try clear hfz8_0
    try clear hfz8_1
    try clear hfz8_2
    obtain ⟨kq, x16_2, rfl, HA, HJ2, BK4601, HB⟩ := hcut
    cases kq with
    | zero => exact absurd HA.out (by simp [flyballlaw17_of.j0])
    | succ kj2 =>
      have H := HA.out
      clear HA
      simp only [flyballlaw17_of.j0] at H
      by_cases c14 : x16_2 = true
      · subst c14
        rw [if_pos rfl] at H
        simp only [Option.some.injEq, Prod.mk.injEq] at H
        obtain ⟨rfl, rfl⟩ := H
        go_wp2
        go_ret2
        exact ⟨pe, pl HB⟩
      · replace c14 := Bool.eq_false_iff.mpr c14
        subst c14
        rw [if_neg (show ¬ (false = true) by decide)] at H
        have HC15 := Aside0.mk H
        clear H
        go_upto_region 3 with (fail)
        go_cut [31] (fun v31 wc => ∃ (kq : Nat) (x31_14 : Bool), v31 = .bool x31_14 ∧ Aside0 (flyballlaw17_of.j1 kq x31_14 a0_0 a0_1 a0_2 = some (r1, r2)) ∧ Aside0 (kq ≤ kj2) ∧ Aside0 (wc.heap[gb4601]? = some (.cells #[.bool a0_0, .int .i64 a0_1, .int .i64 a0_2] 23 (0, 0))) ∧ Aside0 (Below w.heap.size w wc))
        case first =>
          have H := HC15.out
          clear HC15
          by_cases c16 : a0_1 > (-2147483648)
          · rw [if_pos c16] at H
            have c16b0 : decide ((-2147483648) < a0_1) = true := decide_eq_true c16
            clear c16
            (first | rw [c16b0] | (simp only [i64_w, i32_w]; rw [c16b0]) | skip)
            by_cases c17 : a0_1 < 2147483648
            · rw [if_pos c17] at H
              have c17b0 : decide (a0_1 < 2147483648) = true := decide_eq_true c17
              clear c17
              obtain ⟨t4603, A180, H⟩ := Option.bind_eq_some_iff.mp H
              have A18 := Aside0.mk A180
              clear A180
              (try dsimp only at H)
              have H' := Aside0.mk H
              clear H
              have hcz19_0 : wc.cell? ⟨gb4601, 0, none⟩ = some (.bool a0_0) := bc BK4601 0
              have hcz19_1 : wc.cell? ⟨gb4601, 1, none⟩ = some (.int .i64 a0_1) := bc BK4601 1
              have hcz19_2 : wc.cell? ⟨gb4601, 2, none⟩ = some (.int .i64 a0_2) := bc BK4601 2
              have hfz19_0 := blk_frozen BK4601.out 0
              have hfz19_1 := blk_frozen BK4601.out 1
              have hfz19_2 := blk_frozen BK4601.out 2
              go_wp2_with (first | (go_at_call 36; (with_reducible refine (ints_Has.calls a0_0 a0_1 a0_2 a0_1 t4603 _ A18.out).mono ?_); rintro e w20 ⟨rfl, hb⟩; replace BK4601 := kb BK4601 hb; replace HB := kh HB hb; (try clear hb)))
              go_meet
              case rel => exact ⟨_, (t4603), (by first | rfl | (simp; done) | (simp [*]; done)), H', ⟨by have := HJ2.out; first | omega | exact Nat.le_refl _⟩, ⟨pk BK4601⟩, ⟨pl HB⟩⟩
            · rw [if_neg c17] at H
              have c17b0 : decide (a0_1 < 2147483648) = false := decide_eq_false c17
              clear c17
              have H' := Aside0.mk H
              clear H
              have hcz21_0 : wc.cell? ⟨gb4601, 0, none⟩ = some (.bool a0_0) := bc BK4601 0
              have hcz21_1 : wc.cell? ⟨gb4601, 1, none⟩ = some (.int .i64 a0_1) := bc BK4601 1
              have hcz21_2 : wc.cell? ⟨gb4601, 2, none⟩ = some (.int .i64 a0_2) := bc BK4601 2
              have hfz21_0 := blk_frozen BK4601.out 0
              have hfz21_1 := blk_frozen BK4601.out 1
              have hfz21_2 := blk_frozen BK4601.out 2
              go_wp2
              go_meet
              case rel => exact ⟨_, (false), (by first | rfl | (simp; done) | (simp [*]; done)), H', ⟨by have := HJ2.out; first | omega | exact Nat.le_refl _⟩, ⟨pk BK4601⟩, ⟨pl HB⟩⟩
          · rw [if_neg c16] at H
            have c16b0 : decide ((-2147483648) < a0_1) = false := decide_eq_false c16
            clear c16
            (first | rw [c16b0] | (simp only [i64_w, i32_w]; rw [c16b0]) | skip)
            have H' := Aside0.mk H
            clear H
            have hcz22_0 : wc.cell? ⟨gb4601, 0, none⟩ = some (.bool a0_0) := bc BK4601 0
            have hcz22_1 : wc.cell? ⟨gb4601, 1, none⟩ = some (.int .i64 a0_1) := bc BK4601 1
            have hcz22_2 : wc.cell? ⟨gb4601, 2, none⟩ = some (.int .i64 a0_2) := bc BK4601 2
            have hfz22_0 := blk_frozen BK4601.out 0
            have hfz22_1 := blk_frozen BK4601.out 1
            have hfz22_2 := blk_frozen BK4601.out 2
            go_wp2
            go_meet
            case rel => exact ⟨_, (false), (by first | rfl | (simp; done) | (simp [*]; done)), H', ⟨by have := HJ2.out; first | omega | exact Nat.le_refl _⟩, ⟨pk BK4601⟩, ⟨pl HB⟩⟩
        case rest =>
          clear HC15
          try clear c1
          try clear p2
          try clear c3
          try clear c5
          try clear c6
          try clear c7
          try clear c7b0
          try clear c14
          try clear c16
          try clear c16b0
          try clear c17
          try clear c17b0
          try clear hcz10_0
          try clear hcz10_1
          try clear hcz10_2
          try clear hcz12_0
          try clear hcz12_1
          try clear hcz12_2
          try clear hcz19_0
          try clear hcz19_1
          try clear hcz19_2
          try clear hcz21_0
          try clear hcz21_1
          try clear hcz21_2
          try clear hcz22_0
          try clear hcz22_1
          try clear hcz22_2
          try clear hcz8_0
          try clear hcz8_1
          try clear hcz8_2
          try clear hfz10_0
          try clear hfz10_1
          try clear hfz10_2
          try clear hfz12_0
          try clear hfz12_1
          try clear hfz12_2
          try clear hfz19_0
          try clear hfz19_1
          try clear hfz19_2
          try clear hfz21_0
          try clear hfz21_1
          try clear hfz21_2
          try clear hfz22_0
          try clear hfz22_1
          try clear hfz22_2
          try clear hfz8_0
          try clear hfz8_1
          try clear hfz8_2
          try clear p2
          obtain ⟨kq, x31_14, rfl, HA, HJ14, BK4601, HB⟩ := hcut
          cases kq with
          | zero => exact absurd HA.out (by simp [flyballlaw17_of.j1])
          | succ kj14 =>
            have H := HA.out
            clear HA
            simp only [flyballlaw17_of.j1] at H
            by_cases c23 : x31_14 = true
            · subst c23
              rw [if_pos rfl] at H
              simp only [Option.some.injEq, Prod.mk.injEq] at H
              obtain ⟨rfl, rfl⟩ := H
              have hcz24_0 : wc.cell? ⟨gb4601, 0, none⟩ = some (.bool a0_0) := bc BK4601 0
              have hcz24_1 : wc.cell? ⟨gb4601, 1, none⟩ = some (.int .i64 a0_1) := bc BK4601 1
              have hcz24_2 : wc.cell? ⟨gb4601, 2, none⟩ = some (.int .i64 a0_2) := bc BK4601 2
              have hfz24_0 := blk_frozen BK4601.out 0
              have hfz24_1 := blk_frozen BK4601.out 1
              have hfz24_2 := blk_frozen BK4601.out 2
              go_wp2
              go_ret2
              exact ⟨pe, pl HB⟩
            · replace c23 := Bool.eq_false_iff.mpr c23
              subst c23
              rw [if_neg (show ¬ (false = true) by decide)] at H
              by_cases c25 : a0_2 > (-2147483648)
              · rw [if_pos c25] at H
                have c25b0 : decide ((-2147483648) < a0_2) = true := decide_eq_true c25
                clear c25
                by_cases c26 : a0_2 < 2147483648
                · rw [if_pos c26] at H
                  have c26b0 : decide (a0_2 < 2147483648) = true := decide_eq_true c26
                  clear c26
                  obtain ⟨t4604, A270, H⟩ := Option.bind_eq_some_iff.mp H
                  have A27 := Aside0.mk A270
                  clear A270
                  (try dsimp only at H)
                  by_cases c28 : t4604 = true
                  · subst c28
                    rw [if_pos rfl] at H
                    simp only [Option.some.injEq, Prod.mk.injEq] at H
                    obtain ⟨rfl, rfl⟩ := H
                    have hcz29_0 : wc.cell? ⟨gb4601, 0, none⟩ = some (.bool a0_0) := bc BK4601 0
                    have hcz29_1 : wc.cell? ⟨gb4601, 1, none⟩ = some (.int .i64 a0_1) := bc BK4601 1
                    have hcz29_2 : wc.cell? ⟨gb4601, 2, none⟩ = some (.int .i64 a0_2) := bc BK4601 2
                    have hfz29_0 := blk_frozen BK4601.out 0
                    have hfz29_1 := blk_frozen BK4601.out 1
                    have hfz29_2 := blk_frozen BK4601.out 2
                    go_wp2_with (first | (go_at_call 36; (with_reducible refine (ints_Has.calls a0_0 a0_1 a0_2 a0_2 true _ A27.out).mono ?_); rintro e w30 ⟨rfl, hb⟩; replace BK4601 := kb BK4601 hb; replace HB := kh HB hb; (try clear hb); have ⟨hcz31_0, hcz31_1, hcz31_2, hfz31_0, hfz31_1, hfz31_2⟩ := kz3f BK4601))
                    go_ret2
                    exact ⟨pe, pl HB⟩
                  · replace c28 := Bool.eq_false_iff.mpr c28
                    subst c28
                    rw [if_neg (show ¬ (false = true) by decide)] at H
                    obtain ⟨t4605, A320, H⟩ := Option.bind_eq_some_iff.mp H
                    have A32 := Aside0.mk A320
                    clear A320
                    (try dsimp only at H)
                    simp only [Option.some.injEq, Prod.mk.injEq] at H
                    obtain ⟨rfl, rfl⟩ := H
                    have hcz33_0 : wc.cell? ⟨gb4601, 0, none⟩ = some (.bool a0_0) := bc BK4601 0
                    have hcz33_1 : wc.cell? ⟨gb4601, 1, none⟩ = some (.int .i64 a0_1) := bc BK4601 1
                    have hcz33_2 : wc.cell? ⟨gb4601, 2, none⟩ = some (.int .i64 a0_2) := bc BK4601 2
                    have hfz33_0 := blk_frozen BK4601.out 0
                    have hfz33_1 := blk_frozen BK4601.out 1
                    have hfz33_2 := blk_frozen BK4601.out 2
                    go_wp2_with (first | (go_at_call 36; (with_reducible refine (ints_Has.calls a0_0 a0_1 a0_2 a0_2 false _ A27.out).mono ?_); rintro e w34 ⟨rfl, hb⟩; replace BK4601 := kb BK4601 hb; replace HB := kh HB hb; (try clear hb); have ⟨hcz35_0, hcz35_1, hcz35_2, hfz35_0, hfz35_1, hfz35_2⟩ := kz3f BK4601) | ((with_reducible refine gate_callee (f := 36) rfl ?_); refine kc (some 51) Try.func36 #[.agg #[.bool a0_0, .int .i64 a0_1, .int .i64 a0_2], .int .i64 0] (ints_Has.calls a0_0 a0_1 a0_2 0 t4605 _ A32.out) ?_; intro w36 hb; replace BK4601 := kb BK4601 hb; replace HB := kh HB hb; (try clear hb)))
                    go_ret2
                    exact ⟨pe, pl HB⟩
                · rw [if_neg c26] at H
                  have c26b0 : decide (a0_2 < 2147483648) = false := decide_eq_false c26
                  clear c26
                  obtain ⟨t4606, A370, H⟩ := Option.bind_eq_some_iff.mp H
                  have A37 := Aside0.mk A370
                  clear A370
                  (try dsimp only at H)
                  simp only [Option.some.injEq, Prod.mk.injEq] at H
                  obtain ⟨rfl, rfl⟩ := H
                  have hcz38_0 : wc.cell? ⟨gb4601, 0, none⟩ = some (.bool a0_0) := bc BK4601 0
                  have hcz38_1 : wc.cell? ⟨gb4601, 1, none⟩ = some (.int .i64 a0_1) := bc BK4601 1
                  have hcz38_2 : wc.cell? ⟨gb4601, 2, none⟩ = some (.int .i64 a0_2) := bc BK4601 2
                  have hfz38_0 := blk_frozen BK4601.out 0
                  have hfz38_1 := blk_frozen BK4601.out 1
                  have hfz38_2 := blk_frozen BK4601.out 2
                  go_wp2_with (first | ((with_reducible refine gate_callee (f := 36) rfl ?_); refine kc (some 51) Try.func36 #[.agg #[.bool a0_0, .int .i64 a0_1, .int .i64 a0_2], .int .i64 0] (ints_Has.calls a0_0 a0_1 a0_2 0 t4606 _ A37.out) ?_; intro w39 hb; replace BK4601 := kb BK4601 hb; replace HB := kh HB hb; (try clear hb)))
                  go_ret2
                  exact ⟨pe, pl HB⟩
              · rw [if_neg c25] at H
                have c25b0 : decide ((-2147483648) < a0_2) = false := decide_eq_false c25
                clear c25
                obtain ⟨t4607, A400, H⟩ := Option.bind_eq_some_iff.mp H
                have A40 := Aside0.mk A400
                clear A400
                (try dsimp only at H)
                simp only [Option.some.injEq, Prod.mk.injEq] at H
                obtain ⟨rfl, rfl⟩ := H
                have hcz41_0 : wc.cell? ⟨gb4601, 0, none⟩ = some (.bool a0_0) := bc BK4601 0
                have hcz41_1 : wc.cell? ⟨gb4601, 1, none⟩ = some (.int .i64 a0_1) := bc BK4601 1
                have hcz41_2 : wc.cell? ⟨gb4601, 2, none⟩ = some (.int .i64 a0_2) := bc BK4601 2
                have hfz41_0 := blk_frozen BK4601.out 0
                have hfz41_1 := blk_frozen BK4601.out 1
                have hfz41_2 := blk_frozen BK4601.out 2
                go_wp2_with (first | ((with_reducible refine gate_callee (f := 36) rfl ?_); refine kc (some 51) Try.func36 #[.agg #[.bool a0_0, .int .i64 a0_1, .int .i64 a0_2], .int .i64 0] (ints_Has.calls a0_0 a0_1 a0_2 0 t4607 _ A40.out) ?_; intro w42 hb; replace BK4601 := kb BK4601 hb; replace HB := kh HB hb; (try clear hb)))
                go_ret2
                exact ⟨pe, pl HB⟩

end Go.Proofs.Ytinmgnlofininaa.PAll
