-- Laid by this session's wip/more.py over the kit's print; hand-written parts are in it.
import Derived.Test.YtinmgnlofininaaPAllx0
import Derived.Test.YtinmgnlofininaaPAllx3
import Derived.Test.YtinmgnlofininaaPAllx4
import Derived.Test.YtinmgnlofininaaPAllx5
import Derived.Test.YtinmgnlofininaaPAllx6
import Derived.Test.YtinmgnlofininaaPAllx8
import Derived.Test.YtinmgnlofininaaPAllx10
import Derived.Test.YtinmgnlofininaaPAllx13
namespace Go.Proofs.Ytinmgnlofininaa.PAll
open Go.RowKit Go.Proofs.YtinmgnlofininaaW.PrintWords Go.Proofs.YtinmgnlofininaaW.PrintLast Go.Proofs.YtinmgnlofininaaW.PrintMore
attribute [local go_sem] max2_int min2_int max_two min_two max_three min_three max_four min_four   -- for this text's walks alone
set_option linter.unusedVariables false
set_option linter.unusedSimpArgs false

/-! ### flyballlaw17_IntsSound: function 9 -/
mutual
def flyballlaw17_IntsSound.j0 : Nat → Bool → Int → Int → Bool → Bool → Int → Int → Bool → Int → Int → Option (Bool)
  | 0, _, _, _, _, _, _, _, _, _, _ => none
  | k + 1, x9, x10, x12, x36, x4752000, x4752001, x4752002, x4753000, x4753001, x4753002 => if x36 = true then (some x9) else (if x10 < 0 then (flyballlaw17_IntsSound.j1 k x9 x10 x12 (wrap64 (-x10)) x4752000 x4752001 x4752002 x4753000 x4753001 x4753002) else (flyballlaw17_IntsSound.j1 k x9 x10 x12 x10 x4752000 x4752001 x4752002 x4753000 x4753001 x4753002))
def flyballlaw17_IntsSound.j1 : Nat → Bool → Int → Int → Int → Bool → Int → Int → Bool → Int → Int → Option (Bool)
  | 0, _, _, _, _, _, _, _, _, _, _ => none
  | k + 1, x9, x10, x12, x14, x4752000, x4752001, x4752002, x4753000, x4753001, x4753002 => (ints_Add.f k x4752000 x4752001 x4752002 x4753000 x4753001 x4753002).bind fun bt4758 => ((ints_Has.f bt4758.1 bt4758.2.1 bt4758.2.2 (wrap64 (x10 + x12))).bind fun t4761 => (if t4761 = true then ((ints_Sub.f k x4752000 x4752001 x4752002 x4753000 x4753001 x4753002).bind fun bt4762 => ((ints_Has.f bt4762.1 bt4762.2.1 bt4762.2.2 (wrap64 (x10 - x12))).bind fun t4765 => (if t4765 = true then ((ints_Mul.f k x4752000 x4752001 x4752002 x4753000 x4753001 x4753002).bind fun bt4766 => ((ints_Has.f bt4766.1 bt4766.2.1 bt4766.2.2 (wrap64 (x10 * x12))).bind fun t4769 => (if t4769 = true then ((ints_Neg.f x4752000 x4752001 x4752002).bind fun bt4770 => ((ints_Has.f bt4770.1 bt4770.2.1 bt4770.2.2 (wrap64 (-x10))).bind fun t4773 => (if t4773 = true then ((ints_Abs.f k x4752000 x4752001 x4752002).bind fun bt4774 => ((ints_Has.f bt4774.1 bt4774.2.1 bt4774.2.2 x14).bind fun t4777 => (if x9 = true then (if t4777 = true then (if x12 = 0 then (some true) else ((ints_Div.f k x4752000 x4752001 x4752002 x4753000 x4753001 x4753002).bind fun bt4778 => ((ints_Has.f bt4778.1 bt4778.2.1 bt4778.2.2 (wrap64 (Int.tdiv x10 x12))).bind fun t4781 => (some t4781)))) else (none)) else (none)))) else (none)))) else (none)))) else (none)))) else (none)))
end
def flyballlaw17_IntsSound.f (k : Nat) (a0_0 : Bool) (a0_1 : Int) (a0_2 : Int) (a1_0 : Bool) (a1_1 : Int) (a1_2 : Int) (a2 : Int) (a3 : Int) : Option (Bool) := (flyballlaw17_works.f k).bind fun t4753 => (if t4753 = true then ((flyballlaw17_of.f k a0_0 a0_1 a0_2 a2).bind fun bt4754 => ((flyballlaw17_of.f k a1_0 a1_1 a1_2 a3).bind fun bt4756 => (if bt4754.2 = true then (flyballlaw17_IntsSound.j0 k t4753 bt4754.1 bt4756.1 (!bt4756.2) a0_0 a0_1 a0_2 a1_0 a1_1 a1_2) else (flyballlaw17_IntsSound.j0 k t4753 bt4754.1 bt4756.1 true a0_0 a0_1 a0_2 a1_0 a1_1 a1_2)))) else (some false))
theorem flyballlaw17_IntsSound.mono_l : ∀ k, (∀ y0 y1 y2 y3 y4 y5 y6 y7 y8 y9, LeO (flyballlaw17_IntsSound.j0 k y0 y1 y2 y3 y4 y5 y6 y7 y8 y9) (flyballlaw17_IntsSound.j0 (k + 1) y0 y1 y2 y3 y4 y5 y6 y7 y8 y9)) ∧ (∀ y0 y1 y2 y3 y4 y5 y6 y7 y8 y9, LeO (flyballlaw17_IntsSound.j1 k y0 y1 y2 y3 y4 y5 y6 y7 y8 y9) (flyballlaw17_IntsSound.j1 (k + 1) y0 y1 y2 y3 y4 y5 y6 y7 y8 y9))
  | 0 => ⟨fun _ _ _ _ _ _ _ _ _ _ r h => by simp [flyballlaw17_IntsSound.j0] at h, fun _ _ _ _ _ _ _ _ _ _ r h => by simp [flyballlaw17_IntsSound.j1] at h⟩
  | k + 1 => by
    obtain ⟨ih0, ih1⟩ := flyballlaw17_IntsSound.mono_l k
    refine ⟨?_, ?_⟩
    · intro y0 y1 y2 y3 y4 y5 y6 y7 y8 y9
      unfold flyballlaw17_IntsSound.j0
      repeat' first
      | (with_reducible exact ih0 _ _ _ _ _ _ _ _ _ _)
      | (with_reducible exact ih1 _ _ _ _ _ _ _ _ _ _)
      | (with_reducible exact flyballlaw17_of.mono _ _ _ _ _)
      | (with_reducible exact flyballlaw17_works.mono _)
      | (with_reducible exact ints_Abs.mono _ _ _ _)
      | (with_reducible exact ints_Add.mono _ _ _ _ _ _ _)
      | (with_reducible exact ints_Div.mono _ _ _ _ _ _ _)
      | (with_reducible exact ints_Mul.mono _ _ _ _ _ _ _)
      | (with_reducible exact ints_Sub.mono _ _ _ _ _ _ _)
      | (with_reducible exact LeO.refl _)
      | (with_reducible exact LeO.none _)
      | (with_reducible refine LeO.ite ?_ ?_)
      | (with_reducible refine LeO.bind ?_ (fun _ => ?_))
      | exact ih0 _ _ _ _ _ _ _ _ _ _
      | exact ih1 _ _ _ _ _ _ _ _ _ _
      | exact flyballlaw17_of.mono _ _ _ _ _
      | exact flyballlaw17_works.mono _
      | exact ints_Abs.mono _ _ _ _
      | exact ints_Add.mono _ _ _ _ _ _ _
      | exact ints_Div.mono _ _ _ _ _ _ _
      | exact ints_Mul.mono _ _ _ _ _ _ _
      | exact ints_Sub.mono _ _ _ _ _ _ _
      | exact LeO.none _
      | refine LeO.ite ?_ ?_
      | refine LeO.bind ?_ (fun _ => ?_)
    · intro y0 y1 y2 y3 y4 y5 y6 y7 y8 y9
      unfold flyballlaw17_IntsSound.j1
      repeat' first
      | (with_reducible exact ih0 _ _ _ _ _ _ _ _ _ _)
      | (with_reducible exact ih1 _ _ _ _ _ _ _ _ _ _)
      | (with_reducible exact flyballlaw17_of.mono _ _ _ _ _)
      | (with_reducible exact flyballlaw17_works.mono _)
      | (with_reducible exact ints_Abs.mono _ _ _ _)
      | (with_reducible exact ints_Add.mono _ _ _ _ _ _ _)
      | (with_reducible exact ints_Div.mono _ _ _ _ _ _ _)
      | (with_reducible exact ints_Mul.mono _ _ _ _ _ _ _)
      | (with_reducible exact ints_Sub.mono _ _ _ _ _ _ _)
      | (with_reducible exact LeO.refl _)
      | (with_reducible exact LeO.none _)
      | (with_reducible refine LeO.ite ?_ ?_)
      | (with_reducible refine LeO.bind ?_ (fun _ => ?_))
      | exact ih0 _ _ _ _ _ _ _ _ _ _
      | exact ih1 _ _ _ _ _ _ _ _ _ _
      | exact flyballlaw17_of.mono _ _ _ _ _
      | exact flyballlaw17_works.mono _
      | exact ints_Abs.mono _ _ _ _
      | exact ints_Add.mono _ _ _ _ _ _ _
      | exact ints_Div.mono _ _ _ _ _ _ _
      | exact ints_Mul.mono _ _ _ _ _ _ _
      | exact ints_Sub.mono _ _ _ _ _ _ _
      | exact LeO.none _
      | refine LeO.ite ?_ ?_
      | refine LeO.bind ?_ (fun _ => ?_)
theorem flyballlaw17_IntsSound.mono : ∀ a0 a1 a2 a3 a4 a5 a6 a7 k, LeO (flyballlaw17_IntsSound.f k a0 a1 a2 a3 a4 a5 a6 a7) (flyballlaw17_IntsSound.f (k + 1) a0 a1 a2 a3 a4 a5 a6 a7) := by
  intro a0 a1 a2 a3 a4 a5 a6 a7 k
  obtain ⟨ih0, ih1⟩ := flyballlaw17_IntsSound.mono_l k
  unfold flyballlaw17_IntsSound.f
  repeat' first
      | (with_reducible exact ih0 _ _ _ _ _ _ _ _ _ _)
      | (with_reducible exact ih1 _ _ _ _ _ _ _ _ _ _)
      | (with_reducible exact flyballlaw17_of.mono _ _ _ _ _)
      | (with_reducible exact flyballlaw17_works.mono _)
      | (with_reducible exact ints_Abs.mono _ _ _ _)
      | (with_reducible exact ints_Add.mono _ _ _ _ _ _ _)
      | (with_reducible exact ints_Div.mono _ _ _ _ _ _ _)
      | (with_reducible exact ints_Mul.mono _ _ _ _ _ _ _)
      | (with_reducible exact ints_Sub.mono _ _ _ _ _ _ _)
      | (with_reducible exact LeO.refl _)
      | (with_reducible exact LeO.none _)
      | (with_reducible refine LeO.ite ?_ ?_)
      | (with_reducible refine LeO.bind ?_ (fun _ => ?_))
      | exact ih0 _ _ _ _ _ _ _ _ _ _
      | exact ih1 _ _ _ _ _ _ _ _ _ _
      | exact flyballlaw17_of.mono _ _ _ _ _
      | exact flyballlaw17_works.mono _
      | exact ints_Abs.mono _ _ _ _
      | exact ints_Add.mono _ _ _ _ _ _ _
      | exact ints_Div.mono _ _ _ _ _ _ _
      | exact ints_Mul.mono _ _ _ _ _ _ _
      | exact ints_Sub.mono _ _ _ _ _ _ _
      | exact LeO.none _
      | refine LeO.ite ?_ ?_
      | refine LeO.bind ?_ (fun _ => ?_)
def flyballlaw17_IntsSound.T12 : Bool × List (List Nat × List Nat) := (true, [([], []), ([0], [0]), ([1], [1]), ([1, 2], [1, 2]), ([3, 1], [3]), ([4], [4]), ([5, 4], [4, 5]), ([6, 4, 4], [4, 6]), ([7], [7]), ([7], [7]), ([8, 9, 7, 7], [7, 8, 9]), ([7], [7]), ([7], [7]), ([11, 12, 7], [7, 11, 12]), ([10, 13, 10, 7], [7, 10, 13]), ([7, 14, 4], [4, 7, 14]), ([4, 15], [4, 15]), ([16, 14, 0, 1, 2, 3, 4, 5, 6, 7, 8, 9, 10, 11, 12, 13, 14, 15, 16], [16])])
def flyballlaw17_IntsSound.B12 : List Nat := [0, 1, 3, 7, 15, 31, 63, 127, 255, 255, 1023, 255, 255, 6399, 16383, 32767, 65535, 131071]
theorem flyballlaw17_IntsSound.tab12 : rtab .any (opsOf Try.f9 12) = flyballlaw17_IntsSound.T12 := by kernel_rfl
theorem flyballlaw17_IntsSound.bits12 : waitsOk flyballlaw17_IntsSound.T12.2 flyballlaw17_IntsSound.B12 = true := by kernel_rfl
set_option maxHeartbeats 8000000 in
set_option maxRecDepth 100000 in
theorem flyballlaw17_IntsSound.calls (k : Nat) (a0_0 : Bool) (a0_1 : Int) (a0_2 : Int) (a1_0 : Bool) (a1_1 : Int) (a1_2 : Int) (a2 : Int) (a3 : Int) (r : Bool) (w : World) (h : flyballlaw17_IntsSound.f k a0_0 a0_1 a0_2 a1_0 a1_1 a1_2 a2 a3 = some r) :
    Calls Try.prog 9 #[.agg #[.bool a0_0, .int .i64 a0_1, .int .i64 a0_2], .agg #[.bool a1_0, .int .i64 a1_1, .int .i64 a1_2], .int .i64 a2, .int .i64 a3] w fun e w' => e = .returned (.bool r) ∧ Below w.heap.size w w' := by
  have hu23 := Try.underlying23
  have HB := Aside0.mk (Below.refl w.heap.size w)
  have H := h
  clear h
  unfold flyballlaw17_IntsSound.f at H
  obtain ⟨t4753, A50, H⟩ := Option.bind_eq_some_iff.mp H
  have A5 := Aside0.mk A50
  clear A50
  (try dsimp only at H)
  by_cases c6 : t4753 = true
  · subst c6
    rw [if_pos rfl] at H
    obtain ⟨⟨t4754, t4755⟩, A70, H⟩ := Option.bind_eq_some_iff.mp H
    have A7 := Aside0.mk A70
    clear A70
    (try dsimp only at H)
    obtain ⟨⟨t4756, t4757⟩, A80, H⟩ := Option.bind_eq_some_iff.mp H
    have A8 := Aside0.mk A80
    clear A80
    (try dsimp only at H)
    have HC9 := Aside0.mk H
    clear H
    go_enter Try.func9, Try.ntmps9
    go_upto_region 6 with (first | ((with_reducible refine gate_dst (N := 4) rfl ?_); refine kx 4 #[.bool a0_0, .int .i64 a0_1, .int .i64 a0_2] 23 ?_; intro gb4751 hg w10 hbox hb; have BK4751 := Aside0.mk (hbox); have GW4751 := kg HB hg; have GE4751 := kg HB hg; replace HB := kh HB hb; clear hb hbox hg) | ((with_reducible refine gate_dst (N := 5) rfl ?_); refine kx 5 #[.bool a1_0, .int .i64 a1_1, .int .i64 a1_2] 23 ?_; intro gb4752 hg w11 hbox hb; have BK4752 := Aside0.mk (hbox); have GW4752 := kg HB hg; have GE4752 := kg HB hg; have NB4751_4752 := kn BK4751 hg; have NB4752_4751 := km BK4751 hg; replace BK4751 := kb BK4751 hb; replace HB := kh HB hb; clear hb hbox hg) | ((with_reducible refine gate_callee (f := 38) rfl ?_); refine kc (some 16) Try.func38 #[] (flyballlaw17_works.calls k  true _ A5.out) ?_; intro w12 hb; replace BK4751 := kb BK4751 hb; replace BK4752 := kb BK4752 hb; replace HB := kh HB hb; (try clear hb); have hnb13 := NB4751_4752.out; have hnc13 := NB4752_4751.out; have ⟨hcz14_0, hcz14_1, hcz14_2, hfz14_0, hfz14_1, hfz14_2⟩ := kz3f BK4751) | ((with_reducible refine gate_callee (f := 55) rfl ?_); refine kc (some 22) Try.func55 #[.agg #[.bool a0_0, .int .i64 a0_1, .int .i64 a0_2], .int .i64 a2] (flyballlaw17_of.calls k a0_0 a0_1 a0_2 a2 t4754 t4755 _ A7.out) ?_; intro w15 hb; replace BK4751 := kb BK4751 hb; replace BK4752 := kb BK4752 hb; replace HB := kh HB hb; (try clear hb); have ⟨hcz16_0, hcz16_1, hcz16_2, hfz16_0, hfz16_1, hfz16_2⟩ := kz3f BK4752) | ((with_reducible refine gate_callee (f := 55) rfl ?_); refine kc (some 28) Try.func55 #[.agg #[.bool a1_0, .int .i64 a1_1, .int .i64 a1_2], .int .i64 a3] (flyballlaw17_of.calls k a1_0 a1_1 a1_2 a3 t4756 t4757 _ A8.out) ?_; intro w17 hb; replace BK4751 := kb BK4751 hb; replace BK4752 := kb BK4752 hb; replace HB := kh HB hb; (try clear hb)))
    (try simp only [Act.put, List.setIfInBounds_toArray, List.set_cons_zero, List.set_cons_succ])
    go_cut [36] (fun v36 wc => ∃ (kq : Nat) (x36_8 : Bool), v36 = .bool x36_8 ∧ Aside0 (flyballlaw17_IntsSound.j0 kq true t4754 t4756 x36_8 a0_0 a0_1 a0_2 a1_0 a1_1 a1_2 = some r) ∧ Aside0 (kq ≤ k) ∧ Aside0 (wc.heap[gb4751]? = some (.cells #[.bool a0_0, .int .i64 a0_1, .int .i64 a0_2] 23 (0, 0))) ∧ Aside0 (wc.heap[gb4752]? = some (.cells #[.bool a1_0, .int .i64 a1_1, .int .i64 a1_2] 23 (0, 0))) ∧ Aside0 (Below w.heap.size w wc))
    case first =>
      have H := HC9.out
      clear HC9
      by_cases c18 : t4755 = true
      · subst c18
        rw [if_pos rfl] at H
        have H' := Aside0.mk H
        clear H
        go_wp2
        go_meet
        case rel => exact ⟨_, (!t4757), (by first | rfl | (simp; done) | (simp [*]; done)), H', ⟨by first | omega | exact Nat.le_refl _⟩, ⟨pk BK4751⟩, ⟨pk BK4752⟩, ⟨pl HB⟩⟩
      · replace c18 := Bool.eq_false_iff.mpr c18
        subst c18
        rw [if_neg (show ¬ (false = true) by decide)] at H
        have H' := Aside0.mk H
        clear H
        go_wp2
        go_meet
        case rel => exact ⟨_, (true), (by first | rfl | (simp; done) | (simp [*]; done)), H', ⟨by first | omega | exact Nat.le_refl _⟩, ⟨pk BK4751⟩, ⟨pk BK4752⟩, ⟨pl HB⟩⟩
    case rest =>
      clear HC9
      try clear c1
      try clear p2
      try clear c3
      try clear c5
      try clear c6
      try clear c9
      try clear c13
      try clear c18
      try clear hcz14_0
      try clear hcz14_1
      try clear hcz14_2
      try clear hcz16_0
      try clear hcz16_1
      try clear hcz16_2
      try clear hfz14_0
      try clear hfz14_1
      try clear hfz14_2
      try clear hfz16_0
      try clear hfz16_1
      try clear hfz16_2
      obtain ⟨kq, x36_8, rfl, HA, HJ8, BK4751, BK4752, HB⟩ := hcut
      cases kq with
      | zero => exact absurd HA.out (by simp [flyballlaw17_IntsSound.j0])
      | succ kj8 =>
        have H := HA.out
        clear HA
        simp only [flyballlaw17_IntsSound.j0] at H
        by_cases c19 : x36_8 = true
        · subst c19
          rw [if_pos rfl] at H
          obtain rfl := Option.some.inj H
          go_wp2
          go_ret
          exact ⟨pe, pl HB⟩
        · replace c19 := Bool.eq_false_iff.mpr c19
          subst c19
          rw [if_neg (show ¬ (false = true) by decide)] at H
          have HC20 := Aside0.mk H
          clear H
          go_upto_if 40 with (fail)
          go_cut [14] (fun v14 wc => ∃ (kq : Nat) (x14_19 : Int), v14 = .int .i64 x14_19 ∧ Aside0 (flyballlaw17_IntsSound.j1 kq true t4754 t4756 x14_19 a0_0 a0_1 a0_2 a1_0 a1_1 a1_2 = some r) ∧ Aside0 (kq ≤ kj8) ∧ Aside0 (wc.heap[gb4751]? = some (.cells #[.bool a0_0, .int .i64 a0_1, .int .i64 a0_2] 23 (0, 0))) ∧ Aside0 (wc.heap[gb4752]? = some (.cells #[.bool a1_0, .int .i64 a1_1, .int .i64 a1_2] 23 (0, 0))) ∧ Aside0 (Below w.heap.size w wc))
          case first =>
            have H := HC20.out
            clear HC20
            by_cases c21 : t4754 < 0
            · rw [if_pos c21] at H
              have c21b0 : decide (t4754 < 0) = true := decide_eq_true c21
              clear c21
              (first | rw [c21b0] | (simp only [i64_w, i32_w]; rw [c21b0]) | skip)
              have H' := Aside0.mk H
              clear H
              go_wp2
              go_meet
              case rel => exact ⟨_, (wrap64 (-t4754)), (by first | rfl | (simp; done) | (simp [*]; done)), H', ⟨by have := HJ8.out; first | omega | exact Nat.le_refl _⟩, ⟨pk BK4751⟩, ⟨pk BK4752⟩, ⟨pl HB⟩⟩
            · rw [if_neg c21] at H
              have c21b0 : decide (t4754 < 0) = false := decide_eq_false c21
              clear c21
              (first | rw [c21b0] | (simp only [i64_w, i32_w]; rw [c21b0]) | skip)
              have H' := Aside0.mk H
              clear H
              go_wp2
              go_meet
              case rel => exact ⟨_, (t4754), (by first | rfl | (simp; done) | (simp [*]; done)), H', ⟨by have := HJ8.out; first | omega | exact Nat.le_refl _⟩, ⟨pk BK4751⟩, ⟨pk BK4752⟩, ⟨pl HB⟩⟩
          case rest =>
            clear HC20
            try clear c1
            try clear c2
            try clear p2
            try clear c3
            try clear c5
            try clear c6
            try clear p6
            try clear c9
            try clear c13
            try clear c18
            try clear c19
            try clear c21
            try clear c21b0
            try clear hcz14_0
            try clear hcz14_1
            try clear hcz14_2
            try clear hcz16_0
            try clear hcz16_1
            try clear hcz16_2
            try clear hfz14_0
            try clear hfz14_1
            try clear hfz14_2
            try clear hfz16_0
            try clear hfz16_1
            try clear hfz16_2
            try clear p2
            obtain ⟨kq, x14_19, rfl, HA, HJ19, BK4751, BK4752, HB⟩ := hcut
            cases kq with
            | zero => exact absurd HA.out (by simp [flyballlaw17_IntsSound.j1])
            | succ kj19 =>
              have H := HA.out
              clear HA
              simp only [flyballlaw17_IntsSound.j1] at H
              obtain ⟨⟨t4758, t4759, t4760⟩, A220, H⟩ := Option.bind_eq_some_iff.mp H
              have A22 := Aside0.mk A220
              clear A220
              (try dsimp only at H)
              obtain ⟨t4761, A230, H⟩ := Option.bind_eq_some_iff.mp H
              have A23 := Aside0.mk A230
              clear A230
              (try dsimp only at H)
              by_cases c24 : t4761 = true
              · subst c24
                rw [if_pos rfl] at H
                obtain ⟨⟨t4762, t4763, t4764⟩, A250, H⟩ := Option.bind_eq_some_iff.mp H
                have A25 := Aside0.mk A250
                clear A250
                (try dsimp only at H)
                obtain ⟨t4765, A260, H⟩ := Option.bind_eq_some_iff.mp H
                have A26 := Aside0.mk A260
                clear A260
                (try dsimp only at H)
                by_cases c27 : t4765 = true
                · subst c27
                  rw [if_pos rfl] at H
                  obtain ⟨⟨t4766, t4767, t4768⟩, A280, H⟩ := Option.bind_eq_some_iff.mp H
                  have A28 := Aside0.mk A280
                  clear A280
                  (try dsimp only at H)
                  obtain ⟨t4769, A290, H⟩ := Option.bind_eq_some_iff.mp H
                  have A29 := Aside0.mk A290
                  clear A290
                  (try dsimp only at H)
                  by_cases c30 : t4769 = true
                  · subst c30
                    rw [if_pos rfl] at H
                    obtain ⟨⟨t4770, t4771, t4772⟩, A310, H⟩ := Option.bind_eq_some_iff.mp H
                    have A31 := Aside0.mk A310
                    clear A310
                    (try dsimp only at H)
                    obtain ⟨t4773, A320, H⟩ := Option.bind_eq_some_iff.mp H
                    have A32 := Aside0.mk A320
                    clear A320
                    (try dsimp only at H)
                    by_cases c33 : t4773 = true
                    · subst c33
                      rw [if_pos rfl] at H
                      obtain ⟨⟨t4774, t4775, t4776⟩, A340, H⟩ := Option.bind_eq_some_iff.mp H
                      have A34 := Aside0.mk A340
                      clear A340
                      (try dsimp only at H)
                      obtain ⟨t4777, A350, H⟩ := Option.bind_eq_some_iff.mp H
                      have A35 := Aside0.mk A350
                      clear A350
                      (try dsimp only at H)
                      by_cases c36 : true = true
                      · clear c36
                        (try rw [if_pos rfl] at H)
                        by_cases c37 : t4777 = true
                        · subst c37
                          rw [if_pos rfl] at H
                          by_cases c38 : t4756 = 0
                          · rw [if_pos c38] at H
                            have c38b0 : (t4756 == 0) = true := beq_iff_eq.mpr c38
                            have c38b1 : (t4756 != 0) = false := bne_eq_false_iff_eq.mpr c38
                            clear c38
                            obtain rfl := Option.some.inj H
                            have hnb39 := NB4751_4752.out
                            have hnc39 := NB4752_4751.out
                            have hcz40_0 : wc.cell? ⟨gb4751, 0, none⟩ = some (.bool a0_0) := bc BK4751 0
                            have hcz40_1 : wc.cell? ⟨gb4751, 1, none⟩ = some (.int .i64 a0_1) := bc BK4751 1
                            have hcz40_2 : wc.cell? ⟨gb4751, 2, none⟩ = some (.int .i64 a0_2) := bc BK4751 2
                            have hfz40_0 := blk_frozen BK4751.out 0
                            have hfz40_1 := blk_frozen BK4751.out 1
                            have hfz40_2 := blk_frozen BK4751.out 2
                            have hcz41_0 : wc.cell? ⟨gb4752, 0, none⟩ = some (.bool a1_0) := bc BK4752 0
                            have hcz41_1 : wc.cell? ⟨gb4752, 1, none⟩ = some (.int .i64 a1_1) := bc BK4752 1
                            have hcz41_2 : wc.cell? ⟨gb4752, 2, none⟩ = some (.int .i64 a1_2) := bc BK4752 2
                            have hfz41_0 := blk_frozen BK4752.out 0
                            have hfz41_1 := blk_frozen BK4752.out 1
                            have hfz41_2 := blk_frozen BK4752.out 2
                            try go_wp2_with (first | ((with_reducible refine gate_callee (f := 51) rfl ?_); refine kc (some 45) Try.func51 #[.agg #[.bool a0_0, .int .i64 a0_1, .int .i64 a0_2], .agg #[.bool a1_0, .int .i64 a1_1, .int .i64 a1_2]] (ints_Add.calls kj19 a0_0 a0_1 a0_2 a1_0 a1_1 a1_2 t4758 t4759 t4760 _ A22.out) ?_; intro w42 hb; replace BK4751 := kb BK4751 hb; replace BK4752 := kb BK4752 hb; replace HB := kh HB hb; (try clear hb)) | ((with_reducible refine gate_callee (f := 36) rfl ?_); refine kc (some 49) Try.func36 #[.agg #[.bool t4758, .int .i64 t4759, .int .i64 t4760], .int .i64 (wrap64 (t4754 + t4756))] (ints_Has.calls t4758 t4759 t4760 (wrap64 (t4754 + t4756)) true _ A23.out) ?_; intro w43 hb; replace BK4751 := kb BK4751 hb; replace BK4752 := kb BK4752 hb; replace HB := kh HB hb; (try clear hb); have ⟨hcz44_0, hcz44_1, hcz44_2, hfz44_0, hfz44_1, hfz44_2⟩ := kz3f BK4751; have ⟨hcz45_0, hcz45_1, hcz45_2, hfz45_0, hfz45_1, hfz45_2⟩ := kz3f BK4752) | (go_at_call 52; (with_reducible refine (ints_Sub.calls kj19 a0_0 a0_1 a0_2 a1_0 a1_1 a1_2 t4762 t4763 t4764 _ A25.out).mono ?_); rintro e w46 ⟨rfl, hb⟩; replace BK4751 := kb BK4751 hb; replace BK4752 := kb BK4752 hb; replace HB := kh HB hb; (try clear hb)) | (go_at_call 36; (with_reducible refine (ints_Has.calls t4762 t4763 t4764 (wrap64 (t4754 - t4756)) true _ A26.out).mono ?_); rintro e w47 ⟨rfl, hb⟩; replace BK4751 := kb BK4751 hb; replace BK4752 := kb BK4752 hb; replace HB := kh HB hb; (try clear hb); have ⟨hcz48_0, hcz48_1, hcz48_2, hfz48_0, hfz48_1, hfz48_2⟩ := kz3f BK4751; have ⟨hcz49_0, hcz49_1, hcz49_2, hfz49_0, hfz49_1, hfz49_2⟩ := kz3f BK4752) | (go_at_call 53; (with_reducible refine (ints_Mul.calls kj19 a0_0 a0_1 a0_2 a1_0 a1_1 a1_2 t4766 t4767 t4768 _ A28.out).mono ?_); rintro e w50 ⟨rfl, hb⟩; replace BK4751 := kb BK4751 hb; replace BK4752 := kb BK4752 hb; replace HB := kh HB hb; (try clear hb)) | (go_at_call 36; (with_reducible refine (ints_Has.calls t4766 t4767 t4768 (wrap64 (t4754 * t4756)) true _ A29.out).mono ?_); rintro e w51 ⟨rfl, hb⟩; replace BK4751 := kb BK4751 hb; replace BK4752 := kb BK4752 hb; replace HB := kh HB hb; (try clear hb); have ⟨hcz52_0, hcz52_1, hcz52_2, hfz52_0, hfz52_1, hfz52_2⟩ := kz3f BK4751) | (go_at_call 48; (with_reducible refine (ints_Neg.calls a0_0 a0_1 a0_2 t4770 t4771 t4772 _ A31.out).mono ?_); rintro e w53 ⟨rfl, hb⟩; replace BK4751 := kb BK4751 hb; replace BK4752 := kb BK4752 hb; replace HB := kh HB hb; (try clear hb)) | (go_at_call 36; (with_reducible refine (ints_Has.calls t4770 t4771 t4772 (wrap64 (-t4754)) true _ A32.out).mono ?_); rintro e w54 ⟨rfl, hb⟩; replace BK4751 := kb BK4751 hb; replace BK4752 := kb BK4752 hb; replace HB := kh HB hb; (try clear hb); have ⟨hcz55_0, hcz55_1, hcz55_2, hfz55_0, hfz55_1, hfz55_2⟩ := kz3f BK4751) | (go_at_call 50; (with_reducible refine (ints_Abs.calls kj19 a0_0 a0_1 a0_2 t4774 t4775 t4776 _ A34.out).mono ?_); rintro e w56 ⟨rfl, hb⟩; replace BK4751 := kb BK4751 hb; replace BK4752 := kb BK4752 hb; replace HB := kh HB hb; (try clear hb)) | (go_at_call 36; (with_reducible refine (ints_Has.calls t4774 t4775 t4776 x14_19 true _ A35.out).mono ?_); rintro e w57 ⟨rfl, hb⟩; replace BK4751 := kb BK4751 hb; replace BK4752 := kb BK4752 hb; replace HB := kh HB hb; (try clear hb)))
                            replace BK4751 := Aside0.mk (blk_drew BK4751.out)
                            replace BK4752 := Aside0.mk (blk_drew BK4752.out)
                            replace HB := Aside0.mk (below_drew1 HB.out)
                            refine start_ (n := 18) (S := fun w' => True) (ds := []) #[false, false, false, false, false, false, false, false, false, false, false, false, false, false, false, false, false, false] (by kernel_rfl) rfl rfl trivial (fun hHeld => ?_); refine with_tabW flyballlaw17_IntsSound.tab12 flyballlaw17_IntsSound.bits12 (fun HT_ HW_ => ?_)
                            generalize w57.drew = w58 at BK4751 BK4752 HB hHeld ⊢
                            refine pur 0 (some 81) #[true, false, false, false, false, false, false, false, false, false, false, false, false, false, false, false, false, false] (any_of HT_.out (by kernel_rfl)) ?_
                            refine pur 1 (some 82) #[true, true, false, false, false, false, false, false, false, false, false, false, false, false, false, false, false, false] (any_of HT_.out (by kernel_rfl)) ?_
                            refine pur 2 (some 83) #[true, true, true, false, false, false, false, false, false, false, false, false, false, false, false, false, false, false] (any_of HT_.out (by kernel_rfl)) ?_
                            refine pur 3 (some 84) #[true, true, true, true, false, false, false, false, false, false, false, false, false, false, false, false, false, false] (any_of HT_.out (by kernel_rfl)) ?_
                            refine pur 4 (some 85) #[true, true, true, true, true, false, false, false, false, false, false, false, false, false, false, false, false, false] (any_of HT_.out (by kernel_rfl)) ?_
                            refine pur 5 (some 86) #[true, true, true, true, true, true, false, false, false, false, false, false, false, false, false, false, false, false] (any_of HT_.out (by kernel_rfl)) ?_
                            refine pur 6 (some 87) #[true, true, true, true, true, true, true, false, false, false, false, false, false, false, false, false, false, false] (any_of HT_.out (by kernel_rfl)) ?_
                            refine pur 7 (some 88) #[true, true, true, true, true, true, true, true, false, false, false, false, false, false, false, false, false, false] (any_of HT_.out (by kernel_rfl)) ?_
                            refine pure_ (i := 8) (N := some 89) (v := undef) (a' := ?_) #[true, true, true, true, true, true, true, true, true, false, false, false, false, false, false, false, false, false] rfl rfl (any_of HT_.out (by kernel_rfl)) (fun _ _ _ h => h) (Or.inr ⟨by rfl, rfl⟩) ?_ ?_
                            rotate_left
                            · simp only [Act.put, List.setIfInBounds_toArray, List.set_cons_zero, List.set_cons_succ, i64_w, i32_w]
                              rfl
                            refine pure_ (i := 9) (N := some 90) (v := undef) (a' := ?_) #[true, true, true, true, true, true, true, true, true, true, false, false, false, false, false, false, false, false] rfl rfl (any_of HT_.out (by kernel_rfl)) (fun _ _ _ h => h) (Or.inr ⟨by rfl, rfl⟩) ?_ ?_
                            rotate_left
                            · simp only [Act.put, List.setIfInBounds_toArray, List.set_cons_zero, List.set_cons_succ, i64_w, i32_w]
                              rfl
                            refine pure_ (i := 10) (N := some 91) (v := undef) (a' := ?_) #[true, true, true, true, true, true, true, true, true, true, true, false, false, false, false, false, false, false] rfl rfl (any_of HT_.out (by kernel_rfl)) (fun _ _ _ h => h) (Or.inr ⟨by rfl, rfl⟩) ?_ ?_
                            rotate_left
                            · simp only [Act.put, List.setIfInBounds_toArray, List.set_cons_zero, List.set_cons_succ, i64_w, i32_w]
                              rfl
                            refine pure_ (i := 11) (N := some 92) (v := undef) (a' := ?_) #[true, true, true, true, true, true, true, true, true, true, true, true, false, false, false, false, false, false] rfl rfl (any_of HT_.out (by kernel_rfl)) (fun _ _ _ h => h) (Or.inr ⟨by rfl, rfl⟩) ?_ ?_
                            rotate_left
                            · simp only [Act.put, List.setIfInBounds_toArray, List.set_cons_zero, List.set_cons_succ, i64_w, i32_w]
                              rfl
                            refine pure_ (i := 12) (N := some 93) (v := undef) (a' := ?_) #[true, true, true, true, true, true, true, true, true, true, true, true, true, false, false, false, false, false] rfl rfl (any_of HT_.out (by kernel_rfl)) (fun _ _ _ h => h) (Or.inr ⟨by rfl, rfl⟩) ?_ ?_
                            rotate_left
                            · simp only [Act.put, List.setIfInBounds_toArray, List.set_cons_zero, List.set_cons_succ, i64_w, i32_w]
                              rfl
                            refine pure_ (i := 13) (N := some 94) (v := undef) (a' := ?_) #[true, true, true, true, true, true, true, true, true, true, true, true, true, true, false, false, false, false] rfl rfl (any_of HT_.out (by kernel_rfl)) (fun _ _ _ h => h) (Or.inr ⟨by rfl, rfl⟩) ?_ ?_
                            rotate_left
                            · simp only [Act.put, List.setIfInBounds_toArray, List.set_cons_zero, List.set_cons_succ, i64_w, i32_w]
                              rfl
                            refine pure_ (i := 14) (N := some 95) (v := undef) (a' := ?_) #[true, true, true, true, true, true, true, true, true, true, true, true, true, true, true, false, false, false] rfl rfl (any_of HT_.out (by kernel_rfl)) (fun _ _ _ h => h) (Or.inr ⟨by rfl, rfl⟩) ?_ ?_
                            rotate_left
                            · simp only [Act.put, List.setIfInBounds_toArray, List.set_cons_zero, List.set_cons_succ, i64_w, i32_w]
                              rfl
                            refine pur 15 (some 96) #[true, true, true, true, true, true, true, true, true, true, true, true, true, true, true, true, false, false] (any_of HT_.out (by kernel_rfl)) ?_
                            refine pur 16 (some 97) #[true, true, true, true, true, true, true, true, true, true, true, true, true, true, true, true, true, false] (any_of HT_.out (by kernel_rfl)) ?_
                            refine pur 17 (some 8) #[true, true, true, true, true, true, true, true, true, true, true, true, true, true, true, true, true, true] (any_of HT_.out (by kernel_rfl)) ?_
                            refine done_ (done_of HT_.out (by kernel_rfl)) ?_
                            try go_wp2
                            go_ret
                            exact ⟨pe, pl HB⟩
                          · rw [if_neg c38] at H
                            have c38b0 : (t4756 == 0) = false := beq_eq_false_iff_ne.mpr c38
                            have c38b1 : (t4756 != 0) = true := bne_iff_ne.mpr c38
                            obtain ⟨⟨t4778, t4779, t4780⟩, A590, H⟩ := Option.bind_eq_some_iff.mp H
                            have A59 := Aside0.mk A590
                            clear A590
                            (try dsimp only at H)
                            obtain ⟨t4781, A600, H⟩ := Option.bind_eq_some_iff.mp H
                            have A60 := Aside0.mk A600
                            clear A600
                            (try dsimp only at H)
                            obtain rfl := Option.some.inj H
                            have hnb61 := NB4751_4752.out
                            have hnc61 := NB4752_4751.out
                            have hcz62_0 : wc.cell? ⟨gb4751, 0, none⟩ = some (.bool a0_0) := bc BK4751 0
                            have hcz62_1 : wc.cell? ⟨gb4751, 1, none⟩ = some (.int .i64 a0_1) := bc BK4751 1
                            have hcz62_2 : wc.cell? ⟨gb4751, 2, none⟩ = some (.int .i64 a0_2) := bc BK4751 2
                            have hfz62_0 := blk_frozen BK4751.out 0
                            have hfz62_1 := blk_frozen BK4751.out 1
                            have hfz62_2 := blk_frozen BK4751.out 2
                            have hcz63_0 : wc.cell? ⟨gb4752, 0, none⟩ = some (.bool a1_0) := bc BK4752 0
                            have hcz63_1 : wc.cell? ⟨gb4752, 1, none⟩ = some (.int .i64 a1_1) := bc BK4752 1
                            have hcz63_2 : wc.cell? ⟨gb4752, 2, none⟩ = some (.int .i64 a1_2) := bc BK4752 2
                            have hfz63_0 := blk_frozen BK4752.out 0
                            have hfz63_1 := blk_frozen BK4752.out 1
                            have hfz63_2 := blk_frozen BK4752.out 2
                            try go_wp2_with (first | ((with_reducible refine gate_callee (f := 51) rfl ?_); refine kc (some 45) Try.func51 #[.agg #[.bool a0_0, .int .i64 a0_1, .int .i64 a0_2], .agg #[.bool a1_0, .int .i64 a1_1, .int .i64 a1_2]] (ints_Add.calls kj19 a0_0 a0_1 a0_2 a1_0 a1_1 a1_2 t4758 t4759 t4760 _ A22.out) ?_; intro w64 hb; replace BK4751 := kb BK4751 hb; replace BK4752 := kb BK4752 hb; replace HB := kh HB hb; (try clear hb)) | ((with_reducible refine gate_callee (f := 36) rfl ?_); refine kc (some 49) Try.func36 #[.agg #[.bool t4758, .int .i64 t4759, .int .i64 t4760], .int .i64 (wrap64 (t4754 + t4756))] (ints_Has.calls t4758 t4759 t4760 (wrap64 (t4754 + t4756)) true _ A23.out) ?_; intro w65 hb; replace BK4751 := kb BK4751 hb; replace BK4752 := kb BK4752 hb; replace HB := kh HB hb; (try clear hb); have ⟨hcz66_0, hcz66_1, hcz66_2, hfz66_0, hfz66_1, hfz66_2⟩ := kz3f BK4751; have ⟨hcz67_0, hcz67_1, hcz67_2, hfz67_0, hfz67_1, hfz67_2⟩ := kz3f BK4752) | (go_at_call 52; (with_reducible refine (ints_Sub.calls kj19 a0_0 a0_1 a0_2 a1_0 a1_1 a1_2 t4762 t4763 t4764 _ A25.out).mono ?_); rintro e w68 ⟨rfl, hb⟩; replace BK4751 := kb BK4751 hb; replace BK4752 := kb BK4752 hb; replace HB := kh HB hb; (try clear hb)) | (go_at_call 36; (with_reducible refine (ints_Has.calls t4762 t4763 t4764 (wrap64 (t4754 - t4756)) true _ A26.out).mono ?_); rintro e w69 ⟨rfl, hb⟩; replace BK4751 := kb BK4751 hb; replace BK4752 := kb BK4752 hb; replace HB := kh HB hb; (try clear hb); have ⟨hcz70_0, hcz70_1, hcz70_2, hfz70_0, hfz70_1, hfz70_2⟩ := kz3f BK4751; have ⟨hcz71_0, hcz71_1, hcz71_2, hfz71_0, hfz71_1, hfz71_2⟩ := kz3f BK4752) | (go_at_call 53; (with_reducible refine (ints_Mul.calls kj19 a0_0 a0_1 a0_2 a1_0 a1_1 a1_2 t4766 t4767 t4768 _ A28.out).mono ?_); rintro e w72 ⟨rfl, hb⟩; replace BK4751 := kb BK4751 hb; replace BK4752 := kb BK4752 hb; replace HB := kh HB hb; (try clear hb)) | (go_at_call 36; (with_reducible refine (ints_Has.calls t4766 t4767 t4768 (wrap64 (t4754 * t4756)) true _ A29.out).mono ?_); rintro e w73 ⟨rfl, hb⟩; replace BK4751 := kb BK4751 hb; replace BK4752 := kb BK4752 hb; replace HB := kh HB hb; (try clear hb); have ⟨hcz74_0, hcz74_1, hcz74_2, hfz74_0, hfz74_1, hfz74_2⟩ := kz3f BK4751) | (go_at_call 48; (with_reducible refine (ints_Neg.calls a0_0 a0_1 a0_2 t4770 t4771 t4772 _ A31.out).mono ?_); rintro e w75 ⟨rfl, hb⟩; replace BK4751 := kb BK4751 hb; replace BK4752 := kb BK4752 hb; replace HB := kh HB hb; (try clear hb)) | (go_at_call 36; (with_reducible refine (ints_Has.calls t4770 t4771 t4772 (wrap64 (-t4754)) true _ A32.out).mono ?_); rintro e w76 ⟨rfl, hb⟩; replace BK4751 := kb BK4751 hb; replace BK4752 := kb BK4752 hb; replace HB := kh HB hb; (try clear hb); have ⟨hcz77_0, hcz77_1, hcz77_2, hfz77_0, hfz77_1, hfz77_2⟩ := kz3f BK4751) | (go_at_call 50; (with_reducible refine (ints_Abs.calls kj19 a0_0 a0_1 a0_2 t4774 t4775 t4776 _ A34.out).mono ?_); rintro e w78 ⟨rfl, hb⟩; replace BK4751 := kb BK4751 hb; replace BK4752 := kb BK4752 hb; replace HB := kh HB hb; (try clear hb)) | (go_at_call 36; (with_reducible refine (ints_Has.calls t4774 t4775 t4776 x14_19 true _ A35.out).mono ?_); rintro e w79 ⟨rfl, hb⟩; replace BK4751 := kb BK4751 hb; replace BK4752 := kb BK4752 hb; replace HB := kh HB hb; (try clear hb)))
                            replace BK4751 := Aside0.mk (blk_drew BK4751.out)
                            replace BK4752 := Aside0.mk (blk_drew BK4752.out)
                            replace HB := Aside0.mk (below_drew1 HB.out)
                            refine start_ (n := 18) (S := fun w' => w'.cell? ⟨gb4751, 0, none⟩ = some (.bool a0_0) ∧ w'.cell? ⟨gb4751, 1, none⟩ = some (.int .i64 a0_1) ∧ w'.cell? ⟨gb4751, 2, none⟩ = some (.int .i64 a0_2) ∧ w'.cell? ⟨gb4752, 0, none⟩ = some (.bool a1_0) ∧ w'.cell? ⟨gb4752, 1, none⟩ = some (.int .i64 a1_1) ∧ w'.cell? ⟨gb4752, 2, none⟩ = some (.int .i64 a1_2)) (ds := []) #[false, false, false, false, false, false, false, false, false, false, false, false, false, false, false, false, false, false] (by kernel_rfl) rfl rfl ⟨bc BK4751 0, bc BK4751 1, bc BK4751 2, bc BK4752 0, bc BK4752 1, bc BK4752 2⟩ (fun hHeld => ?_); refine with_tabW flyballlaw17_IntsSound.tab12 flyballlaw17_IntsSound.bits12 (fun HT_ HW_ => ?_)
                            generalize w79.drew = w80 at BK4751 BK4752 HB hHeld ⊢
                            refine pur 0 (some 81) #[true, false, false, false, false, false, false, false, false, false, false, false, false, false, false, false, false, false] (any_of HT_.out (by kernel_rfl)) ?_
                            refine pur 1 (some 82) #[true, true, false, false, false, false, false, false, false, false, false, false, false, false, false, false, false, false] (any_of HT_.out (by kernel_rfl)) ?_
                            refine pur 2 (some 83) #[true, true, true, false, false, false, false, false, false, false, false, false, false, false, false, false, false, false] (any_of HT_.out (by kernel_rfl)) ?_
                            refine pur 3 (some 84) #[true, true, true, true, false, false, false, false, false, false, false, false, false, false, false, false, false, false] (any_of HT_.out (by kernel_rfl)) ?_
                            refine pur 4 (some 85) #[true, true, true, true, true, false, false, false, false, false, false, false, false, false, false, false, false, false] (any_of HT_.out (by kernel_rfl)) ?_
                            refine pur 5 (some 86) #[true, true, true, true, true, true, false, false, false, false, false, false, false, false, false, false, false, false] (any_of HT_.out (by kernel_rfl)) ?_
                            refine pur 6 (some 87) #[true, true, true, true, true, true, true, false, false, false, false, false, false, false, false, false, false, false] (any_of HT_.out (by kernel_rfl)) ?_
                            refine pur 7 (some 88) #[true, true, true, true, true, true, true, true, false, false, false, false, false, false, false, false, false, false] (any_of HT_.out (by kernel_rfl)) ?_
                            refine pur 11 (some 92) #[true, true, true, true, true, true, true, true, false, false, false, true, false, false, false, false, false, false] (any_of HT_.out (by kernel_rfl)) ?_
                            refine pur 12 (some 93) #[true, true, true, true, true, true, true, true, false, false, false, true, true, false, false, false, false, false] (any_of HT_.out (by kernel_rfl)) ?_
                            refine pur 13 (some 94) #[true, true, true, true, true, true, true, true, false, false, false, true, true, true, false, false, false, false] (any_of HT_.out (by kernel_rfl)) ?_
                            refine tak 8 (some 89) #[true, true, true, true, true, true, true, true, true, false, false, true, true, true, false, false, false, false] (take_ofW HT_.out HW_.out (by kernel_rfl)) hHeld ?_
                            refine tak 9 (some 90) #[true, true, true, true, true, true, true, true, true, true, false, true, true, true, false, false, false, false] (take_ofW HT_.out HW_.out (by kernel_rfl)) hHeld ?_
                            refine one_ (i := 10) (N := some 91) #[true, true, true, true, true, true, true, true, true, true, true, true, true, true, false, false, false, false] rfl rfl (one_of HT_.out (by kernel_rfl)) (by decide) (fun K hK => ?_)
                            refine gc Try.func54 #[.agg #[.bool a0_0, .int .i64 a0_1, .int .i64 a0_2], .agg #[.bool a1_0, .int .i64 a1_1, .int .i64 a1_2]] (ints_Div.calls kj19 a0_0 a0_1 a0_2 a1_0 a1_1 a1_2 t4778 t4779 t4780 _ A59.out) ?_
                            intro w81 hb
                            replace BK4751 := kb BK4751 hb
                            replace BK4752 := kb BK4752 hb
                            replace HB := kh HB hb
                            (try clear hb)
                            refine hK.out _ _ ⟨bc BK4751 0, bc BK4751 1, bc BK4751 2, bc BK4752 0, bc BK4752 1, bc BK4752 2⟩ (fun hHeld => ?_)
                            clear hK K
                            refine nrm (some 91) ?_
                            refine one_ (i := 14) (N := some 95) #[true, true, true, true, true, true, true, true, true, true, true, true, true, true, true, false, false, false] rfl rfl (one_of HT_.out (by kernel_rfl)) (by decide) (fun K hK => ?_)
                            refine gc Try.func36 #[.agg #[.bool t4778, .int .i64 t4779, .int .i64 t4780], .int .i64 (wrap64 (Int.tdiv t4754 t4756))] (ints_Has.calls t4778 t4779 t4780 (wrap64 (Int.tdiv t4754 t4756)) t4781 _ A60.out) ?_
                            intro w82 hb
                            replace BK4751 := kb BK4751 hb
                            replace BK4752 := kb BK4752 hb
                            replace HB := kh HB hb
                            (try clear hb)
                            refine hK.out _ _ ⟨bc BK4751 0, bc BK4751 1, bc BK4751 2, bc BK4752 0, bc BK4752 1, bc BK4752 2⟩ (fun hHeld => ?_)
                            clear hK K
                            refine nrm (some 95) ?_
                            refine pur 15 (some 96) #[true, true, true, true, true, true, true, true, true, true, true, true, true, true, true, true, false, false] (any_of HT_.out (by kernel_rfl)) ?_
                            refine pur 16 (some 97) #[true, true, true, true, true, true, true, true, true, true, true, true, true, true, true, true, true, false] (any_of HT_.out (by kernel_rfl)) ?_
                            refine pur 17 (some 8) #[true, true, true, true, true, true, true, true, true, true, true, true, true, true, true, true, true, true] (any_of HT_.out (by kernel_rfl)) ?_
                            refine done_ (done_of HT_.out (by kernel_rfl)) ?_
                            try go_wp2
                            go_ret
                            exact ⟨pe, pl HB⟩
                        · replace c37 := Bool.eq_false_iff.mpr c37
                          subst c37
                          rw [if_neg (show ¬ (false = true) by decide)] at H
                          exact absurd H (by simp)
                      · exact absurd rfl c36
                    · replace c33 := Bool.eq_false_iff.mpr c33
                      subst c33
                      rw [if_neg (show ¬ (false = true) by decide)] at H
                      exact absurd H (by simp)
                  · replace c30 := Bool.eq_false_iff.mpr c30
                    subst c30
                    rw [if_neg (show ¬ (false = true) by decide)] at H
                    exact absurd H (by simp)
                · replace c27 := Bool.eq_false_iff.mpr c27
                  subst c27
                  rw [if_neg (show ¬ (false = true) by decide)] at H
                  exact absurd H (by simp)
              · replace c24 := Bool.eq_false_iff.mpr c24
                subst c24
                rw [if_neg (show ¬ (false = true) by decide)] at H
                exact absurd H (by simp)
  · replace c6 := Bool.eq_false_iff.mpr c6
    subst c6
    rw [if_neg (show ¬ (false = true) by decide)] at H
    obtain rfl := Option.some.inj H
    go_enter Try.func9, Try.ntmps9
    go_wp2_with (first | ((with_reducible refine gate_dst (N := 4) rfl ?_); refine kx 4 #[.bool a0_0, .int .i64 a0_1, .int .i64 a0_2] 23 ?_; intro gb4751 hg w83 hbox hb; have BK4751 := Aside0.mk (hbox); have GW4751 := kg HB hg; have GE4751 := kg HB hg; replace HB := kh HB hb; clear hb hbox hg) | ((with_reducible refine gate_dst (N := 5) rfl ?_); refine kx 5 #[.bool a1_0, .int .i64 a1_1, .int .i64 a1_2] 23 ?_; intro gb4752 hg w84 hbox hb; have BK4752 := Aside0.mk (hbox); have GW4752 := kg HB hg; have GE4752 := kg HB hg; have NB4751_4752 := kn BK4751 hg; have NB4752_4751 := km BK4751 hg; replace BK4751 := kb BK4751 hb; replace HB := kh HB hb; clear hb hbox hg) | ((with_reducible refine gate_callee (f := 38) rfl ?_); refine kc (some 16) Try.func38 #[] (flyballlaw17_works.calls k  false _ A5.out) ?_; intro w85 hb; replace BK4751 := kb BK4751 hb; replace BK4752 := kb BK4752 hb; replace HB := kh HB hb; (try clear hb)))
    go_ret
    exact ⟨pe, pl HB⟩

end Go.Proofs.Ytinmgnlofininaa.PAll
