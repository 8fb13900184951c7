/- Functions of the print, turned to this claim. -/
import Derived.Test.YtinmgnlofininaaZHW
import Derived.Test.YtinmgnlofininaaZHx0
import Derived.Test.YtinmgnlofininaaZHx16
section
namespace Go.Proofs.Ytinmgnlofininaa.PAll
open Go.RowKit Go.Proofs.YtinmgnlofininaaW.PrintWords Go.Proofs.YtinmgnlofininaaW.PrintLast Go.Proofs.YtinmgnlofininaaW.PrintMore
attribute [local go_sem] max2_int min2_int max_two min_two max_three min_three max_four min_four   -- for this text's walks alone
set_option linter.unusedVariables false
set_option linter.unusedSimpArgs false
/-! ### flyballref17_Small: function 47 -/
def flyballref17_Small.f (a0_0 : Bool) (a0_1 : Int) (a0_2 : Int) (a1 : Int) : Option (Bool) := (flyballref17_Norm.f a0_0 a0_1 a0_2).bind fun bt5952 => (if bt5952.1 = true then (some true) else (if bt5952.2.1 > (-1099511627776) then (if bt5952.2.2 < 1099511627776 then (some (decide ((wrap64 (bt5952.2.2 - bt5952.2.1)) < a1))) else (some false)) else (some false)))
set_option maxHeartbeats 8000000 in
set_option maxRecDepth 100000 in
theorem flyballref17_Small.calls (a0_0 : Bool) (a0_1 : Int) (a0_2 : Int) (a1 : Int) (r : Bool) (w : World) (h : flyballref17_Small.f a0_0 a0_1 a0_2 a1 = some r) :
    Calls Try.prog 47 #[.agg #[.bool a0_0, .int .i64 a0_1, .int .i64 a0_2], .int .i64 a1] w fun e w' => e = .returned (.bool r) ∧ Below w.heap.size w w' := by
  have hu23 := Try.underlying23
  have HB := Aside0.mk (Below.refl w.heap.size w)
  have H := h
  clear h
  unfold flyballref17_Small.f at H
  obtain ⟨⟨t5952, t5953, t5954⟩, A30, H⟩ := Option.bind_eq_some_iff.mp H
  have A3 := Aside0.mk A30
  clear A30
  (try dsimp only at H)
  by_cases c4 : t5952 = true
  · subst c4
    rw [if_pos rfl] at H
    obtain rfl := Option.some.inj H
    go_enter Try.func47, Try.ntmps47
    go_wp2_with (first | ((with_reducible refine gate_dst (N := 2) rfl ?_); refine kx 2 #[.bool a0_0, .int .i64 a0_1, .int .i64 a0_2] 23 ?_; intro gb5951 hg w5 hbox hb; have BK5951 := Aside0.mk (hbox); have GW5951 := kg HB hg; have GE5951 := kg HB hg; replace HB := kh HB hb; clear hb hbox hg; have ⟨hcz6_0, hcz6_1, hcz6_2, hfz6_0, hfz6_1, hfz6_2⟩ := kz3f BK5951) | ((with_reducible refine gate_callee (f := 39) rfl ?_); refine kc (some 7) Try.func39 #[.agg #[.bool a0_0, .int .i64 a0_1, .int .i64 a0_2]] (flyballref17_Norm.calls a0_0 a0_1 a0_2 true t5953 t5954 _ A3.out) ?_; intro w7 hb; replace BK5951 := kb BK5951 hb; replace HB := kh HB hb; (try clear hb)) | ((with_reducible refine gate_dst (N := 5) rfl ?_); refine kx 5 #[.bool false, .int .i64 0, .int .i64 0] 23 ?_; intro gb5955 hg w8 hbox hb; have BK5955 := Aside0.mk (hbox); have GW5955 := kg HB hg; have GE5955 := kg HB hg; have NB5951_5955 := kn BK5951 hg; have NB5955_5951 := km BK5951 hg; replace BK5951 := kb BK5951 hb; replace HB := kh HB hb; clear hb hbox hg; have hnb9 := NB5955_5951.out; have hnc9 := NB5951_5955.out; have ⟨hcz10_0, hcz10_1, hcz10_2, hfz10_0, hfz10_1, hfz10_2⟩ := kz3f BK5955))
    go_ret
    exact ⟨pe, pl HB⟩
  · replace c4 := Bool.eq_false_iff.mpr c4
    subst c4
    rw [if_neg (show ¬ (false = true) by decide)] at H
    by_cases c11 : t5953 > (-1099511627776)
    · rw [if_pos c11] at H
      have c11b0 : decide ((-1099511627776) < t5953) = true := decide_eq_true c11
      clear c11
      by_cases c12 : t5954 < 1099511627776
      · rw [if_pos c12] at H
        have c12b0 : decide (t5954 < 1099511627776) = true := decide_eq_true c12
        clear c12
        obtain rfl := Option.some.inj H
        go_enter Try.func47, Try.ntmps47
        go_wp2_with (first | ((with_reducible refine gate_dst (N := 2) rfl ?_); refine kx 2 #[.bool a0_0, .int .i64 a0_1, .int .i64 a0_2] 23 ?_; intro gb5951 hg w13 hbox hb; have BK5951 := Aside0.mk (hbox); have GW5951 := kg HB hg; have GE5951 := kg HB hg; replace HB := kh HB hb; clear hb hbox hg; have ⟨hcz14_0, hcz14_1, hcz14_2, hfz14_0, hfz14_1, hfz14_2⟩ := kz3f BK5951) | ((with_reducible refine gate_callee (f := 39) rfl ?_); refine kc (some 7) Try.func39 #[.agg #[.bool a0_0, .int .i64 a0_1, .int .i64 a0_2]] (flyballref17_Norm.calls a0_0 a0_1 a0_2 false t5953 t5954 _ A3.out) ?_; intro w15 hb; replace BK5951 := kb BK5951 hb; replace HB := kh HB hb; (try clear hb)) | ((with_reducible refine gate_dst (N := 5) rfl ?_); refine kx 5 #[.bool false, .int .i64 0, .int .i64 0] 23 ?_; intro gb5955 hg w16 hbox hb; have BK5955 := Aside0.mk (hbox); have GW5955 := kg HB hg; have GE5955 := kg HB hg; have NB5951_5955 := kn BK5951 hg; have NB5955_5951 := km BK5951 hg; replace BK5951 := kb BK5951 hb; replace HB := kh HB hb; clear hb hbox hg; have hnb17 := NB5955_5951.out; have hnc17 := NB5951_5955.out; have ⟨hcz18_0, hcz18_1, hcz18_2, hfz18_0, hfz18_1, hfz18_2⟩ := kz3f BK5955))
        go_ret
        exact ⟨pe, pl HB⟩
      · rw [if_neg c12] at H
        have c12b0 : decide (t5954 < 1099511627776) = false := decide_eq_false c12
        clear c12
        obtain rfl := Option.some.inj H
        go_enter Try.func47, Try.ntmps47
        go_wp2_with (first | ((with_reducible refine gate_dst (N := 2) rfl ?_); refine kx 2 #[.bool a0_0, .int .i64 a0_1, .int .i64 a0_2] 23 ?_; intro gb5951 hg w19 hbox hb; have BK5951 := Aside0.mk (hbox); have GW5951 := kg HB hg; have GE5951 := kg HB hg; replace HB := kh HB hb; clear hb hbox hg; have ⟨hcz20_0, hcz20_1, hcz20_2, hfz20_0, hfz20_1, hfz20_2⟩ := kz3f BK5951) | ((with_reducible refine gate_callee (f := 39) rfl ?_); refine kc (some 7) Try.func39 #[.agg #[.bool a0_0, .int .i64 a0_1, .int .i64 a0_2]] (flyballref17_Norm.calls a0_0 a0_1 a0_2 false t5953 t5954 _ A3.out) ?_; intro w21 hb; replace BK5951 := kb BK5951 hb; replace HB := kh HB hb; (try clear hb)) | ((with_reducible refine gate_dst (N := 5) rfl ?_); refine kx 5 #[.bool false, .int .i64 0, .int .i64 0] 23 ?_; intro gb5955 hg w22 hbox hb; have BK5955 := Aside0.mk (hbox); have GW5955 := kg HB hg; have GE5955 := kg HB hg; have NB5951_5955 := kn BK5951 hg; have NB5955_5951 := km BK5951 hg; replace BK5951 := kb BK5951 hb; replace HB := kh HB hb; clear hb hbox hg; have hnb23 := NB5955_5951.out; have hnc23 := NB5951_5955.out; have ⟨hcz24_0, hcz24_1, hcz24_2, hfz24_0, hfz24_1, hfz24_2⟩ := kz3f BK5955))
        go_ret
        exact ⟨pe, pl HB⟩
    · rw [if_neg c11] at H
      have c11b0 : decide ((-1099511627776) < t5953) = false := decide_eq_false c11
      clear c11
      obtain rfl := Option.some.inj H
      go_enter Try.func47, Try.ntmps47
      go_wp2_with (first | ((with_reducible refine gate_dst (N := 2) rfl ?_); refine kx 2 #[.bool a0_0, .int .i64 a0_1, .int .i64 a0_2] 23 ?_; intro gb5951 hg w25 hbox hb; have BK5951 := Aside0.mk (hbox); have GW5951 := kg HB hg; have GE5951 := kg HB hg; replace HB := kh HB hb; clear hb hbox hg; have ⟨hcz26_0, hcz26_1, hcz26_2, hfz26_0, hfz26_1, hfz26_2⟩ := kz3f BK5951) | ((with_reducible refine gate_callee (f := 39) rfl ?_); refine kc (some 7) Try.func39 #[.agg #[.bool a0_0, .int .i64 a0_1, .int .i64 a0_2]] (flyballref17_Norm.calls a0_0 a0_1 a0_2 false t5953 t5954 _ A3.out) ?_; intro w27 hb; replace BK5951 := kb BK5951 hb; replace HB := kh HB hb; (try clear hb)) | ((with_reducible refine gate_dst (N := 5) rfl ?_); refine kx 5 #[.bool false, .int .i64 0, .int .i64 0] 23 ?_; intro gb5955 hg w28 hbox hb; have BK5955 := Aside0.mk (hbox); have GW5955 := kg HB hg; have GE5955 := kg HB hg; have NB5951_5955 := kn BK5951 hg; have NB5955_5951 := km BK5951 hg; replace BK5951 := kb BK5951 hb; replace HB := kh HB hb; clear hb hbox hg; have hnb29 := NB5955_5951.out; have hnc29 := NB5951_5955.out; have ⟨hcz30_0, hcz30_1, hcz30_2, hfz30_0, hfz30_1, hfz30_2⟩ := kz3f BK5955))
      go_ret
      exact ⟨pe, pl HB⟩
/-! ### flyballref17_times: function 71 -/
mutual
def flyballref17_times.j0 : Nat → Int → Int → Bool → Option (Int)
  | 0, _, _, _ => none
  | k + 1, x0, x1, x13 => if x13 = true then (some 0) else (if x0 < 0 then (flyballref17_times.j1 k x0 x1 (wrap64 (x0 * x1)) (wrap64 (-x0))) else (flyballref17_times.j1 k x0 x1 (wrap64 (x0 * x1)) x0))
def flyballref17_times.j1 : Nat → Int → Int → Int → Int → Option (Int)
  | 0, _, _, _, _ => none
  | k + 1, x0, x1, x5, x6 => if x1 < 0 then (flyballref17_times.j2 k x0 x1 x5 x6 (wrap64 (-x1))) else (flyballref17_times.j2 k x0 x1 x5 x6 x1)
def flyballref17_times.j2 : Nat → Int → Int → Int → Int → Int → Option (Int)
  | 0, _, _, _, _, _ => none
  | k + 1, x0, x1, x5, x6, x7 => if x7 = 0 then (none) else (if x6 > (wrap64 (Int.tdiv 1099511627776 x7)) then (if ((decide (x0 < 0)) != (decide (x1 < 0))) = true then (some (-1099511627776)) else (some 1099511627776)) else (some x5))
end
def flyballref17_times.f (k : Nat) (a0 : Int) (a1 : Int) : Option (Int) := if a0 = 0 then (flyballref17_times.j0 k a0 a1 true) else (flyballref17_times.j0 k a0 a1 (a1 == 0))
theorem flyballref17_times.mono_l : ∀ k, (∀ y0 y1 y2, LeO (flyballref17_times.j0 k y0 y1 y2) (flyballref17_times.j0 (k + 1) y0 y1 y2)) ∧ (∀ y0 y1 y2 y3, LeO (flyballref17_times.j1 k y0 y1 y2 y3) (flyballref17_times.j1 (k + 1) y0 y1 y2 y3)) ∧ (∀ y0 y1 y2 y3 y4, LeO (flyballref17_times.j2 k y0 y1 y2 y3 y4) (flyballref17_times.j2 (k + 1) y0 y1 y2 y3 y4))
  | 0 => ⟨fun _ _ _ r h => by simp [flyballref17_times.j0] at h, fun _ _ _ _ r h => by simp [flyballref17_times.j1] at h, fun _ _ _ _ _ r h => by simp [flyballref17_times.j2] at h⟩
  | k + 1 => by
    obtain ⟨ih0, ih1, ih2⟩ := flyballref17_times.mono_l k
    refine ⟨?_, ?_, ?_⟩
    · intro y0 y1 y2
      unfold flyballref17_times.j0
      repeat' first
      | (with_reducible exact ih0 _ _ _)
      | (with_reducible exact ih1 _ _ _ _)
      | (with_reducible exact ih2 _ _ _ _ _)
      | (with_reducible exact LeO.refl _)
      | (with_reducible exact LeO.none _)
      | (with_reducible refine LeO.ite ?_ ?_)
      | (with_reducible refine LeO.bind ?_ (fun _ => ?_))
      | exact ih0 _ _ _
      | exact ih1 _ _ _ _
      | exact ih2 _ _ _ _ _
      | exact LeO.none _
      | refine LeO.ite ?_ ?_
      | refine LeO.bind ?_ (fun _ => ?_)
    · intro y0 y1 y2 y3
      unfold flyballref17_times.j1
      repeat' first
      | (with_reducible exact ih0 _ _ _)
      | (with_reducible exact ih1 _ _ _ _)
      | (with_reducible exact ih2 _ _ _ _ _)
      | (with_reducible exact LeO.refl _)
      | (with_reducible exact LeO.none _)
      | (with_reducible refine LeO.ite ?_ ?_)
      | (with_reducible refine LeO.bind ?_ (fun _ => ?_))
      | exact ih0 _ _ _
      | exact ih1 _ _ _ _
      | exact ih2 _ _ _ _ _
      | exact LeO.none _
      | refine LeO.ite ?_ ?_
      | refine LeO.bind ?_ (fun _ => ?_)
    · intro y0 y1 y2 y3 y4
      unfold flyballref17_times.j2
      repeat' first
      | (with_reducible exact ih0 _ _ _)
      | (with_reducible exact ih1 _ _ _ _)
      | (with_reducible exact ih2 _ _ _ _ _)
      | (with_reducible exact LeO.refl _)
      | (with_reducible exact LeO.none _)
      | (with_reducible refine LeO.ite ?_ ?_)
      | (with_reducible refine LeO.bind ?_ (fun _ => ?_))
      | exact ih0 _ _ _
      | exact ih1 _ _ _ _
      | exact ih2 _ _ _ _ _
      | exact LeO.none _
      | refine LeO.ite ?_ ?_
      | refine LeO.bind ?_ (fun _ => ?_)
theorem flyballref17_times.mono : ∀ a0 a1 k, LeO (flyballref17_times.f k a0 a1) (flyballref17_times.f (k + 1) a0 a1) := by
  intro a0 a1 k
  obtain ⟨ih0, ih1, ih2⟩ := flyballref17_times.mono_l k
  unfold flyballref17_times.f
  repeat' first
      | (with_reducible exact ih0 _ _ _)
      | (with_reducible exact ih1 _ _ _ _)
      | (with_reducible exact ih2 _ _ _ _ _)
      | (with_reducible exact LeO.refl _)
      | (with_reducible exact LeO.none _)
      | (with_reducible refine LeO.ite ?_ ?_)
      | (with_reducible refine LeO.bind ?_ (fun _ => ?_))
      | exact ih0 _ _ _
      | exact ih1 _ _ _ _
      | exact ih2 _ _ _ _ _
      | exact LeO.none _
      | refine LeO.ite ?_ ?_
      | refine LeO.bind ?_ (fun _ => ?_)
set_option maxHeartbeats 8000000 in
set_option maxRecDepth 100000 in
theorem flyballref17_times.calls (k : Nat) (a0 : Int) (a1 : Int) (r : Int) (w : World) (h : flyballref17_times.f k a0 a1 = some r) :
    Calls Try.prog 71 #[.int .i64 a0, .int .i64 a1] w fun e w' => e = .returned (.int .i64 r) ∧ Drawn0 w w' := by
  have H := h
  clear h
  unfold flyballref17_times.f at H
  have HC3 := Aside0.mk H
  clear H
  go_enter Try.func71, Try.ntmps71
  go_upto_region 1 with (fail)
  go_cut [13] (fun v13 wc => ∃ (kq : Nat) (x13_2 : Bool), v13 = .bool x13_2 ∧ Aside0 (flyballref17_times.j0 kq a0 a1 x13_2 = some r) ∧ Aside0 (kq ≤ k) ∧ Drawn0 w wc)
  case first =>
    have H := HC3.out
    clear HC3
    by_cases c4 : a0 = 0
    · rw [if_pos c4] at H
      have c4b0 : (a0 == 0) = true := beq_iff_eq.mpr c4
      have c4b1 : (a0 != 0) = false := bne_eq_false_iff_eq.mpr c4
      clear c4
      (first | rw [c4b0] | (simp only [i64_w, i32_w]; rw [c4b0]) | skip)
      have H' := Aside0.mk H
      clear H
      go_wp2
      go_meet
      case rel => exact ⟨_, (true), (by first | rfl | (simp; done) | (simp [*]; done)), H', ⟨by first | omega | exact Nat.le_refl _⟩, by repeat (first | exact Drawn0.refl _ | apply Drawn0.step)⟩
    · rw [if_neg c4] at H
      have c4b0 : (a0 == 0) = false := beq_eq_false_iff_ne.mpr c4
      have c4b1 : (a0 != 0) = true := bne_iff_ne.mpr c4
      (first | rw [c4b0] | (simp only [i64_w, i32_w]; rw [c4b0]) | skip)
      have H' := Aside0.mk H
      clear H
      go_wp2
      go_meet
      case rel => exact ⟨_, ((a1 == 0)), (by first | rfl | (simp; done) | (simp [*]; done)), H', ⟨by first | omega | exact Nat.le_refl _⟩, by repeat (first | exact Drawn0.refl _ | apply Drawn0.step)⟩
  case rest =>
    clear HC3
    try clear p2
    try clear c4
    try clear c4b0
    try clear c4b1
    obtain ⟨kq, x13_2, rfl, HA, HJ2, ⟨mc2, rfl⟩⟩ := hcut
    cases kq with
    | zero => exact absurd HA.out (by simp [flyballref17_times.j0])
    | succ kj2 =>
      have H := HA.out
      clear HA
      simp only [flyballref17_times.j0] at H
      by_cases c5 : x13_2 = true
      · subst c5
        rw [if_pos rfl] at H
        obtain rfl := Option.some.inj H
        go_wp2
        go_ret
        exact ⟨by first | rfl | (simp; done) | (simp [*]; done), by repeat (first | exact Drawn0.refl _ | apply Drawn0.step)⟩
      · replace c5 := Bool.eq_false_iff.mpr c5
        subst c5
        rw [if_neg (show ¬ (false = true) by decide)] at H
        have HC6 := Aside0.mk H
        clear H
        go_upto_if 19 with (fail)
        go_cut [6] (fun v6 wc => ∃ (kq : Nat) (x6_5 : Int), v6 = .int .i64 x6_5 ∧ Aside0 (flyballref17_times.j1 kq a0 a1 (wrap64 (a0 * a1)) x6_5 = some r) ∧ Aside0 (kq ≤ kj2) ∧ Drawn0 w wc)
        case first =>
          have H := HC6.out
          clear HC6
          by_cases c7 : a0 < 0
          · rw [if_pos c7] at H
            have c7b0 : decide (a0 < 0) = true := decide_eq_true c7
            clear c7
            (first | rw [c7b0] | (simp only [i64_w, i32_w]; rw [c7b0]) | skip)
            have H' := Aside0.mk H
            clear H
            go_wp2
            go_meet
            case rel => exact ⟨_, (wrap64 (-a0)), (by first | rfl | (simp; done) | (simp [*]; done)), H', ⟨by have := HJ2.out; first | omega | exact Nat.le_refl _⟩, by repeat (first | exact Drawn0.refl _ | apply Drawn0.step)⟩
          · rw [if_neg c7] at H
            have c7b0 : decide (a0 < 0) = false := decide_eq_false c7
            clear c7
            (first | rw [c7b0] | (simp only [i64_w, i32_w]; rw [c7b0]) | skip)
            have H' := Aside0.mk H
            clear H
            go_wp2
            go_meet
            case rel => exact ⟨_, (a0), (by first | rfl | (simp; done) | (simp [*]; done)), H', ⟨by have := HJ2.out; first | omega | exact Nat.le_refl _⟩, by repeat (first | exact Drawn0.refl _ | apply Drawn0.step)⟩
        case rest =>
          clear HC6
          try clear c2
          try clear p2
          try clear c4
          try clear c4b0
          try clear c4b1
          try clear c5
          try clear p6
          try clear c7
          try clear c7b0
          try clear p2
          obtain ⟨kq, x6_5, rfl, HA, HJ5, ⟨mc5, rfl⟩⟩ := hcut
          cases kq with
          | zero => exact absurd HA.out (by simp [flyballref17_times.j1])
          | succ kj5 =>
            have H := HA.out
            clear HA
            simp only [flyballref17_times.j1] at H
            have HC8 := Aside0.mk H
            clear H
            go_upto_if 24 with (fail)
            go_cut [7] (fun v7 wc => ∃ (kq : Nat) (x7_7 : Int), v7 = .int .i64 x7_7 ∧ Aside0 (flyballref17_times.j2 kq a0 a1 (wrap64 (a0 * a1)) x6_5 x7_7 = some r) ∧ Aside0 (kq ≤ kj5) ∧ Drawn0 w wc)
            case first =>
              have H := HC8.out
              clear HC8
              by_cases c9 : a1 < 0
              · rw [if_pos c9] at H
                have c9b0 : decide (a1 < 0) = true := decide_eq_true c9
                clear c9
                (first | rw [c9b0] | (simp only [i64_w, i32_w]; rw [c9b0]) | skip)
                have H' := Aside0.mk H
                clear H
                go_wp2
                go_meet
                case rel => exact ⟨_, (wrap64 (-a1)), (by first | rfl | (simp; done) | (simp [*]; done)), H', ⟨by have := HJ2.out; have := HJ5.out; first | omega | exact Nat.le_refl _⟩, by repeat (first | exact Drawn0.refl _ | apply Drawn0.step)⟩
              · rw [if_neg c9] at H
                have c9b0 : decide (a1 < 0) = false := decide_eq_false c9
                clear c9
                (first | rw [c9b0] | (simp only [i64_w, i32_w]; rw [c9b0]) | skip)
                have H' := Aside0.mk H
                clear H
                go_wp2
                go_meet
                case rel => exact ⟨_, (a1), (by first | rfl | (simp; done) | (simp [*]; done)), H', ⟨by have := HJ2.out; have := HJ5.out; first | omega | exact Nat.le_refl _⟩, by repeat (first | exact Drawn0.refl _ | apply Drawn0.step)⟩
            case rest =>
              clear HC8
              try clear c2
              try clear p2
              try clear c4
              try clear c4b0
              try clear c4b1
              try clear c5
              try clear p6
              try clear c7
              try clear c7b0
              try clear c9
              try clear c9b0
              try clear p2
              try clear p6
              obtain ⟨kq, x7_7, rfl, HA, HJ7, ⟨mc7, rfl⟩⟩ := hcut
              cases kq with
              | zero => exact absurd HA.out (by simp [flyballref17_times.j2])
              | succ kj7 =>
                have H := HA.out
                clear HA
                simp only [flyballref17_times.j2] at H
                by_cases c10 : x7_7 = 0
                · rw [if_pos c10] at H
                  exact absurd H (by simp)
                · rw [if_neg c10] at H
                  have c10b0 : (x7_7 == 0) = false := beq_eq_false_iff_ne.mpr c10
                  have c10b1 : (x7_7 != 0) = true := bne_iff_ne.mpr c10
                  by_cases c11 : x6_5 > (wrap64 (Int.tdiv 1099511627776 x7_7))
                  · rw [if_pos c11] at H
                    have c11b0 : decide ((wrap64 (Int.tdiv 1099511627776 x7_7)) < x6_5) = true := decide_eq_true c11
                    clear c11
                    by_cases c12 : ((decide (a0 < 0)) != (decide (a1 < 0))) = true
                    · rw [if_pos c12] at H
                      have c12b0 : ((decide (a0 < 0)) != (decide (a1 < 0))) = true := c12
                      (try (have c12b1 : decide ((decide (a0 < 0)) = (decide (a1 < 0))) = false := by simpa using c12))
                      (try (have c12b2 : ((decide (a0 < 0)) == (decide (a1 < 0))) = false := by simpa using c12))
                      (try (have c12b3 : ¬ ((decide (a0 < 0)) = (decide (a1 < 0))) := by simpa using c12))
                      clear c12
                      obtain rfl := Option.some.inj H
                      go_wp2
                      go_ret
                      exact ⟨by first | rfl | (simp; done) | (simp [*]; done), by repeat (first | exact Drawn0.refl _ | apply Drawn0.step)⟩
                    · rw [if_neg c12] at H
                      have c12b0 : ((decide (a0 < 0)) != (decide (a1 < 0))) = false := by simpa using c12
                      (try (have c12b1 : decide ((decide (a0 < 0)) = (decide (a1 < 0))) = true := by simpa using c12))
                      (try (have c12b2 : ((decide (a0 < 0)) == (decide (a1 < 0))) = true := by simpa using c12))
                      clear c12
                      obtain rfl := Option.some.inj H
                      go_wp2
                      go_ret
                      exact ⟨by first | rfl | (simp; done) | (simp [*]; done), by repeat (first | exact Drawn0.refl _ | apply Drawn0.step)⟩
                  · rw [if_neg c11] at H
                    have c11b0 : decide ((wrap64 (Int.tdiv 1099511627776 x7_7)) < x6_5) = false := decide_eq_false c11
                    clear c11
                    obtain rfl := Option.some.inj H
                    go_wp2
                    go_ret
                    exact ⟨by first | rfl | (simp; done) | (simp [*]; done), by repeat (first | exact Drawn0.refl _ | apply Drawn0.step)⟩
end Go.Proofs.Ytinmgnlofininaa.PAll
end
