/- Functions of the print, turned to this claim. -/
import Derived.Test.YtinmgnlofininaaZKW
import Derived.Test.YtinmgnlofininaaZKx0
import Derived.Test.YtinmgnlofininaaZKx27
import Derived.Test.YtinmgnlofininaaZKx28
import Derived.Test.YtinmgnlofininaaZKx29
import Derived.Test.YtinmgnlofininaaZKx30
import Derived.Test.YtinmgnlofininaaZKx31
import Derived.Test.YtinmgnlofininaaZKx34
import Derived.Test.YtinmgnlofininaaZKx35
import Derived.Test.YtinmgnlofininaaZKx36
import Derived.Test.YtinmgnlofininaaZKx38
import Derived.Test.YtinmgnlofininaaZKx39
section
namespace Go.Proofs.Ytinmgnlofininaa.PAll
open Go.RowKit Go.Proofs.YtinmgnlofininaaW.PrintWords Go.Proofs.YtinmgnlofininaaW.PrintLast Go.Proofs.YtinmgnlofininaaW.PrintMore
attribute [local go_sem] max2_int min2_int max_two min_two max_three min_three max_four min_four   -- for this text's walks alone
set_option linter.unusedVariables false
set_option linter.unusedSimpArgs false
/-! ### flyballlaw21_ClockJoins: function 4 -/
def flyballlaw21_ClockJoins.f (k : Nat) (a0_0 : Bool) (a0_1 : Int) (a0_2 : Int) (a0_3 : Bool) (a0_4 : Int) (a0_5 : Int) (a1_0 : Bool) (a1_1 : Int) (a1_2 : Int) (a1_3 : Bool) (a1_4 : Int) (a1_5 : Int) (l2 : List Int) (a3 : Int) (a4 : Int) : Option (Bool) := (flyballlaw21_works.f k).bind fun t12553 => (if t12553 = true then (if (l2.length : Int) > 200 then (some t12553) else ((clock_Join.f k a0_0 a0_1 a0_2 a0_3 a0_4 a0_5 a1_0 a1_1 a1_2 a1_3 a1_4 a1_5).bind fun bt12554 => ((flyballlaw21_of.f a0_0 a0_1 a0_2 a0_3 a0_4 a0_5).bind fun bt12560 => ((flyballlaw21_of.f a1_0 a1_1 a1_2 a1_3 a1_4 a1_5).bind fun bt12566 => ((flyballref21_Join.f bt12560.1 bt12560.2.1 bt12560.2.2.1 bt12560.2.2.2.1 bt12560.2.2.2.2.1 bt12560.2.2.2.2.2 bt12566.1 bt12566.2.1 bt12566.2.2.1 bt12566.2.2.2.1 bt12566.2.2.2.2.1 bt12566.2.2.2.2.2).bind fun bt12572 => ((flyballlaw21_is.f bt12554.1 bt12554.2.1 bt12554.2.2.1 bt12554.2.2.2.1 bt12554.2.2.2.2.1 bt12554.2.2.2.2.2 bt12572.1 bt12572.2.1 bt12572.2.2.1 bt12572.2.2.2.1 bt12572.2.2.2.2.1 bt12572.2.2.2.2.2).bind fun t12578 => (if t12578 = true then ((clock_Meet.f k a0_0 a0_1 a0_2 a0_3 a0_4 a0_5 a1_0 a1_1 a1_2 a1_3 a1_4 a1_5).bind fun bt12579 => ((flyballlaw21_of.f a0_0 a0_1 a0_2 a0_3 a0_4 a0_5).bind fun bt12585 => ((flyballlaw21_of.f a1_0 a1_1 a1_2 a1_3 a1_4 a1_5).bind fun bt12591 => ((flyballref21_Meet.f bt12585.1 bt12585.2.1 bt12585.2.2.1 bt12585.2.2.2.1 bt12585.2.2.2.2.1 bt12585.2.2.2.2.2 bt12591.1 bt12591.2.1 bt12591.2.2.1 bt12591.2.2.2.1 bt12591.2.2.2.2.1 bt12591.2.2.2.2.2).bind fun bt12597 => ((flyballlaw21_is.f bt12579.1 bt12579.2.1 bt12579.2.2.1 bt12579.2.2.2.1 bt12579.2.2.2.2.1 bt12579.2.2.2.2.2 bt12597.1 bt12597.2.1 bt12597.2.2.1 bt12597.2.2.2.1 bt12597.2.2.2.2.1 bt12597.2.2.2.2.2).bind fun t12603 => (if t12603 = true then ((clock_Widen.f k a0_0 a0_1 a0_2 a0_3 a0_4 a0_5 a1_0 a1_1 a1_2 a1_3 a1_4 a1_5 l2).bind fun bt12604 => ((flyballlaw21_of.f a0_0 a0_1 a0_2 a0_3 a0_4 a0_5).bind fun bt12610 => ((flyballlaw21_of.f a1_0 a1_1 a1_2 a1_3 a1_4 a1_5).bind fun bt12616 => ((flyballref21_Widen.f k bt12610.1 bt12610.2.1 bt12610.2.2.1 bt12610.2.2.2.1 bt12610.2.2.2.2.1 bt12610.2.2.2.2.2 bt12616.1 bt12616.2.1 bt12616.2.2.1 bt12616.2.2.2.1 bt12616.2.2.2.2.1 bt12616.2.2.2.2.2 l2).bind fun bt12622 => ((flyballlaw21_is.f bt12604.1 bt12604.2.1 bt12604.2.2.1 bt12604.2.2.2.1 bt12604.2.2.2.2.1 bt12604.2.2.2.2.2 bt12622.1 bt12622.2.1 bt12622.2.2.1 bt12622.2.2.2.1 bt12622.2.2.2.2.1 bt12622.2.2.2.2.2).bind fun t12628 => (if t12628 = true then ((clock_Inside.f k a0_0 a0_1 a0_2 a0_3 a0_4 a0_5 a1_0 a1_1 a1_2 a1_3 a1_4 a1_5).bind fun t12629 => ((flyballlaw21_of.f a0_0 a0_1 a0_2 a0_3 a0_4 a0_5).bind fun bt12630 => ((flyballlaw21_of.f a1_0 a1_1 a1_2 a1_3 a1_4 a1_5).bind fun bt12636 => ((flyballref21_Inside.f bt12630.1 bt12630.2.1 bt12630.2.2.1 bt12630.2.2.2.1 bt12630.2.2.2.2.1 bt12630.2.2.2.2.2 bt12636.1 bt12636.2.1 bt12636.2.2.1 bt12636.2.2.2.1 bt12636.2.2.2.2.1 bt12636.2.2.2.2.2).bind fun t12642 => (if (t12629 == t12642) = true then ((clock_Has.f k a0_0 a0_1 a0_2 a0_3 a0_4 a0_5 a3 a4).bind fun t12643 => ((flyballlaw21_of.f a0_0 a0_1 a0_2 a0_3 a0_4 a0_5).bind fun bt12644 => ((flyballref21_Has.f k bt12644.1 bt12644.2.1 bt12644.2.2.1 bt12644.2.2.2.1 bt12644.2.2.2.2.1 bt12644.2.2.2.2.2 a3 a4).bind fun t12650 => (some (t12643 == t12650))))) else (none)))))) else (none))))))) else (none))))))) else (none)))))))) else (some false))
theorem flyballlaw21_ClockJoins.mono : ∀ a0 a1 a2 a3 a4 a5 a6 a7 a8 a9 a10 a11 a12 a13 a14 k, LeO (flyballlaw21_ClockJoins.f k a0 a1 a2 a3 a4 a5 a6 a7 a8 a9 a10 a11 a12 a13 a14) (flyballlaw21_ClockJoins.f (k + 1) a0 a1 a2 a3 a4 a5 a6 a7 a8 a9 a10 a11 a12 a13 a14) := by
  intro a0 a1 a2 a3 a4 a5 a6 a7 a8 a9 a10 a11 a12 a13 a14 k
  unfold flyballlaw21_ClockJoins.f
  repeat' first
      | (with_reducible exact clock_Has.mono _ _ _ _ _ _ _ _ _)
      | (with_reducible exact clock_Inside.mono _ _ _ _ _ _ _ _ _ _ _ _ _)
      | (with_reducible exact clock_Join.mono _ _ _ _ _ _ _ _ _ _ _ _ _)
      | (with_reducible exact clock_Meet.mono _ _ _ _ _ _ _ _ _ _ _ _ _)
      | (with_reducible exact clock_Widen.mono _ _ _ _ _ _ _ _ _ _ _ _ _ _)
      | (with_reducible exact flyballlaw21_works.mono _)
      | (with_reducible exact flyballref21_Has.mono _ _ _ _ _ _ _ _ _)
      | (with_reducible exact flyballref21_Widen.mono _ _ _ _ _ _ _ _ _ _ _ _ _ _)
      | (with_reducible exact LeO.refl _)
      | (with_reducible exact LeO.none _)
      | (with_reducible refine LeO.ite ?_ ?_)
      | (with_reducible refine LeO.bind ?_ (fun _ => ?_))
      | exact clock_Has.mono _ _ _ _ _ _ _ _ _
      | exact clock_Inside.mono _ _ _ _ _ _ _ _ _ _ _ _ _
      | exact clock_Join.mono _ _ _ _ _ _ _ _ _ _ _ _ _
      | exact clock_Meet.mono _ _ _ _ _ _ _ _ _ _ _ _ _
      | exact clock_Widen.mono _ _ _ _ _ _ _ _ _ _ _ _ _ _
      | exact flyballlaw21_works.mono _
      | exact flyballref21_Has.mono _ _ _ _ _ _ _ _ _
      | exact flyballref21_Widen.mono _ _ _ _ _ _ _ _ _ _ _ _ _ _
      | exact LeO.none _
      | refine LeO.ite ?_ ?_
      | refine LeO.bind ?_ (fun _ => ?_)
def flyballlaw21_ClockJoins.T6 : Bool × List (List Nat × List Nat) := (true, [([], []), ([], []), ([0, 1], [0, 1]), ([], []), ([3, 2], [3]), ([], []), ([5, 4], [5]), ([4, 6, 6], [4, 6]), ([2, 7, 7], [2, 7]), ([8, 8], [8]), ([9], [9]), ([9], [9]), ([10, 11, 9, 9], [9, 10, 11]), ([9], [9]), ([13, 12, 9], [9, 13]), ([9], [9]), ([15, 14, 9], [9, 15]), ([14, 16, 16, 9], [9, 14, 16]), ([12, 17, 17, 9], [9, 12, 17]), ([9, 18], [9, 18]), ([19, 18], [19]), ([20], [20]), ([20], [20]), ([20], [20]), ([21, 22, 23, 20, 20], [20, 21, 22, 23]), ([20], [20]), ([25, 24, 20], [20, 25]), ([20], [20]), ([27, 26, 20], [20, 27]), ([20], [20]), ([26, 28, 29, 28, 20], [20, 26, 28, 29]), ([24, 30, 30, 20], [20, 24, 30]), ([20, 31], [20, 31]), ([32, 31, 0, 1, 2, 3, 4, 5, 6, 7, 8, 9, 10, 11, 12, 13, 14, 15, 16, 17, 18, 19, 20, 21, 22, 23, 24, 25, 26, 27, 28, 29, 30, 31, 32], [32])])
def flyballlaw21_ClockJoins.B6 : List Nat := [0, 0, 3, 0, 15, 0, 63, 127, 255, 511, 1023, 1023, 4095, 1023, 16383, 1023, 65535, 131071, 262143, 524287, 1048575, 2097151, 2097151, 2097151, 16777215, 2097151, 67108863, 2097151, 268435455, 2097151, 1073741823, 2147483647, 4294967295, 8589934591]
theorem flyballlaw21_ClockJoins.tab6 : rtab .any (opsOf Try.f4 6) = flyballlaw21_ClockJoins.T6 := by kernel_rfl
theorem flyballlaw21_ClockJoins.bits6 : waitsOk flyballlaw21_ClockJoins.T6.2 flyballlaw21_ClockJoins.B6 = true := by kernel_rfl
def flyballlaw21_ClockJoins.T7 : Bool × List (List Nat × List Nat) := (true, [([], []), ([0], [0]), ([1], [1]), ([1, 2], [1, 2]), ([3, 1], [3]), ([4], [4]), ([4], [4]), ([5, 6, 4, 4], [4, 5, 6]), ([4], [4]), ([8, 7, 4], [4, 8]), ([4], [4]), ([10, 9, 4], [4, 10]), ([9, 11, 11, 4], [4, 9, 11]), ([7, 12, 4], [4, 7, 12]), ([4, 13], [4, 13]), ([14, 12], [14]), ([15], [15]), ([15], [15]), ([15], [15]), ([16, 17, 18, 15, 15], [15, 16, 17, 18]), ([15], [15]), ([20, 19, 15], [15, 20]), ([15], [15]), ([15], [15]), ([21, 22, 23, 21, 15], [15, 21, 22, 23]), ([19, 24, 15], [15, 19, 24]), ([15, 25], [15, 25]), ([26, 24, 0, 1, 2, 3, 4, 5, 6, 7, 8, 9, 10, 11, 12, 13, 14, 15, 16, 17, 18, 19, 20, 21, 22, 23, 24, 25, 26], [26])])
def flyballlaw21_ClockJoins.B7 : List Nat := [0, 1, 3, 7, 15, 31, 31, 127, 31, 511, 31, 2047, 4095, 8191, 16383, 32767, 65535, 65535, 65535, 524287, 65535, 2097151, 65535, 65535, 16777215, 33554431, 67108863, 134217727]
theorem flyballlaw21_ClockJoins.tab7 : rtab .any (opsOf Try.f4 7) = flyballlaw21_ClockJoins.T7 := by kernel_rfl
theorem flyballlaw21_ClockJoins.bits7 : waitsOk flyballlaw21_ClockJoins.T7.2 flyballlaw21_ClockJoins.B7 = true := by kernel_rfl
set_option maxHeartbeats 8000000 in
set_option maxRecDepth 100000 in
theorem flyballlaw21_ClockJoins.calls (k : Nat) (a0_0 : Bool) (a0_1 : Int) (a0_2 : Int) (a0_3 : Bool) (a0_4 : Int) (a0_5 : Int) (a1_0 : Bool) (a1_1 : Int) (a1_2 : Int) (a1_3 : Bool) (a1_4 : Int) (a1_5 : Int) (A2 : Option Addr) (c2 : Nat) (l2 : List Int) (a3 : Int) (a4 : Int) (r : Bool) (w : World) (hr2 : Kd.C (Kd.int .i64) w A2 l2.length l2) (hc2 : l2.length ≤ c2) (h : flyballlaw21_ClockJoins.f k a0_0 a0_1 a0_2 a0_3 a0_4 a0_5 a1_0 a1_1 a1_2 a1_3 a1_4 a1_5 l2 a3 a4 = some r) :
    Calls Try.prog 4 #[.agg #[.bool a0_0, .int .i64 a0_1, .int .i64 a0_2, .bool a0_3, .int .i64 a0_4, .int .i64 a0_5], .agg #[.bool a1_0, .int .i64 a1_1, .int .i64 a1_2, .bool a1_3, .int .i64 a1_4, .int .i64 a1_5], .slice A2 l2.length c2, .int .i64 a3, .int .i64 a4] w fun e w' => e = .returned (.bool r) ∧ Below w.heap.size w w' := by
  have hu25 := Try.underlying25
  have HR2 := Aside0.mk hr2
  have HC2 := Aside0.mk hc2
  clear hr2 hc2
  have HB := Aside0.mk (Below.refl w.heap.size w)
  have H := h
  clear h
  unfold flyballlaw21_ClockJoins.f at H
  obtain ⟨t12553, A60, H⟩ := Option.bind_eq_some_iff.mp H
  have A6 := Aside0.mk A60
  clear A60
  (try dsimp only at H)
  by_cases c7 : t12553 = true
  · subst c7
    rw [if_pos rfl] at H
    by_cases c8 : (l2.length : Int) > 200
    · rw [if_pos c8] at H
      have c8b0 : decide (200 < (l2.length : Int)) = true := decide_eq_true c8
      have c8b1 : decide (200 < l2.length) = true := decide_eq_true (by omega)
      clear c8
      obtain rfl := Option.some.inj H
      go_enter Try.func4, Try.ntmps4
      go_wp2_with (first | ((with_reducible refine gate_dst (N := 5) rfl ?_); refine kx 5 #[.bool a0_0, .int .i64 a0_1, .int .i64 a0_2, .bool a0_3, .int .i64 a0_4, .int .i64 a0_5] 25 ?_; intro gb12551 hg w9 hbox hb; have BK12551 := Aside0.mk (hbox); have GW12551 := kg HB hg; have GE12551 := kg HB hg; replace HB := kh HB hb; clear hb hbox hg) | ((with_reducible refine gate_dst (N := 6) rfl ?_); refine kx 6 #[.bool a1_0, .int .i64 a1_1, .int .i64 a1_2, .bool a1_3, .int .i64 a1_4, .int .i64 a1_5] 25 ?_; intro gb12552 hg w10 hbox hb; have BK12552 := Aside0.mk (hbox); have GW12552 := kg HB hg; have GE12552 := kg HB hg; have NB12551_12552 := kn BK12551 hg; have NB12552_12551 := km BK12551 hg; replace BK12551 := kb BK12551 hb; replace HB := kh HB hb; clear hb hbox hg) | ((with_reducible refine gate_callee (f := 13) rfl ?_); refine kc (some 13) Try.func13 #[] (flyballlaw21_works.calls k  true _ A6.out) ?_; intro w11 hb; replace BK12551 := kb BK12551 hb; replace BK12552 := kb BK12552 hb; replace HB := kh HB hb; (try clear hb)))
      go_ret
      exact ⟨pe, pl HB⟩
    · rw [if_neg c8] at H
      have c8b0 : decide (200 < (l2.length : Int)) = false := decide_eq_false c8
      have c8b1 : decide (200 < l2.length) = false := decide_eq_false (by omega)
      clear c8
      obtain ⟨⟨t12554, t12555, t12556, t12557, t12558, t12559⟩, A120, H⟩ := Option.bind_eq_some_iff.mp H
      have A12 := Aside0.mk A120
      clear A120
      (try dsimp only at H)
      obtain ⟨⟨t12560, t12561, t12562, t12563, t12564, t12565⟩, A130, H⟩ := Option.bind_eq_some_iff.mp H
      have A13 := Aside0.mk A130
      clear A130
      (try dsimp only at H)
      obtain ⟨⟨t12566, t12567, t12568, t12569, t12570, t12571⟩, A140, H⟩ := Option.bind_eq_some_iff.mp H
      have A14 := Aside0.mk A140
      clear A140
      (try dsimp only at H)
      obtain ⟨⟨t12572, t12573, t12574, t12575, t12576, t12577⟩, A150, H⟩ := Option.bind_eq_some_iff.mp H
      have A15 := Aside0.mk A150
      clear A150
      (try dsimp only at H)
      obtain ⟨t12578, A160, H⟩ := Option.bind_eq_some_iff.mp H
      have A16 := Aside0.mk A160
      clear A160
      (try dsimp only at H)
      by_cases c17 : t12578 = true
      · subst c17
        rw [if_pos rfl] at H
        obtain ⟨⟨t12579, t12580, t12581, t12582, t12583, t12584⟩, A180, H⟩ := Option.bind_eq_some_iff.mp H
        have A18 := Aside0.mk A180
        clear A180
        (try dsimp only at H)
        obtain ⟨⟨t12585, t12586, t12587, t12588, t12589, t12590⟩, A190, H⟩ := Option.bind_eq_some_iff.mp H
        have A19 := Aside0.mk A190
        clear A190
        (try dsimp only at H)
        obtain ⟨⟨t12591, t12592, t12593, t12594, t12595, t12596⟩, A200, H⟩ := Option.bind_eq_some_iff.mp H
        have A20 := Aside0.mk A200
        clear A200
        (try dsimp only at H)
        obtain ⟨⟨t12597, t12598, t12599, t12600, t12601, t12602⟩, A210, H⟩ := Option.bind_eq_some_iff.mp H
        have A21 := Aside0.mk A210
        clear A210
        (try dsimp only at H)
        obtain ⟨t12603, A220, H⟩ := Option.bind_eq_some_iff.mp H
        have A22 := Aside0.mk A220
        clear A220
        (try dsimp only at H)
        by_cases c23 : t12603 = true
        · subst c23
          rw [if_pos rfl] at H
          obtain ⟨⟨t12604, t12605, t12606, t12607, t12608, t12609⟩, A240, H⟩ := Option.bind_eq_some_iff.mp H
          have A24 := Aside0.mk A240
          clear A240
          (try dsimp only at H)
          obtain ⟨⟨t12610, t12611, t12612, t12613, t12614, t12615⟩, A250, H⟩ := Option.bind_eq_some_iff.mp H
          have A25 := Aside0.mk A250
          clear A250
          (try dsimp only at H)
          obtain ⟨⟨t12616, t12617, t12618, t12619, t12620, t12621⟩, A260, H⟩ := Option.bind_eq_some_iff.mp H
          have A26 := Aside0.mk A260
          clear A260
          (try dsimp only at H)
          obtain ⟨⟨t12622, t12623, t12624, t12625, t12626, t12627⟩, A270, H⟩ := Option.bind_eq_some_iff.mp H
          have A27 := Aside0.mk A270
          clear A270
          (try dsimp only at H)
          obtain ⟨t12628, A280, H⟩ := Option.bind_eq_some_iff.mp H
          have A28 := Aside0.mk A280
          clear A280
          (try dsimp only at H)
          by_cases c29 : t12628 = true
          · subst c29
            rw [if_pos rfl] at H
            obtain ⟨t12629, A300, H⟩ := Option.bind_eq_some_iff.mp H
            have A30 := Aside0.mk A300
            clear A300
            (try dsimp only at H)
            obtain ⟨⟨t12630, t12631, t12632, t12633, t12634, t12635⟩, A310, H⟩ := Option.bind_eq_some_iff.mp H
            have A31 := Aside0.mk A310
            clear A310
            (try dsimp only at H)
            obtain ⟨⟨t12636, t12637, t12638, t12639, t12640, t12641⟩, A320, H⟩ := Option.bind_eq_some_iff.mp H
            have A32 := Aside0.mk A320
            clear A320
            (try dsimp only at H)
            obtain ⟨t12642, A330, H⟩ := Option.bind_eq_some_iff.mp H
            have A33 := Aside0.mk A330
            clear A330
            (try dsimp only at H)
            by_cases c34 : (t12629 == t12642) = true
            · rw [if_pos c34] at H
              have c34b0 : (t12629 == t12642) = true := c34
              (try (have c34b1 : decide (t12629 = t12642) = true := by simpa using c34))
              (try (have c34b2 : (t12629 == t12642) = true := by simpa using c34))
              clear c34
              obtain ⟨t12643, A350, H⟩ := Option.bind_eq_some_iff.mp H
              have A35 := Aside0.mk A350
              clear A350
              (try dsimp only at H)
              obtain ⟨⟨t12644, t12645, t12646, t12647, t12648, t12649⟩, A360, H⟩ := Option.bind_eq_some_iff.mp H
              have A36 := Aside0.mk A360
              clear A360
              (try dsimp only at H)
              obtain ⟨t12650, A370, H⟩ := Option.bind_eq_some_iff.mp H
              have A37 := Aside0.mk A370
              clear A370
              (try dsimp only at H)
              obtain rfl := Option.some.inj H
              go_enter Try.func4, Try.ntmps4
              try go_wp2_with (first | ((with_reducible refine gate_dst (N := 5) rfl ?_); refine kx 5 #[.bool a0_0, .int .i64 a0_1, .int .i64 a0_2, .bool a0_3, .int .i64 a0_4, .int .i64 a0_5] 25 ?_; intro gb12551 hg w38 hbox hb; have BK12551 := Aside0.mk (hbox); have GW12551 := kg HB hg; have GE12551 := kg HB hg; replace HB := kh HB hb; clear hb hbox hg) | ((with_reducible refine gate_dst (N := 6) rfl ?_); refine kx 6 #[.bool a1_0, .int .i64 a1_1, .int .i64 a1_2, .bool a1_3, .int .i64 a1_4, .int .i64 a1_5] 25 ?_; intro gb12552 hg w39 hbox hb; have BK12552 := Aside0.mk (hbox); have GW12552 := kg HB hg; have GE12552 := kg HB hg; have NB12551_12552 := kn BK12551 hg; have NB12552_12551 := km BK12551 hg; replace BK12551 := kb BK12551 hb; replace HB := kh HB hb; clear hb hbox hg) | ((with_reducible refine gate_callee (f := 13) rfl ?_); refine kc (some 13) Try.func13 #[] (flyballlaw21_works.calls k  true _ A6.out) ?_; intro w40 hb; replace BK12551 := kb BK12551 hb; replace BK12552 := kb BK12552 hb; replace HB := kh HB hb; (try clear hb)))
              replace BK12551 := Aside0.mk (blk_drew BK12551.out)
              replace BK12552 := Aside0.mk (blk_drew BK12552.out)
              replace HB := Aside0.mk (below_drew1 HB.out)
              refine start_ (n := 34) (S := fun w' => w'.cell? ⟨gb12551, 0, none⟩ = some (.bool a0_0) ∧ w'.cell? ⟨gb12551, 1, none⟩ = some (.int .i64 a0_1) ∧ w'.cell? ⟨gb12551, 2, none⟩ = some (.int .i64 a0_2) ∧ w'.cell? ⟨gb12551, 3, none⟩ = some (.bool a0_3) ∧ w'.cell? ⟨gb12551, 4, none⟩ = some (.int .i64 a0_4) ∧ w'.cell? ⟨gb12551, 5, none⟩ = some (.int .i64 a0_5) ∧ w'.cell? ⟨gb12552, 0, none⟩ = some (.bool a1_0) ∧ w'.cell? ⟨gb12552, 1, none⟩ = some (.int .i64 a1_1) ∧ w'.cell? ⟨gb12552, 2, none⟩ = some (.int .i64 a1_2) ∧ w'.cell? ⟨gb12552, 3, none⟩ = some (.bool a1_3) ∧ w'.cell? ⟨gb12552, 4, none⟩ = some (.int .i64 a1_4) ∧ w'.cell? ⟨gb12552, 5, none⟩ = some (.int .i64 a1_5)) (ds := []) #[false, false, false, false, false, false, false, false, false, false, false, false, false, false, false, false, false, false, false, false, false, false, false, false, false, false, false, false, false, false, false, false, false, false] (by kernel_rfl) rfl rfl ⟨bc BK12551 0, bc BK12551 1, bc BK12551 2, bc BK12551 3, bc BK12551 4, bc BK12551 5, bc BK12552 0, bc BK12552 1, bc BK12552 2, bc BK12552 3, bc BK12552 4, bc BK12552 5⟩ (fun hHeld => ?_); refine with_tabW flyballlaw21_ClockJoins.tab6 flyballlaw21_ClockJoins.bits6 (fun HT_ HW_ => ?_)
              generalize w40.drew = w41 at BK12551 BK12552 HB hHeld ⊢
              refine tak 0 (some 20) #[true, false, false, false, false, false, false, false, false, false, false, false, false, false, false, false, false, false, false, false, false, false, false, false, false, false, false, false, false, false, false, false, false, false] (take_ofW HT_.out HW_.out (by kernel_rfl)) hHeld ?_
              refine tak 1 (some 21) #[true, true, false, false, false, false, false, false, false, false, false, false, false, false, false, false, false, false, false, false, false, false, false, false, false, false, false, false, false, false, false, false, false, false] (take_ofW HT_.out HW_.out (by kernel_rfl)) hHeld ?_
              refine tak 3 (some 23) #[true, true, false, true, false, false, false, false, false, false, false, false, false, false, false, false, false, false, false, false, false, false, false, false, false, false, false, false, false, false, false, false, false, false] (take_ofW HT_.out HW_.out (by kernel_rfl)) hHeld ?_
              refine tak 5 (some 25) #[true, true, false, true, false, true, false, false, false, false, false, false, false, false, false, false, false, false, false, false, false, false, false, false, false, false, false, false, false, false, false, false, false, false] (take_ofW HT_.out HW_.out (by kernel_rfl)) hHeld ?_
              refine one_ (i := 2) (N := some 22) #[true, true, true, true, false, true, false, false, false, false, false, false, false, false, false, false, false, false, false, false, false, false, false, false, false, false, false, false, false, false, false, false, false, false] rfl rfl (one_of HT_.out (by kernel_rfl)) (by decide) (fun K hK => ?_)
              refine gc Try.func26 #[.agg #[.bool a0_0, .int .i64 a0_1, .int .i64 a0_2, .bool a0_3, .int .i64 a0_4, .int .i64 a0_5], .agg #[.bool a1_0, .int .i64 a1_1, .int .i64 a1_2, .bool a1_3, .int .i64 a1_4, .int .i64 a1_5]] (clock_Join.calls k a0_0 a0_1 a0_2 a0_3 a0_4 a0_5 a1_0 a1_1 a1_2 a1_3 a1_4 a1_5 t12554 t12555 t12556 t12557 t12558 t12559 _ A12.out) ?_
              intro w42 hb
              replace BK12551 := kb BK12551 hb
              replace BK12552 := kb BK12552 hb
              replace HB := kh HB hb
              (try clear hb)
              refine hK.out _ _ ⟨bc BK12551 0, bc BK12551 1, bc BK12551 2, bc BK12551 3, bc BK12551 4, bc BK12551 5, bc BK12552 0, bc BK12552 1, bc BK12552 2, bc BK12552 3, bc BK12552 4, bc BK12552 5⟩ (fun hHeld => ?_)
              clear hK K
              refine nrm (some 22) ?_
              refine one_ (i := 4) (N := some 24) #[true, true, true, true, true, true, false, false, false, false, false, false, false, false, false, false, false, false, false, false, false, false, false, false, false, false, false, false, false, false, false, false, false, false] rfl rfl (one_of HT_.out (by kernel_rfl)) (by decide) (fun K hK => ?_)
              refine gc Try.func19 #[.agg #[.bool a0_0, .int .i64 a0_1, .int .i64 a0_2, .bool a0_3, .int .i64 a0_4, .int .i64 a0_5]] (flyballlaw21_of.calls a0_0 a0_1 a0_2 a0_3 a0_4 a0_5 t12560 t12561 t12562 t12563 t12564 t12565 _ A13.out) ?_
              intro w43 hb
              replace BK12551 := kb BK12551 hb
              replace BK12552 := kb BK12552 hb
              replace HB := kh HB hb
              (try clear hb)
              refine hK.out _ _ ⟨bc BK12551 0, bc BK12551 1, bc BK12551 2, bc BK12551 3, bc BK12551 4, bc BK12551 5, bc BK12552 0, bc BK12552 1, bc BK12552 2, bc BK12552 3, bc BK12552 4, bc BK12552 5⟩ (fun hHeld => ?_)
              clear hK K
              refine nrm (some 24) ?_
              refine one_ (i := 6) (N := some 26) #[true, true, true, true, true, true, true, false, false, false, false, false, false, false, false, false, false, false, false, false, false, false, false, false, false, false, false, false, false, false, false, false, false, false] rfl rfl (one_of HT_.out (by kernel_rfl)) (by decide) (fun K hK => ?_)
              refine gc Try.func19 #[.agg #[.bool a1_0, .int .i64 a1_1, .int .i64 a1_2, .bool a1_3, .int .i64 a1_4, .int .i64 a1_5]] (flyballlaw21_of.calls a1_0 a1_1 a1_2 a1_3 a1_4 a1_5 t12566 t12567 t12568 t12569 t12570 t12571 _ A14.out) ?_
              intro w44 hb
              replace BK12551 := kb BK12551 hb
              replace BK12552 := kb BK12552 hb
              replace HB := kh HB hb
              (try clear hb)
              refine hK.out _ _ ⟨bc BK12551 0, bc BK12551 1, bc BK12551 2, bc BK12551 3, bc BK12551 4, bc BK12551 5, bc BK12552 0, bc BK12552 1, bc BK12552 2, bc BK12552 3, bc BK12552 4, bc BK12552 5⟩ (fun hHeld => ?_)
              clear hK K
              refine nrm (some 26) ?_
              refine one_ (i := 7) (N := some 27) #[true, true, true, true, true, true, true, true, false, false, false, false, false, false, false, false, false, false, false, false, false, false, false, false, false, false, false, false, false, false, false, false, false, false] rfl rfl (one_of HT_.out (by kernel_rfl)) (by decide) (fun K hK => ?_)
              refine gc Try.func27 #[.agg #[.bool t12560, .int .i64 t12561, .int .i64 t12562, .bool t12563, .int .i64 t12564, .int .i64 t12565], .agg #[.bool t12566, .int .i64 t12567, .int .i64 t12568, .bool t12569, .int .i64 t12570, .int .i64 t12571]] (flyballref21_Join.calls t12560 t12561 t12562 t12563 t12564 t12565 t12566 t12567 t12568 t12569 t12570 t12571 t12572 t12573 t12574 t12575 t12576 t12577 _ A15.out) ?_
              intro w45 hb
              replace BK12551 := kb BK12551 hb
              replace BK12552 := kb BK12552 hb
              replace HB := kh HB hb
              (try clear hb)
              refine hK.out _ _ ⟨bc BK12551 0, bc BK12551 1, bc BK12551 2, bc BK12551 3, bc BK12551 4, bc BK12551 5, bc BK12552 0, bc BK12552 1, bc BK12552 2, bc BK12552 3, bc BK12552 4, bc BK12552 5⟩ (fun hHeld => ?_)
              clear hK K
              refine nrm (some 27) ?_
              refine one_ (i := 8) (N := some 28) #[true, true, true, true, true, true, true, true, true, false, false, false, false, false, false, false, false, false, false, false, false, false, false, false, false, false, false, false, false, false, false, false, false, false] rfl rfl (one_of HT_.out (by kernel_rfl)) (by decide) (fun K hK => ?_)
              refine gc Try.func14 #[.agg #[.bool t12554, .int .i64 t12555, .int .i64 t12556, .bool t12557, .int .i64 t12558, .int .i64 t12559], .agg #[.bool t12572, .int .i64 t12573, .int .i64 t12574, .bool t12575, .int .i64 t12576, .int .i64 t12577]] (flyballlaw21_is.calls t12554 t12555 t12556 t12557 t12558 t12559 t12572 t12573 t12574 t12575 t12576 t12577 true _ A16.out) ?_
              intro w46 hb
              replace BK12551 := kb BK12551 hb
              replace BK12552 := kb BK12552 hb
              replace HB := kh HB hb
              (try clear hb)
              refine hK.out _ _ ⟨bc BK12551 0, bc BK12551 1, bc BK12551 2, bc BK12551 3, bc BK12551 4, bc BK12551 5, bc BK12552 0, bc BK12552 1, bc BK12552 2, bc BK12552 3, bc BK12552 4, bc BK12552 5⟩ (fun hHeld => ?_)
              clear hK K
              refine nrm (some 28) ?_
              refine pur 9 (some 29) #[true, true, true, true, true, true, true, true, true, true, false, false, false, false, false, false, false, false, false, false, false, false, false, false, false, false, false, false, false, false, false, false, false, false] (any_of HT_.out (by kernel_rfl)) ?_
              refine tak 10 (some 30) #[true, true, true, true, true, true, true, true, true, true, true, false, false, false, false, false, false, false, false, false, false, false, false, false, false, false, false, false, false, false, false, false, false, false] (take_ofW HT_.out HW_.out (by kernel_rfl)) hHeld ?_
              refine tak 11 (some 31) #[true, true, true, true, true, true, true, true, true, true, true, true, false, false, false, false, false, false, false, false, false, false, false, false, false, false, false, false, false, false, false, false, false, false] (take_ofW HT_.out HW_.out (by kernel_rfl)) hHeld ?_
              refine tak 13 (some 33) #[true, true, true, true, true, true, true, true, true, true, true, true, false, true, false, false, false, false, false, false, false, false, false, false, false, false, false, false, false, false, false, false, false, false] (take_ofW HT_.out HW_.out (by kernel_rfl)) hHeld ?_
              refine tak 15 (some 35) #[true, true, true, true, true, true, true, true, true, true, true, true, false, true, false, true, false, false, false, false, false, false, false, false, false, false, false, false, false, false, false, false, false, false] (take_ofW HT_.out HW_.out (by kernel_rfl)) hHeld ?_
              refine one_ (i := 12) (N := some 32) #[true, true, true, true, true, true, true, true, true, true, true, true, true, true, false, true, false, false, false, false, false, false, false, false, false, false, false, false, false, false, false, false, false, false] rfl rfl (one_of HT_.out (by kernel_rfl)) (by decide) (fun K hK => ?_)
              refine gc Try.func28 #[.agg #[.bool a0_0, .int .i64 a0_1, .int .i64 a0_2, .bool a0_3, .int .i64 a0_4, .int .i64 a0_5], .agg #[.bool a1_0, .int .i64 a1_1, .int .i64 a1_2, .bool a1_3, .int .i64 a1_4, .int .i64 a1_5]] (clock_Meet.calls k a0_0 a0_1 a0_2 a0_3 a0_4 a0_5 a1_0 a1_1 a1_2 a1_3 a1_4 a1_5 t12579 t12580 t12581 t12582 t12583 t12584 _ A18.out) ?_
              intro w47 hb
              replace BK12551 := kb BK12551 hb
              replace BK12552 := kb BK12552 hb
              replace HB := kh HB hb
              (try clear hb)
              refine hK.out _ _ ⟨bc BK12551 0, bc BK12551 1, bc BK12551 2, bc BK12551 3, bc BK12551 4, bc BK12551 5, bc BK12552 0, bc BK12552 1, bc BK12552 2, bc BK12552 3, bc BK12552 4, bc BK12552 5⟩ (fun hHeld => ?_)
              clear hK K
              refine nrm (some 32) ?_
              refine one_ (i := 14) (N := some 34) #[true, true, true, true, true, true, true, true, true, true, true, true, true, true, true, true, false, false, false, false, false, false, false, false, false, false, false, false, false, false, false, false, false, false] rfl rfl (one_of HT_.out (by kernel_rfl)) (by decide) (fun K hK => ?_)
              refine gc Try.func19 #[.agg #[.bool a0_0, .int .i64 a0_1, .int .i64 a0_2, .bool a0_3, .int .i64 a0_4, .int .i64 a0_5]] (flyballlaw21_of.calls a0_0 a0_1 a0_2 a0_3 a0_4 a0_5 t12585 t12586 t12587 t12588 t12589 t12590 _ A19.out) ?_
              intro w48 hb
              replace BK12551 := kb BK12551 hb
              replace BK12552 := kb BK12552 hb
              replace HB := kh HB hb
              (try clear hb)
              refine hK.out _ _ ⟨bc BK12551 0, bc BK12551 1, bc BK12551 2, bc BK12551 3, bc BK12551 4, bc BK12551 5, bc BK12552 0, bc BK12552 1, bc BK12552 2, bc BK12552 3, bc BK12552 4, bc BK12552 5⟩ (fun hHeld => ?_)
              clear hK K
              refine nrm (some 34) ?_
              refine one_ (i := 16) (N := some 36) #[true, true, true, true, true, true, true, true, true, true, true, true, true, true, true, true, true, false, false, false, false, false, false, false, false, false, false, false, false, false, false, false, false, false] rfl rfl (one_of HT_.out (by kernel_rfl)) (by decide) (fun K hK => ?_)
              refine gc Try.func19 #[.agg #[.bool a1_0, .int .i64 a1_1, .int .i64 a1_2, .bool a1_3, .int .i64 a1_4, .int .i64 a1_5]] (flyballlaw21_of.calls a1_0 a1_1 a1_2 a1_3 a1_4 a1_5 t12591 t12592 t12593 t12594 t12595 t12596 _ A20.out) ?_
              intro w49 hb
              replace BK12551 := kb BK12551 hb
              replace BK12552 := kb BK12552 hb
              replace HB := kh HB hb
              (try clear hb)
              refine hK.out _ _ ⟨bc BK12551 0, bc BK12551 1, bc BK12551 2, bc BK12551 3, bc BK12551 4, bc BK12551 5, bc BK12552 0, bc BK12552 1, bc BK12552 2, bc BK12552 3, bc BK12552 4, bc BK12552 5⟩ (fun hHeld => ?_)
              clear hK K
              refine nrm (some 36) ?_
              refine one_ (i := 17) (N := some 37) #[true, true, true, true, true, true, true, true, true, true, true, true, true, true, true, true, true, true, false, false, false, false, false, false, false, false, false, false, false, false, false, false, false, false] rfl rfl (one_of HT_.out (by kernel_rfl)) (by decide) (fun K hK => ?_)
              refine gc Try.func23 #[.agg #[.bool t12585, .int .i64 t12586, .int .i64 t12587, .bool t12588, .int .i64 t12589, .int .i64 t12590], .agg #[.bool t12591, .int .i64 t12592, .int .i64 t12593, .bool t12594, .int .i64 t12595, .int .i64 t12596]] (flyballref21_Meet.calls t12585 t12586 t12587 t12588 t12589 t12590 t12591 t12592 t12593 t12594 t12595 t12596 t12597 t12598 t12599 t12600 t12601 t12602 _ A21.out) ?_
              intro w50 hb
              replace BK12551 := kb BK12551 hb
              replace BK12552 := kb BK12552 hb
              replace HB := kh HB hb
              (try clear hb)
              refine hK.out _ _ ⟨bc BK12551 0, bc BK12551 1, bc BK12551 2, bc BK12551 3, bc BK12551 4, bc BK12551 5, bc BK12552 0, bc BK12552 1, bc BK12552 2, bc BK12552 3, bc BK12552 4, bc BK12552 5⟩ (fun hHeld => ?_)
              clear hK K
              refine nrm (some 37) ?_
              refine one_ (i := 18) (N := some 38) #[true, true, true, true, true, true, true, true, true, true, true, true, true, true, true, true, true, true, true, false, false, false, false, false, false, false, false, false, false, false, false, false, false, false] rfl rfl (one_of HT_.out (by kernel_rfl)) (by decide) (fun K hK => ?_)
              refine gc Try.func14 #[.agg #[.bool t12579, .int .i64 t12580, .int .i64 t12581, .bool t12582, .int .i64 t12583, .int .i64 t12584], .agg #[.bool t12597, .int .i64 t12598, .int .i64 t12599, .bool t12600, .int .i64 t12601, .int .i64 t12602]] (flyballlaw21_is.calls t12579 t12580 t12581 t12582 t12583 t12584 t12597 t12598 t12599 t12600 t12601 t12602 true _ A22.out) ?_
              intro w51 hb
              replace BK12551 := kb BK12551 hb
              replace BK12552 := kb BK12552 hb
              replace HB := kh HB hb
              (try clear hb)
              refine hK.out _ _ ⟨bc BK12551 0, bc BK12551 1, bc BK12551 2, bc BK12551 3, bc BK12551 4, bc BK12551 5, bc BK12552 0, bc BK12552 1, bc BK12552 2, bc BK12552 3, bc BK12552 4, bc BK12552 5⟩ (fun hHeld => ?_)
              clear hK K
              refine nrm (some 38) ?_
              refine pur 19 (some 39) #[true, true, true, true, true, true, true, true, true, true, true, true, true, true, true, true, true, true, true, true, false, false, false, false, false, false, false, false, false, false, false, false, false, false] (any_of HT_.out (by kernel_rfl)) ?_
              refine pur 20 (some 40) #[true, true, true, true, true, true, true, true, true, true, true, true, true, true, true, true, true, true, true, true, true, false, false, false, false, false, false, false, false, false, false, false, false, false] (any_of HT_.out (by kernel_rfl)) ?_
              refine pur 23 (some 43) #[true, true, true, true, true, true, true, true, true, true, true, true, true, true, true, true, true, true, true, true, true, false, false, true, false, false, false, false, false, false, false, false, false, false] (any_of HT_.out (by kernel_rfl)) ?_
              refine pur 29 (some 49) #[true, true, true, true, true, true, true, true, true, true, true, true, true, true, true, true, true, true, true, true, true, false, false, true, false, false, false, false, false, true, false, false, false, false] (any_of HT_.out (by kernel_rfl)) ?_
              refine tak 21 (some 41) #[true, true, true, true, true, true, true, true, true, true, true, true, true, true, true, true, true, true, true, true, true, true, false, true, false, false, false, false, false, true, false, false, false, false] (take_ofW HT_.out HW_.out (by kernel_rfl)) hHeld ?_
              refine tak 22 (some 42) #[true, true, true, true, true, true, true, true, true, true, true, true, true, true, true, true, true, true, true, true, true, true, true, true, false, false, false, false, false, true, false, false, false, false] (take_ofW HT_.out HW_.out (by kernel_rfl)) hHeld ?_
              refine tak 25 (some 45) #[true, true, true, true, true, true, true, true, true, true, true, true, true, true, true, true, true, true, true, true, true, true, true, true, false, true, false, false, false, true, false, false, false, false] (take_ofW HT_.out HW_.out (by kernel_rfl)) hHeld ?_
              refine tak 27 (some 47) #[true, true, true, true, true, true, true, true, true, true, true, true, true, true, true, true, true, true, true, true, true, true, true, true, false, true, false, true, false, true, false, false, false, false] (take_ofW HT_.out HW_.out (by kernel_rfl)) hHeld ?_
              refine one_ (i := 24) (N := some 44) #[true, true, true, true, true, true, true, true, true, true, true, true, true, true, true, true, true, true, true, true, true, true, true, true, true, true, false, true, false, true, false, false, false, false] rfl rfl (one_of HT_.out (by kernel_rfl)) (by decide) (fun K hK => ?_)
              refine goes_ Try.func29 (by kernel_rfl) rfl #[.agg #[.bool a0_0, .int .i64 a0_1, .int .i64 a0_2, .bool a0_3, .int .i64 a0_4, .int .i64 a0_5], .agg #[.bool a1_0, .int .i64 a1_1, .int .i64 a1_2, .bool a1_3, .int .i64 a1_4, .int .i64 a1_5], .slice A2 l2.length c2] (by rfl) rfl rfl pa ?_
              with_reducible refine (clock_Widen.calls k a0_0 a0_1 a0_2 a0_3 a0_4 a0_5 a1_0 a1_1 a1_2 a1_3 a1_4 a1_5 _ _ l2 t12604 t12605 t12606 t12607 t12608 t12609 _ ?side1 ?side2 A24.out).mono ?_
              (case side1 => repeat (first | exact (Kd.C_below HR2.out HB.out) | (with_reducible refine Kd.C_alloc ?_ _) | (with_reducible refine Kd.C_drewN ?_ _) | (with_reducible refine Kd.C_drew ?_)))
              (case side2 => exact HC2.out)
              rintro e w52 ⟨rfl, hb⟩
              refine ⟨_, rfl, ?_⟩
              replace BK12551 := kb BK12551 hb
              replace BK12552 := kb BK12552 hb
              replace HB := kh HB hb
              (try clear hb)
              refine hK.out _ _ ⟨bc BK12551 0, bc BK12551 1, bc BK12551 2, bc BK12551 3, bc BK12551 4, bc BK12551 5, bc BK12552 0, bc BK12552 1, bc BK12552 2, bc BK12552 3, bc BK12552 4, bc BK12552 5⟩ (fun hHeld => ?_)
              clear hK K
              refine nrm (some 44) ?_
              refine one_ (i := 26) (N := some 46) #[true, true, true, true, true, true, true, true, true, true, true, true, true, true, true, true, true, true, true, true, true, true, true, true, true, true, true, true, false, true, false, false, false, false] rfl rfl (one_of HT_.out (by kernel_rfl)) (by decide) (fun K hK => ?_)
              refine gc Try.func19 #[.agg #[.bool a0_0, .int .i64 a0_1, .int .i64 a0_2, .bool a0_3, .int .i64 a0_4, .int .i64 a0_5]] (flyballlaw21_of.calls a0_0 a0_1 a0_2 a0_3 a0_4 a0_5 t12610 t12611 t12612 t12613 t12614 t12615 _ A25.out) ?_
              intro w53 hb
              replace BK12551 := kb BK12551 hb
              replace BK12552 := kb BK12552 hb
              replace HB := kh HB hb
              (try clear hb)
              refine hK.out _ _ ⟨bc BK12551 0, bc BK12551 1, bc BK12551 2, bc BK12551 3, bc BK12551 4, bc BK12551 5, bc BK12552 0, bc BK12552 1, bc BK12552 2, bc BK12552 3, bc BK12552 4, bc BK12552 5⟩ (fun hHeld => ?_)
              clear hK K
              refine nrm (some 46) ?_
              refine one_ (i := 28) (N := some 48) #[true, true, true, true, true, true, true, true, true, true, true, true, true, true, true, true, true, true, true, true, true, true, true, true, true, true, true, true, true, true, false, false, false, false] rfl rfl (one_of HT_.out (by kernel_rfl)) (by decide) (fun K hK => ?_)
              refine gc Try.func19 #[.agg #[.bool a1_0, .int .i64 a1_1, .int .i64 a1_2, .bool a1_3, .int .i64 a1_4, .int .i64 a1_5]] (flyballlaw21_of.calls a1_0 a1_1 a1_2 a1_3 a1_4 a1_5 t12616 t12617 t12618 t12619 t12620 t12621 _ A26.out) ?_
              intro w54 hb
              replace BK12551 := kb BK12551 hb
              replace BK12552 := kb BK12552 hb
              replace HB := kh HB hb
              (try clear hb)
              refine hK.out _ _ ⟨bc BK12551 0, bc BK12551 1, bc BK12551 2, bc BK12551 3, bc BK12551 4, bc BK12551 5, bc BK12552 0, bc BK12552 1, bc BK12552 2, bc BK12552 3, bc BK12552 4, bc BK12552 5⟩ (fun hHeld => ?_)
              clear hK K
              refine nrm (some 48) ?_
              refine one_ (i := 30) (N := some 50) #[true, true, true, true, true, true, true, true, true, true, true, true, true, true, true, true, true, true, true, true, true, true, true, true, true, true, true, true, true, true, true, false, false, false] rfl rfl (one_of HT_.out (by kernel_rfl)) (by decide) (fun K hK => ?_)
              refine goes_ Try.func30 (by kernel_rfl) rfl #[.agg #[.bool t12610, .int .i64 t12611, .int .i64 t12612, .bool t12613, .int .i64 t12614, .int .i64 t12615], .agg #[.bool t12616, .int .i64 t12617, .int .i64 t12618, .bool t12619, .int .i64 t12620, .int .i64 t12621], .slice A2 l2.length c2] (by rfl) rfl rfl pa ?_
              with_reducible refine (flyballref21_Widen.calls k t12610 t12611 t12612 t12613 t12614 t12615 t12616 t12617 t12618 t12619 t12620 t12621 _ _ l2 t12622 t12623 t12624 t12625 t12626 t12627 _ ?side1 ?side2 A27.out).mono ?_
              (case side1 => repeat (first | exact (Kd.C_below HR2.out HB.out) | (with_reducible refine Kd.C_alloc ?_ _) | (with_reducible refine Kd.C_drewN ?_ _) | (with_reducible refine Kd.C_drew ?_)))
              (case side2 => exact HC2.out)
              rintro e w55 ⟨rfl, hb⟩
              refine ⟨_, rfl, ?_⟩
              replace BK12551 := kb BK12551 hb
              replace BK12552 := kb BK12552 hb
              replace HB := kh HB hb
              (try clear hb)
              refine hK.out _ _ ⟨bc BK12551 0, bc BK12551 1, bc BK12551 2, bc BK12551 3, bc BK12551 4, bc BK12551 5, bc BK12552 0, bc BK12552 1, bc BK12552 2, bc BK12552 3, bc BK12552 4, bc BK12552 5⟩ (fun hHeld => ?_)
              clear hK K
              refine nrm (some 50) ?_
              refine one_ (i := 31) (N := some 51) #[true, true, true, true, true, true, true, true, true, true, true, true, true, true, true, true, true, true, true, true, true, true, true, true, true, true, true, true, true, true, true, true, false, false] rfl rfl (one_of HT_.out (by kernel_rfl)) (by decide) (fun K hK => ?_)
              refine gc Try.func14 #[.agg #[.bool t12604, .int .i64 t12605, .int .i64 t12606, .bool t12607, .int .i64 t12608, .int .i64 t12609], .agg #[.bool t12622, .int .i64 t12623, .int .i64 t12624, .bool t12625, .int .i64 t12626, .int .i64 t12627]] (flyballlaw21_is.calls t12604 t12605 t12606 t12607 t12608 t12609 t12622 t12623 t12624 t12625 t12626 t12627 true _ A28.out) ?_
              intro w56 hb
              replace BK12551 := kb BK12551 hb
              replace BK12552 := kb BK12552 hb
              replace HB := kh HB hb
              (try clear hb)
              refine hK.out _ _ ⟨bc BK12551 0, bc BK12551 1, bc BK12551 2, bc BK12551 3, bc BK12551 4, bc BK12551 5, bc BK12552 0, bc BK12552 1, bc BK12552 2, bc BK12552 3, bc BK12552 4, bc BK12552 5⟩ (fun hHeld => ?_)
              clear hK K
              refine nrm (some 51) ?_
              refine pur 32 (some 52) #[true, true, true, true, true, true, true, true, true, true, true, true, true, true, true, true, true, true, true, true, true, true, true, true, true, true, true, true, true, true, true, true, true, false] (any_of HT_.out (by kernel_rfl)) ?_
              refine pur 33 (some 12) #[true, true, true, true, true, true, true, true, true, true, true, true, true, true, true, true, true, true, true, true, true, true, true, true, true, true, true, true, true, true, true, true, true, true] (any_of HT_.out (by kernel_rfl)) ?_
              refine done_ (done_of HT_.out (by kernel_rfl)) ?_
              try go_wp2
              replace BK12551 := Aside0.mk (blk_drew BK12551.out)
              replace BK12552 := Aside0.mk (blk_drew BK12552.out)
              replace HB := Aside0.mk (below_drew1 HB.out)
              refine start_ (n := 28) (S := fun w' => w'.cell? ⟨gb12551, 0, none⟩ = some (.bool a0_0) ∧ w'.cell? ⟨gb12551, 1, none⟩ = some (.int .i64 a0_1) ∧ w'.cell? ⟨gb12551, 2, none⟩ = some (.int .i64 a0_2) ∧ w'.cell? ⟨gb12551, 3, none⟩ = some (.bool a0_3) ∧ w'.cell? ⟨gb12551, 4, none⟩ = some (.int .i64 a0_4) ∧ w'.cell? ⟨gb12551, 5, none⟩ = some (.int .i64 a0_5) ∧ w'.cell? ⟨gb12552, 0, none⟩ = some (.bool a1_0) ∧ w'.cell? ⟨gb12552, 1, none⟩ = some (.int .i64 a1_1) ∧ w'.cell? ⟨gb12552, 2, none⟩ = some (.int .i64 a1_2) ∧ w'.cell? ⟨gb12552, 3, none⟩ = some (.bool a1_3) ∧ w'.cell? ⟨gb12552, 4, none⟩ = some (.int .i64 a1_4) ∧ w'.cell? ⟨gb12552, 5, none⟩ = some (.int .i64 a1_5)) (ds := []) #[false, false, false, false, false, false, false, false, false, false, false, false, false, false, false, false, false, false, false, false, false, false, false, false, false, false, false, false] (by kernel_rfl) rfl rfl ⟨bc BK12551 0, bc BK12551 1, bc BK12551 2, bc BK12551 3, bc BK12551 4, bc BK12551 5, bc BK12552 0, bc BK12552 1, bc BK12552 2, bc BK12552 3, bc BK12552 4, bc BK12552 5⟩ (fun hHeld => ?_); refine with_tabW flyballlaw21_ClockJoins.tab7 flyballlaw21_ClockJoins.bits7 (fun HT_ HW_ => ?_)
              generalize w56.drew = w57 at BK12551 BK12552 HB hHeld ⊢
              refine pur 0 (some 53) #[true, false, false, false, false, false, false, false, false, false, false, false, false, false, false, false, false, false, false, false, false, false, false, false, false, false, false, false] (any_of HT_.out (by kernel_rfl)) ?_
              refine pur 1 (some 54) #[true, true, false, false, false, false, false, false, false, false, false, false, false, false, false, false, false, false, false, false, false, false, false, false, false, false, false, false] (any_of HT_.out (by kernel_rfl)) ?_
              refine pur 2 (some 55) #[true, true, true, false, false, false, false, false, false, false, false, false, false, false, false, false, false, false, false, false, false, false, false, false, false, false, false, false] (any_of HT_.out (by kernel_rfl)) ?_
              refine pur 3 (some 56) #[true, true, true, true, false, false, false, false, false, false, false, false, false, false, false, false, false, false, false, false, false, false, false, false, false, false, false, false] (any_of HT_.out (by kernel_rfl)) ?_
              refine pur 4 (some 57) #[true, true, true, true, true, false, false, false, false, false, false, false, false, false, false, false, false, false, false, false, false, false, false, false, false, false, false, false] (any_of HT_.out (by kernel_rfl)) ?_
              refine tak 5 (some 58) #[true, true, true, true, true, true, false, false, false, false, false, false, false, false, false, false, false, false, false, false, false, false, false, false, false, false, false, false] (take_ofW HT_.out HW_.out (by kernel_rfl)) hHeld ?_
              refine tak 6 (some 59) #[true, true, true, true, true, true, true, false, false, false, false, false, false, false, false, false, false, false, false, false, false, false, false, false, false, false, false, false] (take_ofW HT_.out HW_.out (by kernel_rfl)) hHeld ?_
              refine tak 8 (some 61) #[true, true, true, true, true, true, true, false, true, false, false, false, false, false, false, false, false, false, false, false, false, false, false, false, false, false, false, false] (take_ofW HT_.out HW_.out (by kernel_rfl)) hHeld ?_
              refine tak 10 (some 63) #[true, true, true, true, true, true, true, false, true, false, true, false, false, false, false, false, false, false, false, false, false, false, false, false, false, false, false, false] (take_ofW HT_.out HW_.out (by kernel_rfl)) hHeld ?_
              refine one_ (i := 7) (N := some 60) #[true, true, true, true, true, true, true, true, true, false, true, false, false, false, false, false, false, false, false, false, false, false, false, false, false, false, false, false] rfl rfl (one_of HT_.out (by kernel_rfl)) (by decide) (fun K hK => ?_)
              refine gc Try.func31 #[.agg #[.bool a0_0, .int .i64 a0_1, .int .i64 a0_2, .bool a0_3, .int .i64 a0_4, .int .i64 a0_5], .agg #[.bool a1_0, .int .i64 a1_1, .int .i64 a1_2, .bool a1_3, .int .i64 a1_4, .int .i64 a1_5]] (clock_Inside.calls k a0_0 a0_1 a0_2 a0_3 a0_4 a0_5 a1_0 a1_1 a1_2 a1_3 a1_4 a1_5 t12629 _ A30.out) ?_
              intro w58 hb
              replace BK12551 := kb BK12551 hb
              replace BK12552 := kb BK12552 hb
              replace HB := kh HB hb
              (try clear hb)
              refine hK.out _ _ ⟨bc BK12551 0, bc BK12551 1, bc BK12551 2, bc BK12551 3, bc BK12551 4, bc BK12551 5, bc BK12552 0, bc BK12552 1, bc BK12552 2, bc BK12552 3, bc BK12552 4, bc BK12552 5⟩ (fun hHeld => ?_)
              clear hK K
              refine nrm (some 60) ?_
              refine one_ (i := 9) (N := some 62) #[true, true, true, true, true, true, true, true, true, true, true, false, false, false, false, false, false, false, false, false, false, false, false, false, false, false, false, false] rfl rfl (one_of HT_.out (by kernel_rfl)) (by decide) (fun K hK => ?_)
              refine gc Try.func19 #[.agg #[.bool a0_0, .int .i64 a0_1, .int .i64 a0_2, .bool a0_3, .int .i64 a0_4, .int .i64 a0_5]] (flyballlaw21_of.calls a0_0 a0_1 a0_2 a0_3 a0_4 a0_5 t12630 t12631 t12632 t12633 t12634 t12635 _ A31.out) ?_
              intro w59 hb
              replace BK12551 := kb BK12551 hb
              replace BK12552 := kb BK12552 hb
              replace HB := kh HB hb
              (try clear hb)
              refine hK.out _ _ ⟨bc BK12551 0, bc BK12551 1, bc BK12551 2, bc BK12551 3, bc BK12551 4, bc BK12551 5, bc BK12552 0, bc BK12552 1, bc BK12552 2, bc BK12552 3, bc BK12552 4, bc BK12552 5⟩ (fun hHeld => ?_)
              clear hK K
              refine nrm (some 62) ?_
              refine one_ (i := 11) (N := some 64) #[true, true, true, true, true, true, true, true, true, true, true, true, false, false, false, false, false, false, false, false, false, false, false, false, false, false, false, false] rfl rfl (one_of HT_.out (by kernel_rfl)) (by decide) (fun K hK => ?_)
              refine gc Try.func19 #[.agg #[.bool a1_0, .int .i64 a1_1, .int .i64 a1_2, .bool a1_3, .int .i64 a1_4, .int .i64 a1_5]] (flyballlaw21_of.calls a1_0 a1_1 a1_2 a1_3 a1_4 a1_5 t12636 t12637 t12638 t12639 t12640 t12641 _ A32.out) ?_
              intro w60 hb
              replace BK12551 := kb BK12551 hb
              replace BK12552 := kb BK12552 hb
              replace HB := kh HB hb
              (try clear hb)
              refine hK.out _ _ ⟨bc BK12551 0, bc BK12551 1, bc BK12551 2, bc BK12551 3, bc BK12551 4, bc BK12551 5, bc BK12552 0, bc BK12552 1, bc BK12552 2, bc BK12552 3, bc BK12552 4, bc BK12552 5⟩ (fun hHeld => ?_)
              clear hK K
              refine nrm (some 64) ?_
              refine one_ (i := 12) (N := some 65) #[true, true, true, true, true, true, true, true, true, true, true, true, true, false, false, false, false, false, false, false, false, false, false, false, false, false, false, false] rfl rfl (one_of HT_.out (by kernel_rfl)) (by decide) (fun K hK => ?_)
              refine gc Try.func32 #[.agg #[.bool t12630, .int .i64 t12631, .int .i64 t12632, .bool t12633, .int .i64 t12634, .int .i64 t12635], .agg #[.bool t12636, .int .i64 t12637, .int .i64 t12638, .bool t12639, .int .i64 t12640, .int .i64 t12641]] (flyballref21_Inside.calls t12630 t12631 t12632 t12633 t12634 t12635 t12636 t12637 t12638 t12639 t12640 t12641 t12642 _ A33.out) ?_
              intro w61 hb
              replace BK12551 := kb BK12551 hb
              replace BK12552 := kb BK12552 hb
              replace HB := kh HB hb
              (try clear hb)
              refine hK.out _ _ ⟨bc BK12551 0, bc BK12551 1, bc BK12551 2, bc BK12551 3, bc BK12551 4, bc BK12551 5, bc BK12552 0, bc BK12552 1, bc BK12552 2, bc BK12552 3, bc BK12552 4, bc BK12552 5⟩ (fun hHeld => ?_)
              clear hK K
              refine nrm (some 65) ?_
              refine pur 13 (some 66) #[true, true, true, true, true, true, true, true, true, true, true, true, true, true, false, false, false, false, false, false, false, false, false, false, false, false, false, false] (any_of HT_.out (by kernel_rfl)) ?_
              refine pur 14 (some 67) #[true, true, true, true, true, true, true, true, true, true, true, true, true, true, true, false, false, false, false, false, false, false, false, false, false, false, false, false] (any_of HT_.out (by kernel_rfl)) ?_
              refine pur 15 (some 68) #[true, true, true, true, true, true, true, true, true, true, true, true, true, true, true, true, false, false, false, false, false, false, false, false, false, false, false, false] (any_of HT_.out (by kernel_rfl)) ?_
              refine pur 17 (some 70) #[true, true, true, true, true, true, true, true, true, true, true, true, true, true, true, true, false, true, false, false, false, false, false, false, false, false, false, false] (any_of HT_.out (by kernel_rfl)) ?_
              refine pur 18 (some 71) #[true, true, true, true, true, true, true, true, true, true, true, true, true, true, true, true, false, true, true, false, false, false, false, false, false, false, false, false] (any_of HT_.out (by kernel_rfl)) ?_
              refine pur 22 (some 75) #[true, true, true, true, true, true, true, true, true, true, true, true, true, true, true, true, false, true, true, false, false, false, true, false, false, false, false, false] (any_of HT_.out (by kernel_rfl)) ?_
              refine pur 23 (some 76) #[true, true, true, true, true, true, true, true, true, true, true, true, true, true, true, true, false, true, true, false, false, false, true, true, false, false, false, false] (any_of HT_.out (by kernel_rfl)) ?_
              refine tak 16 (some 69) #[true, true, true, true, true, true, true, true, true, true, true, true, true, true, true, true, true, true, true, false, false, false, true, true, false, false, false, false] (take_ofW HT_.out HW_.out (by kernel_rfl)) hHeld ?_
              refine tak 20 (some 73) #[true, true, true, true, true, true, true, true, true, true, true, true, true, true, true, true, true, true, true, false, true, false, true, true, false, false, false, false] (take_ofW HT_.out HW_.out (by kernel_rfl)) hHeld ?_
              refine one_ (i := 19) (N := some 72) #[true, true, true, true, true, true, true, true, true, true, true, true, true, true, true, true, true, true, true, true, true, false, true, true, false, false, false, false] rfl rfl (one_of HT_.out (by kernel_rfl)) (by decide) (fun K hK => ?_)
              refine gc Try.func33 #[.agg #[.bool a0_0, .int .i64 a0_1, .int .i64 a0_2, .bool a0_3, .int .i64 a0_4, .int .i64 a0_5], .int .i64 a3, .int .i64 a4] (clock_Has.calls k a0_0 a0_1 a0_2 a0_3 a0_4 a0_5 a3 a4 t12643 _ A35.out) ?_
              intro w62 hb
              replace BK12551 := kb BK12551 hb
              replace BK12552 := kb BK12552 hb
              replace HB := kh HB hb
              (try clear hb)
              refine hK.out _ _ ⟨bc BK12551 0, bc BK12551 1, bc BK12551 2, bc BK12551 3, bc BK12551 4, bc BK12551 5, bc BK12552 0, bc BK12552 1, bc BK12552 2, bc BK12552 3, bc BK12552 4, bc BK12552 5⟩ (fun hHeld => ?_)
              clear hK K
              refine nrm (some 72) ?_
              refine one_ (i := 21) (N := some 74) #[true, true, true, true, true, true, true, true, true, true, true, true, true, true, true, true, true, true, true, true, true, true, true, true, false, false, false, false] rfl rfl (one_of HT_.out (by kernel_rfl)) (by decide) (fun K hK => ?_)
              refine gc Try.func19 #[.agg #[.bool a0_0, .int .i64 a0_1, .int .i64 a0_2, .bool a0_3, .int .i64 a0_4, .int .i64 a0_5]] (flyballlaw21_of.calls a0_0 a0_1 a0_2 a0_3 a0_4 a0_5 t12644 t12645 t12646 t12647 t12648 t12649 _ A36.out) ?_
              intro w63 hb
              replace BK12551 := kb BK12551 hb
              replace BK12552 := kb BK12552 hb
              replace HB := kh HB hb
              (try clear hb)
              refine hK.out _ _ ⟨bc BK12551 0, bc BK12551 1, bc BK12551 2, bc BK12551 3, bc BK12551 4, bc BK12551 5, bc BK12552 0, bc BK12552 1, bc BK12552 2, bc BK12552 3, bc BK12552 4, bc BK12552 5⟩ (fun hHeld => ?_)
              clear hK K
              refine nrm (some 74) ?_
              refine one_ (i := 24) (N := some 77) #[true, true, true, true, true, true, true, true, true, true, true, true, true, true, true, true, true, true, true, true, true, true, true, true, true, false, false, false] rfl rfl (one_of HT_.out (by kernel_rfl)) (by decide) (fun K hK => ?_)
              refine gc Try.func34 #[.agg #[.bool t12644, .int .i64 t12645, .int .i64 t12646, .bool t12647, .int .i64 t12648, .int .i64 t12649], .int .i64 a3, .int .i64 a4] (flyballref21_Has.calls k t12644 t12645 t12646 t12647 t12648 t12649 a3 a4 t12650 _ A37.out) ?_
              intro w64 hb
              replace BK12551 := kb BK12551 hb
              replace BK12552 := kb BK12552 hb
              replace HB := kh HB hb
              (try clear hb)
              refine hK.out _ _ ⟨bc BK12551 0, bc BK12551 1, bc BK12551 2, bc BK12551 3, bc BK12551 4, bc BK12551 5, bc BK12552 0, bc BK12552 1, bc BK12552 2, bc BK12552 3, bc BK12552 4, bc BK12552 5⟩ (fun hHeld => ?_)
              clear hK K
              refine nrm (some 77) ?_
              refine pur 25 (some 78) #[true, true, true, true, true, true, true, true, true, true, true, true, true, true, true, true, true, true, true, true, true, true, true, true, true, true, false, false] (any_of HT_.out (by kernel_rfl)) ?_
              refine pur 26 (some 79) #[true, true, true, true, true, true, true, true, true, true, true, true, true, true, true, true, true, true, true, true, true, true, true, true, true, true, true, false] (any_of HT_.out (by kernel_rfl)) ?_
              refine pur 27 (some 10) #[true, true, true, true, true, true, true, true, true, true, true, true, true, true, true, true, true, true, true, true, true, true, true, true, true, true, true, true] (any_of HT_.out (by kernel_rfl)) ?_
              refine done_ (done_of HT_.out (by kernel_rfl)) ?_
              try go_wp2
              go_ret
              exact ⟨pe, pl HB⟩
            · rw [if_neg c34] at H
              exact absurd H (by simp)
          · replace c29 := Bool.eq_false_iff.mpr c29
            subst c29
            rw [if_neg (show ¬ (false = true) by decide)] at H
            exact absurd H (by simp)
        · replace c23 := Bool.eq_false_iff.mpr c23
          subst c23
          rw [if_neg (show ¬ (false = true) by decide)] at H
          exact absurd H (by simp)
      · replace c17 := Bool.eq_false_iff.mpr c17
        subst c17
        rw [if_neg (show ¬ (false = true) by decide)] at H
        exact absurd H (by simp)
  · replace c7 := Bool.eq_false_iff.mpr c7
    subst c7
    rw [if_neg (show ¬ (false = true) by decide)] at H
    obtain rfl := Option.some.inj H
    go_enter Try.func4, Try.ntmps4
    go_wp2_with (first | ((with_reducible refine gate_dst (N := 5) rfl ?_); refine kx 5 #[.bool a0_0, .int .i64 a0_1, .int .i64 a0_2, .bool a0_3, .int .i64 a0_4, .int .i64 a0_5] 25 ?_; intro gb12551 hg w65 hbox hb; have BK12551 := Aside0.mk (hbox); have GW12551 := kg HB hg; have GE12551 := kg HB hg; replace HB := kh HB hb; clear hb hbox hg) | ((with_reducible refine gate_dst (N := 6) rfl ?_); refine kx 6 #[.bool a1_0, .int .i64 a1_1, .int .i64 a1_2, .bool a1_3, .int .i64 a1_4, .int .i64 a1_5] 25 ?_; intro gb12552 hg w66 hbox hb; have BK12552 := Aside0.mk (hbox); have GW12552 := kg HB hg; have GE12552 := kg HB hg; have NB12551_12552 := kn BK12551 hg; have NB12552_12551 := km BK12551 hg; replace BK12551 := kb BK12551 hb; replace HB := kh HB hb; clear hb hbox hg) | ((with_reducible refine gate_callee (f := 13) rfl ?_); refine kc (some 13) Try.func13 #[] (flyballlaw21_works.calls k  false _ A6.out) ?_; intro w67 hb; replace BK12551 := kb BK12551 hb; replace BK12552 := kb BK12552 hb; replace HB := kh HB hb; (try clear hb)))
    go_ret
    exact ⟨pe, pl HB⟩
end Go.Proofs.Ytinmgnlofininaa.PAll
end
