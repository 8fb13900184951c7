/- Functions of the print, turned to this claim. -/
import Derived.Test.YtinmgnlofininaaZCDW
import Derived.Test.YtinmgnlofininaaZCDx0
import Derived.Test.YtinmgnlofininaaZCDx1
import Derived.Test.YtinmgnlofininaaZCDx26
import Derived.Test.YtinmgnlofininaaZCDx27
import Derived.Test.YtinmgnlofininaaZCDx31
import Derived.Test.YtinmgnlofininaaZCDx34
import Derived.Test.YtinmgnlofininaaZCDx35
import Derived.Test.YtinmgnlofininaaZCDx36
section
namespace Go.Proofs.Ytinmgnlofininaa.PAll
open Go.RowKit Go.Proofs.YtinmgnlofininaaW.PrintWords Go.Proofs.YtinmgnlofininaaW.PrintLast Go.Proofs.YtinmgnlofininaaW.PrintMore
attribute [local go_sem] max2_int min2_int max_two min_two max_three min_three max_four min_four   -- for this text's walks alone
set_option linter.unusedVariables false
set_option linter.unusedSimpArgs false
attribute [local go_sem high] eqA23
/-! ### flyballlaw21_ClockDoes: function 3 -/
def flyballlaw21_ClockDoes.f (k : Nat) (a0_0 : Bool) (a0_1 : Int) (a0_2 : Int) (a0_3 : Bool) (a0_4 : Int) (a0_5 : Int) (a1_0 : Bool) (a1_1 : Int) (a1_2 : Int) (a2_0 : Bool) (a2_1 : Int) (a2_2 : Int) : Option (Bool) := (flyballlaw21_works.f k).bind fun t11804 => (if t11804 = true then ((clock_Of.f k a1_0 a1_1 a1_2 a2_0 a2_1 a2_2).bind fun bt11805 => ((flyballref21_Of.f k a1_0 a1_1 a1_2 a2_0 a2_1 a2_2).bind fun bt11811 => ((flyballlaw21_is.f bt11805.1 bt11805.2.1 bt11805.2.2.1 bt11805.2.2.2.1 bt11805.2.2.2.2.1 bt11805.2.2.2.2.2 bt11811.1 bt11811.2.1 bt11811.2.2.1 bt11811.2.2.2.1 bt11811.2.2.2.2.1 bt11811.2.2.2.2.2).bind fun t11817 => (if t11817 = true then ((clock_Move.f k a0_0 a0_1 a0_2 a0_3 a0_4 a0_5 a1_0 a1_1 a1_2).bind fun bt11818 => ((flyballlaw21_of.f a0_0 a0_1 a0_2 a0_3 a0_4 a0_5).bind fun bt11824 => ((flyballref21_Move.f k bt11824.1 bt11824.2.1 bt11824.2.2.1 bt11824.2.2.2.1 bt11824.2.2.2.2.1 bt11824.2.2.2.2.2 a1_0 a1_1 a1_2).bind fun bt11830 => ((flyballlaw21_is.f bt11818.1 bt11818.2.1 bt11818.2.2.1 bt11818.2.2.2.1 bt11818.2.2.2.2.1 bt11818.2.2.2.2.2 bt11830.1 bt11830.2.1 bt11830.2.2.1 bt11830.2.2.2.1 bt11830.2.2.2.2.1 bt11830.2.2.2.2.2).bind fun t11836 => (if t11836 = true then ((clock_Tick.f k a0_0 a0_1 a0_2 a0_3 a0_4 a0_5).bind fun bt11837 => ((flyballlaw21_of.f a0_0 a0_1 a0_2 a0_3 a0_4 a0_5).bind fun bt11843 => ((flyballref21_Tick.f k bt11843.1 bt11843.2.1 bt11843.2.2.1 bt11843.2.2.2.1 bt11843.2.2.2.2.1 bt11843.2.2.2.2.2).bind fun bt11849 => ((flyballlaw21_is.f bt11837.1 bt11837.2.1 bt11837.2.2.1 bt11837.2.2.2.1 bt11837.2.2.2.2.1 bt11837.2.2.2.2.2 bt11849.1 bt11849.2.1 bt11849.2.2.1 bt11849.2.2.2.1 bt11849.2.2.2.2.1 bt11849.2.2.2.2.2).bind fun t11855 => ((clock_Tight.f k a0_0 a0_1 a0_2 a0_3 a0_4 a0_5 a1_0 a1_1 a1_2 a2_0 a2_1 a2_2).bind fun bt11856 => ((flyballlaw21_of.f a0_0 a0_1 a0_2 a0_3 a0_4 a0_5).bind fun bt11862 => ((flyballref21_Of.f k a1_0 a1_1 a1_2 a2_0 a2_1 a2_2).bind fun bt11868 => ((flyballref21_Meet.f bt11862.1 bt11862.2.1 bt11862.2.2.1 bt11862.2.2.2.1 bt11862.2.2.2.2.1 bt11862.2.2.2.2.2 bt11868.1 bt11868.2.1 bt11868.2.2.1 bt11868.2.2.2.1 bt11868.2.2.2.2.1 bt11868.2.2.2.2.2).bind fun bt11874 => ((flyballlaw21_is.f bt11856.1 bt11856.2.1 bt11856.2.2.1 bt11856.2.2.2.1 bt11856.2.2.2.2.1 bt11856.2.2.2.2.2 bt11874.1 bt11874.2.1 bt11874.2.2.1 bt11874.2.2.2.1 bt11874.2.2.2.2.1 bt11874.2.2.2.2.2).bind fun t11880 => (if t11855 = true then (if t11880 = true then ((clock_Reduce.f k a1_0 a1_1 a1_2 a0_0 a0_1 a0_2 a0_3 a0_4 a0_5 a2_0 a2_1 a2_2).bind fun bt11881 => ((flyballlaw21_of.f a0_0 a0_1 a0_2 a0_3 a0_4 a0_5).bind fun bt11884 => ((flyballref21_Reduce.f k a1_0 a1_1 a1_2 bt11884.1 bt11884.2.1 bt11884.2.2.1 bt11884.2.2.2.1 bt11884.2.2.2.2.1 bt11884.2.2.2.2.2 a2_0 a2_1 a2_2).bind fun bt11890 => (some (bt11881.1 == bt11890.1 && (bt11881.2.1 == bt11890.2.1 && (bt11881.2.2 == bt11890.2.2))))))) else (none)) else (none))))))))))) else (none)))))) else (none))))) else (some false))
theorem flyballlaw21_ClockDoes.mono : ∀ a0 a1 a2 a3 a4 a5 a6 a7 a8 a9 a10 a11 k, LeO (flyballlaw21_ClockDoes.f k a0 a1 a2 a3 a4 a5 a6 a7 a8 a9 a10 a11) (flyballlaw21_ClockDoes.f (k + 1) a0 a1 a2 a3 a4 a5 a6 a7 a8 a9 a10 a11) := by
  intro a0 a1 a2 a3 a4 a5 a6 a7 a8 a9 a10 a11 k
  unfold flyballlaw21_ClockDoes.f
  repeat' first
      | (with_reducible exact clock_Move.mono _ _ _ _ _ _ _ _ _ _)
      | (with_reducible exact clock_Of.mono _ _ _ _ _ _ _)
      | (with_reducible exact clock_Reduce.mono _ _ _ _ _ _ _ _ _ _ _ _ _)
      | (with_reducible exact clock_Tick.mono _ _ _ _ _ _ _)
      | (with_reducible exact clock_Tight.mono _ _ _ _ _ _ _ _ _ _ _ _ _)
      | (with_reducible exact flyballlaw21_works.mono _)
      | (with_reducible exact flyballref21_Move.mono _ _ _ _ _ _ _ _ _ _)
      | (with_reducible exact flyballref21_Of.mono _ _ _ _ _ _ _)
      | (with_reducible exact flyballref21_Reduce.mono _ _ _ _ _ _ _ _ _ _ _ _ _)
      | (with_reducible exact flyballref21_Tick.mono _ _ _ _ _ _ _)
      | (with_reducible exact LeO.refl _)
      | (with_reducible exact LeO.none _)
      | (with_reducible refine LeO.ite ?_ ?_)
      | (with_reducible refine LeO.bind ?_ (fun _ => ?_))
      | exact clock_Move.mono _ _ _ _ _ _ _ _ _ _
      | exact clock_Of.mono _ _ _ _ _ _ _
      | exact clock_Reduce.mono _ _ _ _ _ _ _ _ _ _ _ _ _
      | exact clock_Tick.mono _ _ _ _ _ _ _
      | exact clock_Tight.mono _ _ _ _ _ _ _ _ _ _ _ _ _
      | exact flyballlaw21_works.mono _
      | exact flyballref21_Move.mono _ _ _ _ _ _ _ _ _ _
      | exact flyballref21_Of.mono _ _ _ _ _ _ _
      | exact flyballref21_Reduce.mono _ _ _ _ _ _ _ _ _ _ _ _ _
      | exact flyballref21_Tick.mono _ _ _ _ _ _ _
      | exact LeO.none _
      | refine LeO.ite ?_ ?_
      | refine LeO.bind ?_ (fun _ => ?_)
def flyballlaw21_ClockDoes.T4 : Bool × List (List Nat × List Nat) := (true, [([], []), ([], []), ([0, 1], [0, 1]), ([], []), ([], []), ([3, 4, 2], [3, 4]), ([2, 5, 5], [2, 5]), ([6, 6], [6]), ([7], [7]), ([7], [7]), ([8, 9, 7, 7], [7, 8, 9]), ([7], [7]), ([11, 10, 7], [7, 11]), ([7], [7]), ([12, 13, 12, 7], [7, 12, 13]), ([10, 14, 14, 7], [7, 10, 14]), ([7, 15], [7, 15]), ([16, 15], [16]), ([17], [17]), ([18, 17, 17], [17, 18]), ([17], [17]), ([20, 19, 17], [17, 20]), ([21, 21, 17], [17, 21]), ([19, 22, 22, 17], [17, 19, 22]), ([17, 23], [17, 23]), ([24, 23, 0, 1, 2, 3, 4, 5, 6, 7, 8, 9, 10, 11, 12, 13, 14, 15, 16, 17, 18, 19, 20, 21, 22, 23, 24], [24])])
def flyballlaw21_ClockDoes.B4 : List Nat := [0, 0, 3, 0, 0, 31, 63, 127, 255, 255, 1023, 255, 4095, 255, 16383, 32767, 65535, 131071, 262143, 524287, 262143, 2097151, 4194303, 8388607, 16777215, 33554431]
theorem flyballlaw21_ClockDoes.tab4 : rtab .any (opsOf Try.f3 4) = flyballlaw21_ClockDoes.T4 := by kernel_rfl
theorem flyballlaw21_ClockDoes.bits4 : waitsOk flyballlaw21_ClockDoes.T4.2 flyballlaw21_ClockDoes.B4 = true := by kernel_rfl
def flyballlaw21_ClockDoes.T5 : Bool × List (List Nat × List Nat) := (true, [([], []), ([], []), ([], []), ([0, 1, 2], [0, 1, 2]), ([], []), ([4, 3], [4]), ([], []), ([], []), ([6, 7, 5], [6, 7]), ([5, 8, 8], [5, 8]), ([3, 9, 9], [3, 9]), ([10, 10, 0, 1, 2, 3, 4, 5, 6, 7, 8, 9, 10], [10])])
def flyballlaw21_ClockDoes.B5 : List Nat := [0, 0, 0, 7, 0, 31, 0, 0, 255, 511, 1023, 2047]
theorem flyballlaw21_ClockDoes.tab5 : rtab .any (opsOf Try.f3 5) = flyballlaw21_ClockDoes.T5 := by kernel_rfl
theorem flyballlaw21_ClockDoes.bits5 : waitsOk flyballlaw21_ClockDoes.T5.2 flyballlaw21_ClockDoes.B5 = true := by kernel_rfl
def flyballlaw21_ClockDoes.T6 : Bool × List (List Nat × List Nat) := (true, [([], []), ([0], [0]), ([1], [1]), ([1, 2], [1, 2]), ([3, 1], [3]), ([4], [4]), ([4, 5], [4, 5]), ([6, 4], [6]), ([7], [7]), ([7], [7]), ([7], [7]), ([8, 9, 10, 7, 7], [7, 8, 9, 10]), ([7], [7]), ([7], [7]), ([13, 11, 7], [7, 13]), ([7], [7]), ([12, 14, 15, 14, 7], [7, 12, 14, 15]), ([11, 16, 7], [7, 11, 16]), ([7, 17], [7, 17]), ([18, 16, 0, 1, 2, 3, 4, 5, 6, 7, 8, 9, 10, 11, 12, 13, 14, 15, 16, 17, 18], [18])])
def flyballlaw21_ClockDoes.B6 : List Nat := [0, 1, 3, 7, 15, 31, 63, 127, 255, 255, 255, 2047, 255, 255, 12287, 255, 65535, 131071, 262143, 524287]
theorem flyballlaw21_ClockDoes.tab6 : rtab .any (opsOf Try.f3 6) = flyballlaw21_ClockDoes.T6 := by kernel_rfl
theorem flyballlaw21_ClockDoes.bits6 : waitsOk flyballlaw21_ClockDoes.T6.2 flyballlaw21_ClockDoes.B6 = true := by kernel_rfl
set_option maxHeartbeats 8000000 in
set_option maxRecDepth 100000 in
theorem flyballlaw21_ClockDoes.calls (k : Nat) (a0_0 : Bool) (a0_1 : Int) (a0_2 : Int) (a0_3 : Bool) (a0_4 : Int) (a0_5 : Int) (a1_0 : Bool) (a1_1 : Int) (a1_2 : Int) (a2_0 : Bool) (a2_1 : Int) (a2_2 : Int) (r : Bool) (w : World) (h : flyballlaw21_ClockDoes.f k a0_0 a0_1 a0_2 a0_3 a0_4 a0_5 a1_0 a1_1 a1_2 a2_0 a2_1 a2_2 = some r) :
    Calls Try.prog 3 #[.agg #[.bool a0_0, .int .i64 a0_1, .int .i64 a0_2, .bool a0_3, .int .i64 a0_4, .int .i64 a0_5], .agg #[.bool a1_0, .int .i64 a1_1, .int .i64 a1_2], .agg #[.bool a2_0, .int .i64 a2_1, .int .i64 a2_2]] w fun e w' => e = .returned (.bool r) ∧ Below w.heap.size w w' := by
  have hu25 := Try.underlying25
  have hu23 := Try.underlying23
  have HB := Aside0.mk (Below.refl w.heap.size w)
  have H := h
  clear h
  unfold flyballlaw21_ClockDoes.f at H
  obtain ⟨t11804, A40, H⟩ := Option.bind_eq_some_iff.mp H
  have A4 := Aside0.mk A40
  clear A40
  (try dsimp only at H)
  by_cases c5 : t11804 = true
  · subst c5
    rw [if_pos rfl] at H
    obtain ⟨⟨t11805, t11806, t11807, t11808, t11809, t11810⟩, A60, H⟩ := Option.bind_eq_some_iff.mp H
    have A6 := Aside0.mk A60
    clear A60
    (try dsimp only at H)
    obtain ⟨⟨t11811, t11812, t11813, t11814, t11815, t11816⟩, A70, H⟩ := Option.bind_eq_some_iff.mp H
    have A7 := Aside0.mk A70
    clear A70
    (try dsimp only at H)
    obtain ⟨t11817, A80, H⟩ := Option.bind_eq_some_iff.mp H
    have A8 := Aside0.mk A80
    clear A80
    (try dsimp only at H)
    by_cases c9 : t11817 = true
    · subst c9
      rw [if_pos rfl] at H
      obtain ⟨⟨t11818, t11819, t11820, t11821, t11822, t11823⟩, A100, H⟩ := Option.bind_eq_some_iff.mp H
      have A10 := Aside0.mk A100
      clear A100
      (try dsimp only at H)
      obtain ⟨⟨t11824, t11825, t11826, t11827, t11828, t11829⟩, A110, H⟩ := Option.bind_eq_some_iff.mp H
      have A11 := Aside0.mk A110
      clear A110
      (try dsimp only at H)
      obtain ⟨⟨t11830, t11831, t11832, t11833, t11834, t11835⟩, A120, H⟩ := Option.bind_eq_some_iff.mp H
      have A12 := Aside0.mk A120
      clear A120
      (try dsimp only at H)
      obtain ⟨t11836, A130, H⟩ := Option.bind_eq_some_iff.mp H
      have A13 := Aside0.mk A130
      clear A130
      (try dsimp only at H)
      by_cases c14 : t11836 = true
      · subst c14
        rw [if_pos rfl] at H
        obtain ⟨⟨t11837, t11838, t11839, t11840, t11841, t11842⟩, A150, H⟩ := Option.bind_eq_some_iff.mp H
        have A15 := Aside0.mk A150
        clear A150
        (try dsimp only at H)
        obtain ⟨⟨t11843, t11844, t11845, t11846, t11847, t11848⟩, A160, H⟩ := Option.bind_eq_some_iff.mp H
        have A16 := Aside0.mk A160
        clear A160
        (try dsimp only at H)
        obtain ⟨⟨t11849, t11850, t11851, t11852, t11853, t11854⟩, A170, H⟩ := Option.bind_eq_some_iff.mp H
        have A17 := Aside0.mk A170
        clear A170
        (try dsimp only at H)
        obtain ⟨t11855, A180, H⟩ := Option.bind_eq_some_iff.mp H
        have A18 := Aside0.mk A180
        clear A180
        (try dsimp only at H)
        obtain ⟨⟨t11856, t11857, t11858, t11859, t11860, t11861⟩, A190, H⟩ := Option.bind_eq_some_iff.mp H
        have A19 := Aside0.mk A190
        clear A190
        (try dsimp only at H)
        obtain ⟨⟨t11862, t11863, t11864, t11865, t11866, t11867⟩, A200, H⟩ := Option.bind_eq_some_iff.mp H
        have A20 := Aside0.mk A200
        clear A200
        (try dsimp only at H)
        obtain ⟨⟨t11868, t11869, t11870, t11871, t11872, t11873⟩, A210, H⟩ := Option.bind_eq_some_iff.mp H
        have A21 := Aside0.mk A210
        clear A210
        (try dsimp only at H)
        obtain ⟨⟨t11874, t11875, t11876, t11877, t11878, t11879⟩, A220, H⟩ := Option.bind_eq_some_iff.mp H
        have A22 := Aside0.mk A220
        clear A220
        (try dsimp only at H)
        obtain ⟨t11880, A230, H⟩ := Option.bind_eq_some_iff.mp H
        have A23 := Aside0.mk A230
        clear A230
        (try dsimp only at H)
        by_cases c24 : t11855 = true
        · subst c24
          rw [if_pos rfl] at H
          by_cases c25 : t11880 = true
          · subst c25
            rw [if_pos rfl] at H
            obtain ⟨⟨t11881, t11882, t11883⟩, A260, H⟩ := Option.bind_eq_some_iff.mp H
            have A26 := Aside0.mk A260
            clear A260
            (try dsimp only at H)
            obtain ⟨⟨t11884, t11885, t11886, t11887, t11888, t11889⟩, A270, H⟩ := Option.bind_eq_some_iff.mp H
            have A27 := Aside0.mk A270
            clear A270
            (try dsimp only at H)
            obtain ⟨⟨t11890, t11891, t11892⟩, A280, H⟩ := Option.bind_eq_some_iff.mp H
            have A28 := Aside0.mk A280
            clear A280
            (try dsimp only at H)
            obtain rfl := Option.some.inj H
            go_enter Try.func3, Try.ntmps3
            try go_wp2_with (first | ((with_reducible refine gate_dst (N := 3) rfl ?_); refine kx 3 #[.bool a0_0, .int .i64 a0_1, .int .i64 a0_2, .bool a0_3, .int .i64 a0_4, .int .i64 a0_5] 25 ?_; intro gb11801 hg w29 hbox hb; have BK11801 := Aside0.mk (hbox); have GW11801 := kg HB hg; have GE11801 := kg HB hg; replace HB := kh HB hb; clear hb hbox hg) | ((with_reducible refine gate_dst (N := 4) rfl ?_); refine kx 4 #[.bool a1_0, .int .i64 a1_1, .int .i64 a1_2] 23 ?_; intro gb11802 hg w30 hbox hb; have BK11802 := Aside0.mk (hbox); have GW11802 := kg HB hg; have GE11802 := kg HB hg; have NB11801_11802 := kn BK11801 hg; have NB11802_11801 := km BK11801 hg; replace BK11801 := kb BK11801 hb; replace HB := kh HB hb; clear hb hbox hg) | ((with_reducible refine gate_dst (N := 5) rfl ?_); refine kx 5 #[.bool a2_0, .int .i64 a2_1, .int .i64 a2_2] 23 ?_; intro gb11803 hg w31 hbox hb; have BK11803 := Aside0.mk (hbox); have GW11803 := kg HB hg; have GE11803 := kg HB hg; have NB11801_11803 := kn BK11801 hg; have NB11803_11801 := km BK11801 hg; have NB11802_11803 := kn BK11802 hg; have NB11803_11802 := km BK11802 hg; replace BK11801 := kb BK11801 hb; replace BK11802 := kb BK11802 hb; replace HB := kh HB hb; clear hb hbox hg) | ((with_reducible refine gate_callee (f := 13) rfl ?_); refine kc (some 10) Try.func13 #[] (flyballlaw21_works.calls k  true _ A4.out) ?_; intro w32 hb; replace BK11801 := kb BK11801 hb; replace BK11802 := kb BK11802 hb; replace BK11803 := kb BK11803 hb; replace HB := kh HB hb; (try clear hb)))
            replace BK11801 := Aside0.mk (blk_drew BK11801.out)
            replace BK11802 := Aside0.mk (blk_drew BK11802.out)
            replace BK11803 := Aside0.mk (blk_drew BK11803.out)
            replace HB := Aside0.mk (below_drew1 HB.out)
            refine start_ (n := 26) (S := fun w' => w'.cell? ⟨gb11802, 0, none⟩ = some (.bool a1_0) ∧ w'.cell? ⟨gb11802, 1, none⟩ = some (.int .i64 a1_1) ∧ w'.cell? ⟨gb11802, 2, none⟩ = some (.int .i64 a1_2) ∧ w'.cell? ⟨gb11803, 0, none⟩ = some (.bool a2_0) ∧ w'.cell? ⟨gb11803, 1, none⟩ = some (.int .i64 a2_1) ∧ w'.cell? ⟨gb11803, 2, none⟩ = some (.int .i64 a2_2) ∧ w'.cell? ⟨gb11801, 0, none⟩ = some (.bool a0_0) ∧ w'.cell? ⟨gb11801, 1, none⟩ = some (.int .i64 a0_1) ∧ w'.cell? ⟨gb11801, 2, none⟩ = some (.int .i64 a0_2) ∧ w'.cell? ⟨gb11801, 3, none⟩ = some (.bool a0_3) ∧ w'.cell? ⟨gb11801, 4, none⟩ = some (.int .i64 a0_4) ∧ w'.cell? ⟨gb11801, 5, none⟩ = some (.int .i64 a0_5)) (ds := []) #[false, false, false, false, false, false, false, false, false, false, false, false, false, false, false, false, false, false, false, false, false, false, false, false, false, false] (by kernel_rfl) rfl rfl ⟨bc BK11802 0, bc BK11802 1, bc BK11802 2, bc BK11803 0, bc BK11803 1, bc BK11803 2, bc BK11801 0, bc BK11801 1, bc BK11801 2, bc BK11801 3, bc BK11801 4, bc BK11801 5⟩ (fun hHeld => ?_); refine with_tabW flyballlaw21_ClockDoes.tab4 flyballlaw21_ClockDoes.bits4 (fun HT_ HW_ => ?_)
            generalize w32.drew = w33 at BK11801 BK11802 BK11803 HB hHeld ⊢
            refine tak 0 (some 13) #[true, false, false, false, false, false, false, false, false, false, false, false, false, false, false, false, false, false, false, false, false, false, false, false, false, false] (take_ofW HT_.out HW_.out (by kernel_rfl)) hHeld ?_
            refine tak 1 (some 14) #[true, true, false, false, false, false, false, false, false, false, false, false, false, false, false, false, false, false, false, false, false, false, false, false, false, false] (take_ofW HT_.out HW_.out (by kernel_rfl)) hHeld ?_
            refine tak 3 (some 16) #[true, true, false, true, false, false, false, false, false, false, false, false, false, false, false, false, false, false, false, false, false, false, false, false, false, false] (take_ofW HT_.out HW_.out (by kernel_rfl)) hHeld ?_
            refine tak 4 (some 17) #[true, true, false, true, true, false, false, false, false, false, false, false, false, false, false, false, false, false, false, false, false, false, false, false, false, false] (take_ofW HT_.out HW_.out (by kernel_rfl)) hHeld ?_
            refine one_ (i := 2) (N := some 15) #[true, true, true, true, true, false, false, false, false, false, false, false, false, false, false, false, false, false, false, false, false, false, false, false, false, false] rfl rfl (one_of HT_.out (by kernel_rfl)) (by decide) (fun K hK => ?_)
            refine gc Try.func15 #[.agg #[.bool a1_0, .int .i64 a1_1, .int .i64 a1_2], .agg #[.bool a2_0, .int .i64 a2_1, .int .i64 a2_2]] (clock_Of.calls k a1_0 a1_1 a1_2 a2_0 a2_1 a2_2 t11805 t11806 t11807 t11808 t11809 t11810 _ A6.out) ?_
            intro w34 hb
            replace BK11801 := kb BK11801 hb
            replace BK11802 := kb BK11802 hb
            replace BK11803 := kb BK11803 hb
            replace HB := kh HB hb
            (try clear hb)
            refine hK.out _ _ ⟨bc BK11802 0, bc BK11802 1, bc BK11802 2, bc BK11803 0, bc BK11803 1, bc BK11803 2, bc BK11801 0, bc BK11801 1, bc BK11801 2, bc BK11801 3, bc BK11801 4, bc BK11801 5⟩ (fun hHeld => ?_)
            clear hK K
            refine nrm (some 15) ?_
            refine one_ (i := 5) (N := some 18) #[true, true, true, true, true, true, false, false, false, false, false, false, false, false, false, false, false, false, false, false, false, false, false, false, false, false] rfl rfl (one_of HT_.out (by kernel_rfl)) (by decide) (fun K hK => ?_)
            refine gc Try.func16 #[.agg #[.bool a1_0, .int .i64 a1_1, .int .i64 a1_2], .agg #[.bool a2_0, .int .i64 a2_1, .int .i64 a2_2]] (flyballref21_Of.calls k a1_0 a1_1 a1_2 a2_0 a2_1 a2_2 t11811 t11812 t11813 t11814 t11815 t11816 _ A7.out) ?_
            intro w35 hb
            replace BK11801 := kb BK11801 hb
            replace BK11802 := kb BK11802 hb
            replace BK11803 := kb BK11803 hb
            replace HB := kh HB hb
            (try clear hb)
            refine hK.out _ _ ⟨bc BK11802 0, bc BK11802 1, bc BK11802 2, bc BK11803 0, bc BK11803 1, bc BK11803 2, bc BK11801 0, bc BK11801 1, bc BK11801 2, bc BK11801 3, bc BK11801 4, bc BK11801 5⟩ (fun hHeld => ?_)
            clear hK K
            refine nrm (some 18) ?_
            refine one_ (i := 6) (N := some 19) #[true, true, true, true, true, true, true, false, false, false, false, false, false, false, false, false, false, false, false, false, false, false, false, false, false, false] rfl rfl (one_of HT_.out (by kernel_rfl)) (by decide) (fun K hK => ?_)
            refine gc Try.func14 #[.agg #[.bool t11805, .int .i64 t11806, .int .i64 t11807, .bool t11808, .int .i64 t11809, .int .i64 t11810], .agg #[.bool t11811, .int .i64 t11812, .int .i64 t11813, .bool t11814, .int .i64 t11815, .int .i64 t11816]] (flyballlaw21_is.calls t11805 t11806 t11807 t11808 t11809 t11810 t11811 t11812 t11813 t11814 t11815 t11816 true _ A8.out) ?_
            intro w36 hb
            replace BK11801 := kb BK11801 hb
            replace BK11802 := kb BK11802 hb
            replace BK11803 := kb BK11803 hb
            replace HB := kh HB hb
            (try clear hb)
            refine hK.out _ _ ⟨bc BK11802 0, bc BK11802 1, bc BK11802 2, bc BK11803 0, bc BK11803 1, bc BK11803 2, bc BK11801 0, bc BK11801 1, bc BK11801 2, bc BK11801 3, bc BK11801 4, bc BK11801 5⟩ (fun hHeld => ?_)
            clear hK K
            refine nrm (some 19) ?_
            refine pur 7 (some 20) #[true, true, true, true, true, true, true, true, false, false, false, false, false, false, false, false, false, false, false, false, false, false, false, false, false, false] (any_of HT_.out (by kernel_rfl)) ?_
            refine tak 8 (some 21) #[true, true, true, true, true, true, true, true, true, false, false, false, false, false, false, false, false, false, false, false, false, false, false, false, false, false] (take_ofW HT_.out HW_.out (by kernel_rfl)) hHeld ?_
            refine tak 9 (some 22) #[true, true, true, true, true, true, true, true, true, true, false, false, false, false, false, false, false, false, false, false, false, false, false, false, false, false] (take_ofW HT_.out HW_.out (by kernel_rfl)) hHeld ?_
            refine tak 11 (some 24) #[true, true, true, true, true, true, true, true, true, true, false, true, false, false, false, false, false, false, false, false, false, false, false, false, false, false] (take_ofW HT_.out HW_.out (by kernel_rfl)) hHeld ?_
            refine tak 13 (some 26) #[true, true, true, true, true, true, true, true, true, true, false, true, false, true, false, false, false, false, false, false, false, false, false, false, false, false] (take_ofW HT_.out HW_.out (by kernel_rfl)) hHeld ?_
            refine one_ (i := 10) (N := some 23) #[true, true, true, true, true, true, true, true, true, true, true, true, false, true, false, false, false, false, false, false, false, false, false, false, false, false] rfl rfl (one_of HT_.out (by kernel_rfl)) (by decide) (fun K hK => ?_)
            refine gc Try.func17 #[.agg #[.bool a0_0, .int .i64 a0_1, .int .i64 a0_2, .bool a0_3, .int .i64 a0_4, .int .i64 a0_5], .agg #[.bool a1_0, .int .i64 a1_1, .int .i64 a1_2]] (clock_Move.calls k a0_0 a0_1 a0_2 a0_3 a0_4 a0_5 a1_0 a1_1 a1_2 t11818 t11819 t11820 t11821 t11822 t11823 _ A10.out) ?_
            intro w37 hb
            replace BK11801 := kb BK11801 hb
            replace BK11802 := kb BK11802 hb
            replace BK11803 := kb BK11803 hb
            replace HB := kh HB hb
            (try clear hb)
            refine hK.out _ _ ⟨bc BK11802 0, bc BK11802 1, bc BK11802 2, bc BK11803 0, bc BK11803 1, bc BK11803 2, bc BK11801 0, bc BK11801 1, bc BK11801 2, bc BK11801 3, bc BK11801 4, bc BK11801 5⟩ (fun hHeld => ?_)
            clear hK K
            refine nrm (some 23) ?_
            refine one_ (i := 12) (N := some 25) #[true, true, true, true, true, true, true, true, true, true, true, true, true, true, false, false, false, false, false, false, false, false, false, false, false, false] rfl rfl (one_of HT_.out (by kernel_rfl)) (by decide) (fun K hK => ?_)
            refine gc Try.func19 #[.agg #[.bool a0_0, .int .i64 a0_1, .int .i64 a0_2, .bool a0_3, .int .i64 a0_4, .int .i64 a0_5]] (flyballlaw21_of.calls a0_0 a0_1 a0_2 a0_3 a0_4 a0_5 t11824 t11825 t11826 t11827 t11828 t11829 _ A11.out) ?_
            intro w38 hb
            replace BK11801 := kb BK11801 hb
            replace BK11802 := kb BK11802 hb
            replace BK11803 := kb BK11803 hb
            replace HB := kh HB hb
            (try clear hb)
            refine hK.out _ _ ⟨bc BK11802 0, bc BK11802 1, bc BK11802 2, bc BK11803 0, bc BK11803 1, bc BK11803 2, bc BK11801 0, bc BK11801 1, bc BK11801 2, bc BK11801 3, bc BK11801 4, bc BK11801 5⟩ (fun hHeld => ?_)
            clear hK K
            refine nrm (some 25) ?_
            refine one_ (i := 14) (N := some 27) #[true, true, true, true, true, true, true, true, true, true, true, true, true, true, true, false, false, false, false, false, false, false, false, false, false, false] rfl rfl (one_of HT_.out (by kernel_rfl)) (by decide) (fun K hK => ?_)
            refine gc Try.func18 #[.agg #[.bool t11824, .int .i64 t11825, .int .i64 t11826, .bool t11827, .int .i64 t11828, .int .i64 t11829], .agg #[.bool a1_0, .int .i64 a1_1, .int .i64 a1_2]] (flyballref21_Move.calls k t11824 t11825 t11826 t11827 t11828 t11829 a1_0 a1_1 a1_2 t11830 t11831 t11832 t11833 t11834 t11835 _ A12.out) ?_
            intro w39 hb
            replace BK11801 := kb BK11801 hb
            replace BK11802 := kb BK11802 hb
            replace BK11803 := kb BK11803 hb
            replace HB := kh HB hb
            (try clear hb)
            refine hK.out _ _ ⟨bc BK11802 0, bc BK11802 1, bc BK11802 2, bc BK11803 0, bc BK11803 1, bc BK11803 2, bc BK11801 0, bc BK11801 1, bc BK11801 2, bc BK11801 3, bc BK11801 4, bc BK11801 5⟩ (fun hHeld => ?_)
            clear hK K
            refine nrm (some 27) ?_
            refine one_ (i := 15) (N := some 28) #[true, true, true, true, true, true, true, true, true, true, true, true, true, true, true, true, false, false, false, false, false, false, false, false, false, false] rfl rfl (one_of HT_.out (by kernel_rfl)) (by decide) (fun K hK => ?_)
            refine gc Try.func14 #[.agg #[.bool t11818, .int .i64 t11819, .int .i64 t11820, .bool t11821, .int .i64 t11822, .int .i64 t11823], .agg #[.bool t11830, .int .i64 t11831, .int .i64 t11832, .bool t11833, .int .i64 t11834, .int .i64 t11835]] (flyballlaw21_is.calls t11818 t11819 t11820 t11821 t11822 t11823 t11830 t11831 t11832 t11833 t11834 t11835 true _ A13.out) ?_
            intro w40 hb
            replace BK11801 := kb BK11801 hb
            replace BK11802 := kb BK11802 hb
            replace BK11803 := kb BK11803 hb
            replace HB := kh HB hb
            (try clear hb)
            refine hK.out _ _ ⟨bc BK11802 0, bc BK11802 1, bc BK11802 2, bc BK11803 0, bc BK11803 1, bc BK11803 2, bc BK11801 0, bc BK11801 1, bc BK11801 2, bc BK11801 3, bc BK11801 4, bc BK11801 5⟩ (fun hHeld => ?_)
            clear hK K
            refine nrm (some 28) ?_
            refine pur 16 (some 29) #[true, true, true, true, true, true, true, true, true, true, true, true, true, true, true, true, true, false, false, false, false, false, false, false, false, false] (any_of HT_.out (by kernel_rfl)) ?_
            refine pur 17 (some 30) #[true, true, true, true, true, true, true, true, true, true, true, true, true, true, true, true, true, true, false, false, false, false, false, false, false, false] (any_of HT_.out (by kernel_rfl)) ?_
            refine tak 18 (some 31) #[true, true, true, true, true, true, true, true, true, true, true, true, true, true, true, true, true, true, true, false, false, false, false, false, false, false] (take_ofW HT_.out HW_.out (by kernel_rfl)) hHeld ?_
            refine tak 20 (some 33) #[true, true, true, true, true, true, true, true, true, true, true, true, true, true, true, true, true, true, true, false, true, false, false, false, false, false] (take_ofW HT_.out HW_.out (by kernel_rfl)) hHeld ?_
            refine one_ (i := 19) (N := some 32) #[true, true, true, true, true, true, true, true, true, true, true, true, true, true, true, true, true, true, true, true, true, false, false, false, false, false] rfl rfl (one_of HT_.out (by kernel_rfl)) (by decide) (fun K hK => ?_)
            refine gc Try.func20 #[.agg #[.bool a0_0, .int .i64 a0_1, .int .i64 a0_2, .bool a0_3, .int .i64 a0_4, .int .i64 a0_5]] (clock_Tick.calls k a0_0 a0_1 a0_2 a0_3 a0_4 a0_5 t11837 t11838 t11839 t11840 t11841 t11842 _ A15.out) ?_
            intro w41 hb
            replace BK11801 := kb BK11801 hb
            replace BK11802 := kb BK11802 hb
            replace BK11803 := kb BK11803 hb
            replace HB := kh HB hb
            (try clear hb)
            refine hK.out _ _ ⟨bc BK11802 0, bc BK11802 1, bc BK11802 2, bc BK11803 0, bc BK11803 1, bc BK11803 2, bc BK11801 0, bc BK11801 1, bc BK11801 2, bc BK11801 3, bc BK11801 4, bc BK11801 5⟩ (fun hHeld => ?_)
            clear hK K
            refine nrm (some 32) ?_
            refine one_ (i := 21) (N := some 34) #[true, true, true, true, true, true, true, true, true, true, true, true, true, true, true, true, true, true, true, true, true, true, false, false, false, false] rfl rfl (one_of HT_.out (by kernel_rfl)) (by decide) (fun K hK => ?_)
            refine gc Try.func19 #[.agg #[.bool a0_0, .int .i64 a0_1, .int .i64 a0_2, .bool a0_3, .int .i64 a0_4, .int .i64 a0_5]] (flyballlaw21_of.calls a0_0 a0_1 a0_2 a0_3 a0_4 a0_5 t11843 t11844 t11845 t11846 t11847 t11848 _ A16.out) ?_
            intro w42 hb
            replace BK11801 := kb BK11801 hb
            replace BK11802 := kb BK11802 hb
            replace BK11803 := kb BK11803 hb
            replace HB := kh HB hb
            (try clear hb)
            refine hK.out _ _ ⟨bc BK11802 0, bc BK11802 1, bc BK11802 2, bc BK11803 0, bc BK11803 1, bc BK11803 2, bc BK11801 0, bc BK11801 1, bc BK11801 2, bc BK11801 3, bc BK11801 4, bc BK11801 5⟩ (fun hHeld => ?_)
            clear hK K
            refine nrm (some 34) ?_
            refine one_ (i := 22) (N := some 35) #[true, true, true, true, true, true, true, true, true, true, true, true, true, true, true, true, true, true, true, true, true, true, true, false, false, false] rfl rfl (one_of HT_.out (by kernel_rfl)) (by decide) (fun K hK => ?_)
            refine gc Try.func21 #[.agg #[.bool t11843, .int .i64 t11844, .int .i64 t11845, .bool t11846, .int .i64 t11847, .int .i64 t11848]] (flyballref21_Tick.calls k t11843 t11844 t11845 t11846 t11847 t11848 t11849 t11850 t11851 t11852 t11853 t11854 _ A17.out) ?_
            intro w43 hb
            replace BK11801 := kb BK11801 hb
            replace BK11802 := kb BK11802 hb
            replace BK11803 := kb BK11803 hb
            replace HB := kh HB hb
            (try clear hb)
            refine hK.out _ _ ⟨bc BK11802 0, bc BK11802 1, bc BK11802 2, bc BK11803 0, bc BK11803 1, bc BK11803 2, bc BK11801 0, bc BK11801 1, bc BK11801 2, bc BK11801 3, bc BK11801 4, bc BK11801 5⟩ (fun hHeld => ?_)
            clear hK K
            refine nrm (some 35) ?_
            refine one_ (i := 23) (N := some 36) #[true, true, true, true, true, true, true, true, true, true, true, true, true, true, true, true, true, true, true, true, true, true, true, true, false, false] rfl rfl (one_of HT_.out (by kernel_rfl)) (by decide) (fun K hK => ?_)
            refine gc Try.func14 #[.agg #[.bool t11837, .int .i64 t11838, .int .i64 t11839, .bool t11840, .int .i64 t11841, .int .i64 t11842], .agg #[.bool t11849, .int .i64 t11850, .int .i64 t11851, .bool t11852, .int .i64 t11853, .int .i64 t11854]] (flyballlaw21_is.calls t11837 t11838 t11839 t11840 t11841 t11842 t11849 t11850 t11851 t11852 t11853 t11854 true _ A18.out) ?_
            intro w44 hb
            replace BK11801 := kb BK11801 hb
            replace BK11802 := kb BK11802 hb
            replace BK11803 := kb BK11803 hb
            replace HB := kh HB hb
            (try clear hb)
            refine hK.out _ _ ⟨bc BK11802 0, bc BK11802 1, bc BK11802 2, bc BK11803 0, bc BK11803 1, bc BK11803 2, bc BK11801 0, bc BK11801 1, bc BK11801 2, bc BK11801 3, bc BK11801 4, bc BK11801 5⟩ (fun hHeld => ?_)
            clear hK K
            refine nrm (some 36) ?_
            refine pur 24 (some 37) #[true, true, true, true, true, true, true, true, true, true, true, true, true, true, true, true, true, true, true, true, true, true, true, true, true, false] (any_of HT_.out (by kernel_rfl)) ?_
            refine pur 25 (some 8) #[true, true, true, true, true, true, true, true, true, true, true, true, true, true, true, true, true, true, true, true, true, true, true, true, true, true] (any_of HT_.out (by kernel_rfl)) ?_
            refine done_ (done_of HT_.out (by kernel_rfl)) ?_
            try go_wp2
            replace BK11801 := Aside0.mk (blk_drew BK11801.out)
            replace BK11802 := Aside0.mk (blk_drew BK11802.out)
            replace BK11803 := Aside0.mk (blk_drew BK11803.out)
            replace HB := Aside0.mk (below_drew1 HB.out)
            refine start_ (n := 12) (S := fun w' => w'.cell? ⟨gb11801, 0, none⟩ = some (.bool a0_0) ∧ w'.cell? ⟨gb11801, 1, none⟩ = some (.int .i64 a0_1) ∧ w'.cell? ⟨gb11801, 2, none⟩ = some (.int .i64 a0_2) ∧ w'.cell? ⟨gb11801, 3, none⟩ = some (.bool a0_3) ∧ w'.cell? ⟨gb11801, 4, none⟩ = some (.int .i64 a0_4) ∧ w'.cell? ⟨gb11801, 5, none⟩ = some (.int .i64 a0_5) ∧ w'.cell? ⟨gb11802, 0, none⟩ = some (.bool a1_0) ∧ w'.cell? ⟨gb11802, 1, none⟩ = some (.int .i64 a1_1) ∧ w'.cell? ⟨gb11802, 2, none⟩ = some (.int .i64 a1_2) ∧ w'.cell? ⟨gb11803, 0, none⟩ = some (.bool a2_0) ∧ w'.cell? ⟨gb11803, 1, none⟩ = some (.int .i64 a2_1) ∧ w'.cell? ⟨gb11803, 2, none⟩ = some (.int .i64 a2_2)) (ds := []) #[false, false, false, false, false, false, false, false, false, false, false, false] (by kernel_rfl) rfl rfl ⟨bc BK11801 0, bc BK11801 1, bc BK11801 2, bc BK11801 3, bc BK11801 4, bc BK11801 5, bc BK11802 0, bc BK11802 1, bc BK11802 2, bc BK11803 0, bc BK11803 1, bc BK11803 2⟩ (fun hHeld => ?_); refine with_tabW flyballlaw21_ClockDoes.tab5 flyballlaw21_ClockDoes.bits5 (fun HT_ HW_ => ?_)
            generalize w44.drew = w45 at BK11801 BK11802 BK11803 HB hHeld ⊢
            refine tak 0 (some 38) #[true, false, false, false, false, false, false, false, false, false, false, false] (take_ofW HT_.out HW_.out (by kernel_rfl)) hHeld ?_
            refine tak 1 (some 39) #[true, true, false, false, false, false, false, false, false, false, false, false] (take_ofW HT_.out HW_.out (by kernel_rfl)) hHeld ?_
            refine tak 2 (some 40) #[true, true, true, false, false, false, false, false, false, false, false, false] (take_ofW HT_.out HW_.out (by kernel_rfl)) hHeld ?_
            refine tak 4 (some 42) #[true, true, true, false, true, false, false, false, false, false, false, false] (take_ofW HT_.out HW_.out (by kernel_rfl)) hHeld ?_
            refine tak 6 (some 44) #[true, true, true, false, true, false, true, false, false, false, false, false] (take_ofW HT_.out HW_.out (by kernel_rfl)) hHeld ?_
            refine tak 7 (some 45) #[true, true, true, false, true, false, true, true, false, false, false, false] (take_ofW HT_.out HW_.out (by kernel_rfl)) hHeld ?_
            refine one_ (i := 3) (N := some 41) #[true, true, true, true, true, false, true, true, false, false, false, false] rfl rfl (one_of HT_.out (by kernel_rfl)) (by decide) (fun K hK => ?_)
            refine gc Try.func22 #[.agg #[.bool a0_0, .int .i64 a0_1, .int .i64 a0_2, .bool a0_3, .int .i64 a0_4, .int .i64 a0_5], .agg #[.bool a1_0, .int .i64 a1_1, .int .i64 a1_2], .agg #[.bool a2_0, .int .i64 a2_1, .int .i64 a2_2]] (clock_Tight.calls k a0_0 a0_1 a0_2 a0_3 a0_4 a0_5 a1_0 a1_1 a1_2 a2_0 a2_1 a2_2 t11856 t11857 t11858 t11859 t11860 t11861 _ A19.out) ?_
            intro w46 hb
            replace BK11801 := kb BK11801 hb
            replace BK11802 := kb BK11802 hb
            replace BK11803 := kb BK11803 hb
            replace HB := kh HB hb
            (try clear hb)
            refine hK.out _ _ ⟨bc BK11801 0, bc BK11801 1, bc BK11801 2, bc BK11801 3, bc BK11801 4, bc BK11801 5, bc BK11802 0, bc BK11802 1, bc BK11802 2, bc BK11803 0, bc BK11803 1, bc BK11803 2⟩ (fun hHeld => ?_)
            clear hK K
            refine nrm (some 41) ?_
            refine one_ (i := 5) (N := some 43) #[true, true, true, true, true, true, true, true, false, false, false, false] rfl rfl (one_of HT_.out (by kernel_rfl)) (by decide) (fun K hK => ?_)
            refine gc Try.func19 #[.agg #[.bool a0_0, .int .i64 a0_1, .int .i64 a0_2, .bool a0_3, .int .i64 a0_4, .int .i64 a0_5]] (flyballlaw21_of.calls a0_0 a0_1 a0_2 a0_3 a0_4 a0_5 t11862 t11863 t11864 t11865 t11866 t11867 _ A20.out) ?_
            intro w47 hb
            replace BK11801 := kb BK11801 hb
            replace BK11802 := kb BK11802 hb
            replace BK11803 := kb BK11803 hb
            replace HB := kh HB hb
            (try clear hb)
            refine hK.out _ _ ⟨bc BK11801 0, bc BK11801 1, bc BK11801 2, bc BK11801 3, bc BK11801 4, bc BK11801 5, bc BK11802 0, bc BK11802 1, bc BK11802 2, bc BK11803 0, bc BK11803 1, bc BK11803 2⟩ (fun hHeld => ?_)
            clear hK K
            refine nrm (some 43) ?_
            refine one_ (i := 8) (N := some 46) #[true, true, true, true, true, true, true, true, true, false, false, false] rfl rfl (one_of HT_.out (by kernel_rfl)) (by decide) (fun K hK => ?_)
            refine gc Try.func16 #[.agg #[.bool a1_0, .int .i64 a1_1, .int .i64 a1_2], .agg #[.bool a2_0, .int .i64 a2_1, .int .i64 a2_2]] (flyballref21_Of.calls k a1_0 a1_1 a1_2 a2_0 a2_1 a2_2 t11868 t11869 t11870 t11871 t11872 t11873 _ A21.out) ?_
            intro w48 hb
            replace BK11801 := kb BK11801 hb
            replace BK11802 := kb BK11802 hb
            replace BK11803 := kb BK11803 hb
            replace HB := kh HB hb
            (try clear hb)
            refine hK.out _ _ ⟨bc BK11801 0, bc BK11801 1, bc BK11801 2, bc BK11801 3, bc BK11801 4, bc BK11801 5, bc BK11802 0, bc BK11802 1, bc BK11802 2, bc BK11803 0, bc BK11803 1, bc BK11803 2⟩ (fun hHeld => ?_)
            clear hK K
            refine nrm (some 46) ?_
            refine one_ (i := 9) (N := some 47) #[true, true, true, true, true, true, true, true, true, true, false, false] rfl rfl (one_of HT_.out (by kernel_rfl)) (by decide) (fun K hK => ?_)
            refine gc Try.func23 #[.agg #[.bool t11862, .int .i64 t11863, .int .i64 t11864, .bool t11865, .int .i64 t11866, .int .i64 t11867], .agg #[.bool t11868, .int .i64 t11869, .int .i64 t11870, .bool t11871, .int .i64 t11872, .int .i64 t11873]] (flyballref21_Meet.calls t11862 t11863 t11864 t11865 t11866 t11867 t11868 t11869 t11870 t11871 t11872 t11873 t11874 t11875 t11876 t11877 t11878 t11879 _ A22.out) ?_
            intro w49 hb
            replace BK11801 := kb BK11801 hb
            replace BK11802 := kb BK11802 hb
            replace BK11803 := kb BK11803 hb
            replace HB := kh HB hb
            (try clear hb)
            refine hK.out _ _ ⟨bc BK11801 0, bc BK11801 1, bc BK11801 2, bc BK11801 3, bc BK11801 4, bc BK11801 5, bc BK11802 0, bc BK11802 1, bc BK11802 2, bc BK11803 0, bc BK11803 1, bc BK11803 2⟩ (fun hHeld => ?_)
            clear hK K
            refine nrm (some 47) ?_
            refine one_ (i := 10) (N := some 48) #[true, true, true, true, true, true, true, true, true, true, true, false] rfl rfl (one_of HT_.out (by kernel_rfl)) (by decide) (fun K hK => ?_)
            refine gc Try.func14 #[.agg #[.bool t11856, .int .i64 t11857, .int .i64 t11858, .bool t11859, .int .i64 t11860, .int .i64 t11861], .agg #[.bool t11874, .int .i64 t11875, .int .i64 t11876, .bool t11877, .int .i64 t11878, .int .i64 t11879]] (flyballlaw21_is.calls t11856 t11857 t11858 t11859 t11860 t11861 t11874 t11875 t11876 t11877 t11878 t11879 true _ A23.out) ?_
            intro w50 hb
            replace BK11801 := kb BK11801 hb
            replace BK11802 := kb BK11802 hb
            replace BK11803 := kb BK11803 hb
            replace HB := kh HB hb
            (try clear hb)
            refine hK.out _ _ ⟨bc BK11801 0, bc BK11801 1, bc BK11801 2, bc BK11801 3, bc BK11801 4, bc BK11801 5, bc BK11802 0, bc BK11802 1, bc BK11802 2, bc BK11803 0, bc BK11803 1, bc BK11803 2⟩ (fun hHeld => ?_)
            clear hK K
            refine nrm (some 48) ?_
            refine pur 11 (some 9) #[true, true, true, true, true, true, true, true, true, true, true, true] (any_of HT_.out (by kernel_rfl)) ?_
            refine done_ (done_of HT_.out (by kernel_rfl)) ?_
            try go_wp2
            replace BK11801 := Aside0.mk (blk_drew BK11801.out)
            replace BK11802 := Aside0.mk (blk_drew BK11802.out)
            replace BK11803 := Aside0.mk (blk_drew BK11803.out)
            replace HB := Aside0.mk (below_drew1 HB.out)
            refine start_ (n := 20) (S := fun w' => w'.cell? ⟨gb11802, 0, none⟩ = some (.bool a1_0) ∧ w'.cell? ⟨gb11802, 1, none⟩ = some (.int .i64 a1_1) ∧ w'.cell? ⟨gb11802, 2, none⟩ = some (.int .i64 a1_2) ∧ w'.cell? ⟨gb11801, 0, none⟩ = some (.bool a0_0) ∧ w'.cell? ⟨gb11801, 1, none⟩ = some (.int .i64 a0_1) ∧ w'.cell? ⟨gb11801, 2, none⟩ = some (.int .i64 a0_2) ∧ w'.cell? ⟨gb11801, 3, none⟩ = some (.bool a0_3) ∧ w'.cell? ⟨gb11801, 4, none⟩ = some (.int .i64 a0_4) ∧ w'.cell? ⟨gb11801, 5, none⟩ = some (.int .i64 a0_5) ∧ w'.cell? ⟨gb11803, 0, none⟩ = some (.bool a2_0) ∧ w'.cell? ⟨gb11803, 1, none⟩ = some (.int .i64 a2_1) ∧ w'.cell? ⟨gb11803, 2, none⟩ = some (.int .i64 a2_2)) (ds := []) #[false, false, false, false, false, false, false, false, false, false, false, false, false, false, false, false, false, false, false, false] (by kernel_rfl) rfl rfl ⟨bc BK11802 0, bc BK11802 1, bc BK11802 2, bc BK11801 0, bc BK11801 1, bc BK11801 2, bc BK11801 3, bc BK11801 4, bc BK11801 5, bc BK11803 0, bc BK11803 1, bc BK11803 2⟩ (fun hHeld => ?_); refine with_tabW flyballlaw21_ClockDoes.tab6 flyballlaw21_ClockDoes.bits6 (fun HT_ HW_ => ?_)
            generalize w50.drew = w51 at BK11801 BK11802 BK11803 HB hHeld ⊢
            refine pur 0 (some 49) #[true, false, false, false, false, false, false, false, false, false, false, false, false, false, false, false, false, false, false, false] (any_of HT_.out (by kernel_rfl)) ?_
            refine pur 1 (some 50) #[true, true, false, false, false, false, false, false, false, false, false, false, false, false, false, false, false, false, false, false] (any_of HT_.out (by kernel_rfl)) ?_
            refine pur 2 (some 51) #[true, true, true, false, false, false, false, false, false, false, false, false, false, false, false, false, false, false, false, false] (any_of HT_.out (by kernel_rfl)) ?_
            refine pur 3 (some 52) #[true, true, true, true, false, false, false, false, false, false, false, false, false, false, false, false, false, false, false, false] (any_of HT_.out (by kernel_rfl)) ?_
            refine pur 4 (some 53) #[true, true, true, true, true, false, false, false, false, false, false, false, false, false, false, false, false, false, false, false] (any_of HT_.out (by kernel_rfl)) ?_
            refine pur 5 (some 54) #[true, true, true, true, true, true, false, false, false, false, false, false, false, false, false, false, false, false, false, false] (any_of HT_.out (by kernel_rfl)) ?_
            refine pur 6 (some 55) #[true, true, true, true, true, true, true, false, false, false, false, false, false, false, false, false, false, false, false, false] (any_of HT_.out (by kernel_rfl)) ?_
            refine pur 7 (some 56) #[true, true, true, true, true, true, true, true, false, false, false, false, false, false, false, false, false, false, false, false] (any_of HT_.out (by kernel_rfl)) ?_
            refine tak 8 (some 57) #[true, true, true, true, true, true, true, true, true, false, false, false, false, false, false, false, false, false, false, false] (take_ofW HT_.out HW_.out (by kernel_rfl)) hHeld ?_
            refine tak 9 (some 58) #[true, true, true, true, true, true, true, true, true, true, false, false, false, false, false, false, false, false, false, false] (take_ofW HT_.out HW_.out (by kernel_rfl)) hHeld ?_
            refine tak 10 (some 59) #[true, true, true, true, true, true, true, true, true, true, true, false, false, false, false, false, false, false, false, false] (take_ofW HT_.out HW_.out (by kernel_rfl)) hHeld ?_
            refine tak 12 (some 61) #[true, true, true, true, true, true, true, true, true, true, true, false, true, false, false, false, false, false, false, false] (take_ofW HT_.out HW_.out (by kernel_rfl)) hHeld ?_
            refine tak 13 (some 62) #[true, true, true, true, true, true, true, true, true, true, true, false, true, true, false, false, false, false, false, false] (take_ofW HT_.out HW_.out (by kernel_rfl)) hHeld ?_
            refine tak 15 (some 64) #[true, true, true, true, true, true, true, true, true, true, true, false, true, true, false, true, false, false, false, false] (take_ofW HT_.out HW_.out (by kernel_rfl)) hHeld ?_
            refine one_ (i := 11) (N := some 60) #[true, true, true, true, true, true, true, true, true, true, true, true, true, true, false, true, false, false, false, false] rfl rfl (one_of HT_.out (by kernel_rfl)) (by decide) (fun K hK => ?_)
            refine gc Try.func24 #[.agg #[.bool a1_0, .int .i64 a1_1, .int .i64 a1_2], .agg #[.bool a0_0, .int .i64 a0_1, .int .i64 a0_2, .bool a0_3, .int .i64 a0_4, .int .i64 a0_5], .agg #[.bool a2_0, .int .i64 a2_1, .int .i64 a2_2]] (clock_Reduce.calls k a1_0 a1_1 a1_2 a0_0 a0_1 a0_2 a0_3 a0_4 a0_5 a2_0 a2_1 a2_2 t11881 t11882 t11883 _ A26.out) ?_
            intro w52 hb
            replace BK11801 := kb BK11801 hb
            replace BK11802 := kb BK11802 hb
            replace BK11803 := kb BK11803 hb
            replace HB := kh HB hb
            (try clear hb)
            refine hK.out _ _ ⟨bc BK11802 0, bc BK11802 1, bc BK11802 2, bc BK11801 0, bc BK11801 1, bc BK11801 2, bc BK11801 3, bc BK11801 4, bc BK11801 5, bc BK11803 0, bc BK11803 1, bc BK11803 2⟩ (fun hHeld => ?_)
            clear hK K
            refine nrm (some 60) ?_
            refine one_ (i := 14) (N := some 63) #[true, true, true, true, true, true, true, true, true, true, true, true, true, true, true, true, false, false, false, false] rfl rfl (one_of HT_.out (by kernel_rfl)) (by decide) (fun K hK => ?_)
            refine gc Try.func19 #[.agg #[.bool a0_0, .int .i64 a0_1, .int .i64 a0_2, .bool a0_3, .int .i64 a0_4, .int .i64 a0_5]] (flyballlaw21_of.calls a0_0 a0_1 a0_2 a0_3 a0_4 a0_5 t11884 t11885 t11886 t11887 t11888 t11889 _ A27.out) ?_
            intro w53 hb
            replace BK11801 := kb BK11801 hb
            replace BK11802 := kb BK11802 hb
            replace BK11803 := kb BK11803 hb
            replace HB := kh HB hb
            (try clear hb)
            refine hK.out _ _ ⟨bc BK11802 0, bc BK11802 1, bc BK11802 2, bc BK11801 0, bc BK11801 1, bc BK11801 2, bc BK11801 3, bc BK11801 4, bc BK11801 5, bc BK11803 0, bc BK11803 1, bc BK11803 2⟩ (fun hHeld => ?_)
            clear hK K
            refine nrm (some 63) ?_
            refine one_ (i := 16) (N := some 65) #[true, true, true, true, true, true, true, true, true, true, true, true, true, true, true, true, true, false, false, false] rfl rfl (one_of HT_.out (by kernel_rfl)) (by decide) (fun K hK => ?_)
            refine gc Try.func25 #[.agg #[.bool a1_0, .int .i64 a1_1, .int .i64 a1_2], .agg #[.bool t11884, .int .i64 t11885, .int .i64 t11886, .bool t11887, .int .i64 t11888, .int .i64 t11889], .agg #[.bool a2_0, .int .i64 a2_1, .int .i64 a2_2]] (flyballref21_Reduce.calls k a1_0 a1_1 a1_2 t11884 t11885 t11886 t11887 t11888 t11889 a2_0 a2_1 a2_2 t11890 t11891 t11892 _ A28.out) ?_
            intro w54 hb
            replace BK11801 := kb BK11801 hb
            replace BK11802 := kb BK11802 hb
            replace BK11803 := kb BK11803 hb
            replace HB := kh HB hb
            (try clear hb)
            refine hK.out _ _ ⟨bc BK11802 0, bc BK11802 1, bc BK11802 2, bc BK11801 0, bc BK11801 1, bc BK11801 2, bc BK11801 3, bc BK11801 4, bc BK11801 5, bc BK11803 0, bc BK11803 1, bc BK11803 2⟩ (fun hHeld => ?_)
            clear hK K
            refine nrm (some 65) ?_
            refine pur 17 (some 66) #[true, true, true, true, true, true, true, true, true, true, true, true, true, true, true, true, true, true, false, false] (any_of HT_.out (by kernel_rfl)) ?_
            refine pur 18 (some 67) #[true, true, true, true, true, true, true, true, true, true, true, true, true, true, true, true, true, true, true, false] (any_of HT_.out (by kernel_rfl)) ?_
            refine pur 19 (some 6) #[true, true, true, true, true, true, true, true, true, true, true, true, true, true, true, true, true, true, true, true] (any_of HT_.out (by kernel_rfl)) ?_
            refine done_ (done_of HT_.out (by kernel_rfl)) ?_
            try go_wp2
            go_ret
            exact ⟨pe, pl HB⟩
          · replace c25 := Bool.eq_false_iff.mpr c25
            subst c25
            rw [if_neg (show ¬ (false = true) by decide)] at H
            exact absurd H (by simp)
        · replace c24 := Bool.eq_false_iff.mpr c24
          subst c24
          rw [if_neg (show ¬ (false = true) by decide)] at H
          exact absurd H (by simp)
      · replace c14 := Bool.eq_false_iff.mpr c14
        subst c14
        rw [if_neg (show ¬ (false = true) by decide)] at H
        exact absurd H (by simp)
    · replace c9 := Bool.eq_false_iff.mpr c9
      subst c9
      rw [if_neg (show ¬ (false = true) by decide)] at H
      exact absurd H (by simp)
  · replace c5 := Bool.eq_false_iff.mpr c5
    subst c5
    rw [if_neg (show ¬ (false = true) by decide)] at H
    obtain rfl := Option.some.inj H
    go_enter Try.func3, Try.ntmps3
    go_wp2_with (first | ((with_reducible refine gate_dst (N := 3) rfl ?_); refine kx 3 #[.bool a0_0, .int .i64 a0_1, .int .i64 a0_2, .bool a0_3, .int .i64 a0_4, .int .i64 a0_5] 25 ?_; intro gb11801 hg w55 hbox hb; have BK11801 := Aside0.mk (hbox); have GW11801 := kg HB hg; have GE11801 := kg HB hg; replace HB := kh HB hb; clear hb hbox hg) | ((with_reducible refine gate_dst (N := 4) rfl ?_); refine kx 4 #[.bool a1_0, .int .i64 a1_1, .int .i64 a1_2] 23 ?_; intro gb11802 hg w56 hbox hb; have BK11802 := Aside0.mk (hbox); have GW11802 := kg HB hg; have GE11802 := kg HB hg; have NB11801_11802 := kn BK11801 hg; have NB11802_11801 := km BK11801 hg; replace BK11801 := kb BK11801 hb; replace HB := kh HB hb; clear hb hbox hg) | ((with_reducible refine gate_dst (N := 5) rfl ?_); refine kx 5 #[.bool a2_0, .int .i64 a2_1, .int .i64 a2_2] 23 ?_; intro gb11803 hg w57 hbox hb; have BK11803 := Aside0.mk (hbox); have GW11803 := kg HB hg; have GE11803 := kg HB hg; have NB11801_11803 := kn BK11801 hg; have NB11803_11801 := km BK11801 hg; have NB11802_11803 := kn BK11802 hg; have NB11803_11802 := km BK11802 hg; replace BK11801 := kb BK11801 hb; replace BK11802 := kb BK11802 hb; replace HB := kh HB hb; clear hb hbox hg) | ((with_reducible refine gate_callee (f := 13) rfl ?_); refine kc (some 10) Try.func13 #[] (flyballlaw21_works.calls k  false _ A4.out) ?_; intro w58 hb; replace BK11801 := kb BK11801 hb; replace BK11802 := kb BK11802 hb; replace BK11803 := kb BK11803 hb; replace HB := kh HB hb; (try clear hb)))
    go_ret
    exact ⟨pe, pl HB⟩
end Go.Proofs.Ytinmgnlofininaa.PAll
end
