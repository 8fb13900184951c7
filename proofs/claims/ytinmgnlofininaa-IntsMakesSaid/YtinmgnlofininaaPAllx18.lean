-- Laid by this session's wip/more.py over the kit's print; hand-written parts are in it.
import Derived.Test.YtinmgnlofininaaPAllx0
import Derived.Test.YtinmgnlofininaaPAllx1
import Derived.Test.YtinmgnlofininaaPAllx3
import Derived.Test.YtinmgnlofininaaPAllx4
import Derived.Test.YtinmgnlofininaaPAllx10
import Derived.Test.YtinmgnlofininaaPAllx16
import Derived.Test.YtinmgnlofininaaPAllx17
namespace Go.Proofs.Ytinmgnlofininaa.PAll
open Go.RowKit Go.Proofs.YtinmgnlofininaaW.PrintWords Go.Proofs.YtinmgnlofininaaW.PrintLast Go.Proofs.YtinmgnlofininaaW.PrintMore
attribute [local go_sem] max2_int min2_int max_two min_two max_three min_three max_four min_four   -- for this text's walks alone
set_option linter.unusedVariables false
set_option linter.unusedSimpArgs false

attribute [local go_sem high] eqA23
/-! ### flyballlaw17_IntsMakes: function 7 -/
def flyballlaw17_IntsMakes.f (k : Nat) (a0_0 : Bool) (a0_1 : Int) (a0_2 : Int) (a1_0 : Bool) (a1_1 : Int) (a1_2 : Int) (a2 : Int) : Option (Bool) := (flyballlaw17_works.f k).bind fun t5803 => (if t5803 = true then ((ints_Make.f a0_1 a0_2).bind fun bt5804 => ((flyballref17_Norm.f false a0_1 a0_2).bind fun bt5807 => (if (bt5804.1 == bt5807.1 && (bt5804.2.1 == bt5807.2.1 && (bt5804.2.2 == bt5807.2.2))) = true then ((ints_Point.f a2).bind fun bt5810 => ((flyballref17_Norm.f false a2 a2).bind fun bt5813 => ((ints_Has.f a0_0 a0_1 a0_2 a2).bind fun t5816 => ((flyballref17_Has.f a0_0 a0_1 a0_2 a2).bind fun t5817 => (if (t5816 == t5817) = true then ((ints_Inside.f a0_0 a0_1 a0_2 a1_0 a1_1 a1_2).bind fun t5818 => ((flyballref17_Inside.f a0_0 a0_1 a0_2 a1_0 a1_1 a1_2).bind fun t5819 => ((ints_Join.f k (([(⟨a0_0, a0_1, a0_2⟩ : S23), (⟨a1_0, a1_1, a1_2⟩ : S23)] : List (S23)))).bind fun bt5823 => ((flyballref17_Join.f a0_0 a0_1 a0_2 a1_0 a1_1 a1_2).bind fun bt5826 => (if (bt5823.1 == bt5826.1 && (bt5823.2.1 == bt5826.2.1 && (bt5823.2.2 == bt5826.2.2))) = true then ((ints_Meet.f k a0_0 a0_1 a0_2 a1_0 a1_1 a1_2).bind fun bt5829 => ((flyballref17_Meet.f a0_0 a0_1 a0_2 a1_0 a1_1 a1_2).bind fun bt5832 => (if (bt5829.1 == bt5832.1 && (bt5829.2.1 == bt5832.2.1 && (bt5829.2.2 == bt5832.2.2))) = true then ((ints_Join.f k (([(⟨a0_0, a0_1, a0_2⟩ : S23)] : List (S23)))).bind fun bt5838 => ((flyballref17_Norm.f a0_0 a0_1 a0_2).bind fun bt5841 => (if (bt5838.1 == bt5841.1 && (bt5838.2.1 == bt5841.2.1 && (bt5838.2.2 == bt5841.2.2))) = true then ((ints_Join.f k ([] : List (S23))).bind fun bt5844 => (if (bt5810.1 == bt5813.1 && (bt5810.2.1 == bt5813.2.1 && (bt5810.2.2 == bt5813.2.2))) = true then (if (t5818 == t5819) = true then (some (bt5844.1 && (bt5844.2.1 == 0 && (bt5844.2.2 == 0)))) else (none)) else (none))) else (none)))) else (none)))) else (none)))))) else (none)))))) else (none)))) else (some false))
theorem flyballlaw17_IntsMakes.mono : ∀ a0 a1 a2 a3 a4 a5 a6 k, LeO (flyballlaw17_IntsMakes.f k a0 a1 a2 a3 a4 a5 a6) (flyballlaw17_IntsMakes.f (k + 1) a0 a1 a2 a3 a4 a5 a6) := by
  intro a0 a1 a2 a3 a4 a5 a6 k
  unfold flyballlaw17_IntsMakes.f
  repeat' first
      | (with_reducible exact flyballlaw17_works.mono _)
      | (with_reducible exact ints_Join.mono _ _)
      | (with_reducible exact ints_Meet.mono _ _ _ _ _ _ _)
      | (with_reducible exact LeO.refl _)
      | (with_reducible exact LeO.none _)
      | (with_reducible refine LeO.ite ?_ ?_)
      | (with_reducible refine LeO.bind ?_ (fun _ => ?_))
      | exact flyballlaw17_works.mono _
      | exact ints_Join.mono _ _
      | exact ints_Meet.mono _ _ _ _ _ _ _
      | exact LeO.none _
      | refine LeO.ite ?_ ?_
      | refine LeO.bind ?_ (fun _ => ?_)
def flyballlaw17_IntsMakes.T4 : Bool × List (List Nat × List Nat) := (true, [([], []), ([0], [0]), ([], []), ([2], [2]), ([1, 3], [1, 3]), ([], []), ([5], [5]), ([], []), ([7], [7]), ([6, 8], [6, 8]), ([9, 4], [9]), ([4, 10], [4, 10]), ([11, 10], [11]), ([12], [12]), ([13, 12, 12], [12, 13]), ([12], [12]), ([12], [12]), ([15, 16, 12], [12, 15, 16]), ([17, 14, 12], [12, 17]), ([14, 18, 12], [12, 14, 18]), ([12, 19], [12, 19]), ([20, 18, 0, 1, 2, 3, 4, 5, 6, 7, 8, 9, 10, 11, 12, 13, 14, 15, 16, 17, 18, 19, 20], [20])])
def flyballlaw17_IntsMakes.B4 : List Nat := [0, 1, 0, 4, 15, 0, 32, 0, 128, 480, 1023, 2047, 4095, 8191, 16383, 8191, 8191, 106495, 262143, 524287, 1048575, 2097151]
theorem flyballlaw17_IntsMakes.tab4 : rtab .any (opsOf Try.f7 4) = flyballlaw17_IntsMakes.T4 := by kernel_rfl
theorem flyballlaw17_IntsMakes.bits4 : waitsOk flyballlaw17_IntsMakes.T4.2 flyballlaw17_IntsMakes.B4 = true := by kernel_rfl
def flyballlaw17_IntsMakes.T5 : Bool × List (List Nat × List Nat) := (true, [([], []), ([], []), ([0, 1], [0, 1]), ([], []), ([], []), ([3, 4, 2], [3, 4]), ([2, 5], [2, 5]), ([6, 5], [6]), ([7], [7]), ([7], [7]), ([8, 9, 7, 7], [7, 8, 9]), ([7], [7]), ([7], [7]), ([11, 12, 10, 7], [7, 11, 12]), ([10, 13, 7], [7, 10, 13]), ([7, 14], [7, 14]), ([15, 13, 0, 1, 2, 3, 4, 5, 6, 7, 8, 9, 10, 11, 12, 13, 14, 15], [15])])
def flyballlaw17_IntsMakes.B5 : List Nat := [0, 0, 3, 0, 0, 31, 63, 127, 255, 255, 1023, 255, 255, 8191, 16383, 32767, 65535]
theorem flyballlaw17_IntsMakes.tab5 : rtab .any (opsOf Try.f7 5) = flyballlaw17_IntsMakes.T5 := by kernel_rfl
theorem flyballlaw17_IntsMakes.bits5 : waitsOk flyballlaw17_IntsMakes.T5.2 flyballlaw17_IntsMakes.B5 = true := by kernel_rfl
def flyballlaw17_IntsMakes.T6 : Bool × List (List Nat × List Nat) := (true, [([], []), ([], []), ([0, 1], [0, 1]), ([2], [2]), ([], []), ([], []), ([4, 5, 3], [4, 5]), ([3, 6], [3, 6]), ([7, 6], [7]), ([8], [8]), ([8], [8]), ([9, 10, 8, 8], [8, 9, 10]), ([8], [8]), ([8], [8]), ([12, 13, 11, 8], [8, 12, 13]), ([11, 14, 8], [8, 11, 14]), ([8, 15], [8, 15]), ([16, 14], [16]), ([17], [17]), ([18, 17], [17, 18]), ([19, 17, 17], [17, 19]), ([17], [17]), ([21, 20, 17], [17, 21]), ([20, 22, 17], [17, 20, 22]), ([17, 23], [17, 23]), ([24, 22], [24]), ([25, 25], [25]), ([25], [25]), ([26, 27, 25], [25, 26, 27]), ([25, 28], [25, 28]), ([29, 26, 0, 1, 2, 3, 4, 5, 6, 7, 8, 9, 10, 11, 12, 13, 14, 15, 16, 17, 18, 19, 20, 21, 22, 23, 24, 25, 26, 27, 28, 29], [29])])
def flyballlaw17_IntsMakes.B6 : List Nat := [0, 0, 3, 7, 0, 0, 63, 127, 255, 511, 511, 2047, 511, 511, 16383, 32767, 65535, 131071, 262143, 524287, 1048575, 262143, 4194303, 8388607, 16777215, 33554431, 67108863, 67108863, 268435455, 536870911, 1073741823]
theorem flyballlaw17_IntsMakes.tab6 : rtab .any (opsOf Try.f7 6) = flyballlaw17_IntsMakes.T6 := by kernel_rfl
theorem flyballlaw17_IntsMakes.bits6 : waitsOk flyballlaw17_IntsMakes.T6.2 flyballlaw17_IntsMakes.B6 = true := by kernel_rfl
set_option maxHeartbeats 8000000 in
set_option maxRecDepth 100000 in
theorem flyballlaw17_IntsMakes.calls (k : Nat) (a0_0 : Bool) (a0_1 : Int) (a0_2 : Int) (a1_0 : Bool) (a1_1 : Int) (a1_2 : Int) (a2 : Int) (r : Bool) (w : World) (h : flyballlaw17_IntsMakes.f k a0_0 a0_1 a0_2 a1_0 a1_1 a1_2 a2 = some r) :
    Calls Try.prog 7 #[.agg #[.bool a0_0, .int .i64 a0_1, .int .i64 a0_2], .agg #[.bool a1_0, .int .i64 a1_1, .int .i64 a1_2], .int .i64 a2] w fun e w' => e = .returned (.bool r) ∧ Below w.heap.size w w' := by
  have hu23 := Try.underlying23
  have HB := Aside0.mk (Below.refl w.heap.size w)
  have H := h
  clear h
  unfold flyballlaw17_IntsMakes.f at H
  obtain ⟨t5803, A40, H⟩ := Option.bind_eq_some_iff.mp H
  have A4 := Aside0.mk A40
  clear A40
  (try dsimp only at H)
  by_cases c5 : t5803 = true
  · subst c5
    rw [if_pos rfl] at H
    obtain ⟨⟨t5804, t5805, t5806⟩, A60, H⟩ := Option.bind_eq_some_iff.mp H
    have A6 := Aside0.mk A60
    clear A60
    (try dsimp only at H)
    obtain ⟨⟨t5807, t5808, t5809⟩, A70, H⟩ := Option.bind_eq_some_iff.mp H
    have A7 := Aside0.mk A70
    clear A70
    (try dsimp only at H)
    by_cases c8 : (t5804 == t5807 && (t5805 == t5808 && (t5806 == t5809))) = true
    · rw [if_pos c8] at H
      have c8b0 : (t5804 == t5807 && (t5805 == t5808 && (t5806 == t5809))) = true := c8
      (try (have c8b1 : decide (t5804 = t5807 && (t5805 == t5808 && (t5806 == t5809))) = true := by simpa using c8))
      (try (have c8b2 : (t5804 == t5807 && (t5805 == t5808 && (t5806 == t5809))) = true := by simpa using c8))
      clear c8
      obtain ⟨⟨t5810, t5811, t5812⟩, A90, H⟩ := Option.bind_eq_some_iff.mp H
      have A9 := Aside0.mk A90
      clear A90
      (try dsimp only at H)
      obtain ⟨⟨t5813, t5814, t5815⟩, A100, H⟩ := Option.bind_eq_some_iff.mp H
      have A10 := Aside0.mk A100
      clear A100
      (try dsimp only at H)
      obtain ⟨t5816, A110, H⟩ := Option.bind_eq_some_iff.mp H
      have A11 := Aside0.mk A110
      clear A110
      (try dsimp only at H)
      obtain ⟨t5817, A120, H⟩ := Option.bind_eq_some_iff.mp H
      have A12 := Aside0.mk A120
      clear A120
      (try dsimp only at H)
      by_cases c13 : (t5816 == t5817) = true
      · rw [if_pos c13] at H
        have c13b0 : (t5816 == t5817) = true := c13
        (try (have c13b1 : decide (t5816 = t5817) = true := by simpa using c13))
        (try (have c13b2 : (t5816 == t5817) = true := by simpa using c13))
        clear c13
        obtain ⟨t5818, A140, H⟩ := Option.bind_eq_some_iff.mp H
        have A14 := Aside0.mk A140
        clear A140
        (try dsimp only at H)
        obtain ⟨t5819, A150, H⟩ := Option.bind_eq_some_iff.mp H
        have A15 := Aside0.mk A150
        clear A150
        (try dsimp only at H)
        obtain ⟨y5820, hy5820⟩ : ∃ y_ : List (S23), y_ = (([(⟨a0_0, a0_1, a0_2⟩ : S23), (⟨a1_0, a1_1, a1_2⟩ : S23)] : List (S23))) := ⟨_, rfl⟩
        replace H : ((ints_Join.f k y5820).bind fun bt5823 => ((flyballref17_Join.f a0_0 a0_1 a0_2 a1_0 a1_1 a1_2).bind fun bt5826 => (if (bt5823.1 == bt5826.1 && (bt5823.2.1 == bt5826.2.1 && (bt5823.2.2 == bt5826.2.2))) = true then ((ints_Meet.f k a0_0 a0_1 a0_2 a1_0 a1_1 a1_2).bind fun bt5829 => ((flyballref17_Meet.f a0_0 a0_1 a0_2 a1_0 a1_1 a1_2).bind fun bt5832 => (if (bt5829.1 == bt5832.1 && (bt5829.2.1 == bt5832.2.1 && (bt5829.2.2 == bt5832.2.2))) = true then ((ints_Join.f k (([(⟨a0_0, a0_1, a0_2⟩ : S23)] : List (S23)))).bind fun bt5838 => ((flyballref17_Norm.f a0_0 a0_1 a0_2).bind fun bt5841 => (if (bt5838.1 == bt5841.1 && (bt5838.2.1 == bt5841.2.1 && (bt5838.2.2 == bt5841.2.2))) = true then ((ints_Join.f k ([] : List (S23))).bind fun bt5844 => (if (t5810 == t5813 && (t5811 == t5814 && (t5812 == t5815))) = true then (if (t5818 == t5819) = true then (some (bt5844.1 && (bt5844.2.1 == 0 && (bt5844.2.2 == 0)))) else (none)) else (none))) else (none)))) else (none)))) else (none)))) = some r := by first | (rw [hy5820]; with_reducible exact H) | (have H2_ := (Option.bind_some _ _).symm.trans H; rw [hy5820]; with_reducible exact H2_) | (have H2_ := (Option.bind_some _ _).symm.trans H; with_reducible exact H2_) | with_reducible exact H | (rw [hy5820]; exact H) | exact H
        have Ny5820 := Aside0.mk hy5820
        clear hy5820
        obtain ⟨⟨t5823, t5824, t5825⟩, A160, H⟩ := Option.bind_eq_some_iff.mp H
        have A16 := Aside0.mk A160
        clear A160
        (try dsimp only at H)
        obtain ⟨⟨t5826, t5827, t5828⟩, A170, H⟩ := Option.bind_eq_some_iff.mp H
        have A17 := Aside0.mk A170
        clear A170
        (try dsimp only at H)
        by_cases c18 : (t5823 == t5826 && (t5824 == t5827 && (t5825 == t5828))) = true
        · rw [if_pos c18] at H
          have c18b0 : (t5823 == t5826 && (t5824 == t5827 && (t5825 == t5828))) = true := c18
          (try (have c18b1 : decide (t5823 = t5826 && (t5824 == t5827 && (t5825 == t5828))) = true := by simpa using c18))
          (try (have c18b2 : (t5823 == t5826 && (t5824 == t5827 && (t5825 == t5828))) = true := by simpa using c18))
          clear c18
          obtain ⟨⟨t5829, t5830, t5831⟩, A190, H⟩ := Option.bind_eq_some_iff.mp H
          have A19 := Aside0.mk A190
          clear A190
          (try dsimp only at H)
          obtain ⟨⟨t5832, t5833, t5834⟩, A200, H⟩ := Option.bind_eq_some_iff.mp H
          have A20 := Aside0.mk A200
          clear A200
          (try dsimp only at H)
          by_cases c21 : (t5829 == t5832 && (t5830 == t5833 && (t5831 == t5834))) = true
          · rw [if_pos c21] at H
            have c21b0 : (t5829 == t5832 && (t5830 == t5833 && (t5831 == t5834))) = true := c21
            (try (have c21b1 : decide (t5829 = t5832 && (t5830 == t5833 && (t5831 == t5834))) = true := by simpa using c21))
            (try (have c21b2 : (t5829 == t5832 && (t5830 == t5833 && (t5831 == t5834))) = true := by simpa using c21))
            clear c21
            obtain ⟨y5835, hy5835⟩ : ∃ y_ : List (S23), y_ = (([(⟨a0_0, a0_1, a0_2⟩ : S23)] : List (S23))) := ⟨_, rfl⟩
            replace H : ((ints_Join.f k y5835).bind fun bt5838 => ((flyballref17_Norm.f a0_0 a0_1 a0_2).bind fun bt5841 => (if (bt5838.1 == bt5841.1 && (bt5838.2.1 == bt5841.2.1 && (bt5838.2.2 == bt5841.2.2))) = true then ((ints_Join.f k ([] : List (S23))).bind fun bt5844 => (if (t5810 == t5813 && (t5811 == t5814 && (t5812 == t5815))) = true then (if (t5818 == t5819) = true then (some (bt5844.1 && (bt5844.2.1 == 0 && (bt5844.2.2 == 0)))) else (none)) else (none))) else (none)))) = some r := by first | (rw [hy5835]; with_reducible exact H) | (have H2_ := (Option.bind_some _ _).symm.trans H; rw [hy5835]; with_reducible exact H2_) | (have H2_ := (Option.bind_some _ _).symm.trans H; with_reducible exact H2_) | with_reducible exact H | (rw [hy5835]; exact H) | exact H
            have Ny5835 := Aside0.mk hy5835
            clear hy5835
            obtain ⟨⟨t5838, t5839, t5840⟩, A220, H⟩ := Option.bind_eq_some_iff.mp H
            have A22 := Aside0.mk A220
            clear A220
            (try dsimp only at H)
            obtain ⟨⟨t5841, t5842, t5843⟩, A230, H⟩ := Option.bind_eq_some_iff.mp H
            have A23 := Aside0.mk A230
            clear A230
            (try dsimp only at H)
            by_cases c24 : (t5838 == t5841 && (t5839 == t5842 && (t5840 == t5843))) = true
            · rw [if_pos c24] at H
              have c24b0 : (t5838 == t5841 && (t5839 == t5842 && (t5840 == t5843))) = true := c24
              (try (have c24b1 : decide (t5838 = t5841 && (t5839 == t5842 && (t5840 == t5843))) = true := by simpa using c24))
              (try (have c24b2 : (t5838 == t5841 && (t5839 == t5842 && (t5840 == t5843))) = true := by simpa using c24))
              clear c24
              obtain ⟨⟨t5844, t5845, t5846⟩, A250, H⟩ := Option.bind_eq_some_iff.mp H
              have A25 := Aside0.mk A250
              clear A250
              (try dsimp only at H)
              by_cases c26 : (t5810 == t5813 && (t5811 == t5814 && (t5812 == t5815))) = true
              · rw [if_pos c26] at H
                have c26b0 : (t5810 == t5813 && (t5811 == t5814 && (t5812 == t5815))) = true := c26
                (try (have c26b1 : decide (t5810 = t5813 && (t5811 == t5814 && (t5812 == t5815))) = true := by simpa using c26))
                (try (have c26b2 : (t5810 == t5813 && (t5811 == t5814 && (t5812 == t5815))) = true := by simpa using c26))
                clear c26
                by_cases c27 : (t5818 == t5819) = true
                · rw [if_pos c27] at H
                  have c27b0 : (t5818 == t5819) = true := c27
                  (try (have c27b1 : decide (t5818 = t5819) = true := by simpa using c27))
                  (try (have c27b2 : (t5818 == t5819) = true := by simpa using c27))
                  clear c27
                  obtain rfl := Option.some.inj H
                  go_enter Try.func7, Try.ntmps7
                  try go_wp2_with (first | ((with_reducible refine gate_dst (N := 3) rfl ?_); (try (refine gate_guard (by rfl) ?_; dsimp only)); refine kx 3 #[.bool a0_0, .int .i64 a0_1, .int .i64 a0_2] 23 ?_; intro gb5801 hg w28 hbox hb; have BK5801 := Aside0.mk (hbox); have GW5801 := kg HB hg; have GE5801 := kg HB hg; replace HB := kh HB hb; clear hb hbox hg) | ((with_reducible refine gate_dst (N := 4) rfl ?_); (try (refine gate_guard (by rfl) ?_; dsimp only)); refine kx 4 #[.bool a1_0, .int .i64 a1_1, .int .i64 a1_2] 23 ?_; intro gb5802 hg w29 hbox hb; have BK5802 := Aside0.mk (hbox); have GW5802 := kg HB hg; have GE5802 := kg HB hg; have NB5801_5802 := kn BK5801 hg; have NB5802_5801 := km BK5801 hg; replace BK5801 := kb BK5801 hb; replace HB := kh HB hb; clear hb hbox hg) | ((with_reducible refine gate_callee (f := 38) rfl ?_); refine kc (some 11) Try.func38 #[] (flyballlaw17_works.calls k  true _ A4.out) ?_; intro w30 hb; replace BK5801 := kb BK5801 hb; replace BK5802 := kb BK5802 hb; replace HB := kh HB hb; (try clear hb); (try clear hb2); (try clear hk); (try clear hi)))
                  replace BK5801 := Aside0.mk (blk_drew BK5801.out)
                  replace BK5802 := Aside0.mk (blk_drew BK5802.out)
                  replace HB := Aside0.mk (below_drew1 HB.out)
                  refine start_ (n := 22) (S := fun w' => w'.cell? ⟨gb5801, 0, none⟩ = some (.bool a0_0) ∧ w'.cell? ⟨gb5801, 1, none⟩ = some (.int .i64 a0_1) ∧ w'.cell? ⟨gb5801, 2, none⟩ = some (.int .i64 a0_2)) (ds := []) #[false, false, false, false, false, false, false, false, false, false, false, false, false, false, false, false, false, false, false, false, false, false] (by kernel_rfl) rfl rfl ⟨bc BK5801 0, bc BK5801 1, bc BK5801 2⟩ (fun hHeld => ?_); refine with_tabW flyballlaw17_IntsMakes.tab4 flyballlaw17_IntsMakes.bits4 (fun HT_ HW_ => ?_)
                  generalize w30.drew = w31 at BK5801 BK5802 HB hHeld ⊢
                  refine pur 0 (some 14) #[true, false, false, false, false, false, false, false, false, false, false, false, false, false, false, false, false, false, false, false, false, false] (any_of HT_.out (by kernel_rfl)) ?_
                  refine pur 2 (some 16) #[true, false, true, false, false, false, false, false, false, false, false, false, false, false, false, false, false, false, false, false, false, false] (any_of HT_.out (by kernel_rfl)) ?_
                  refine pur 5 (some 19) #[true, false, true, false, false, true, false, false, false, false, false, false, false, false, false, false, false, false, false, false, false, false] (any_of HT_.out (by kernel_rfl)) ?_
                  refine pur 7 (some 21) #[true, false, true, false, false, true, false, true, false, false, false, false, false, false, false, false, false, false, false, false, false, false] (any_of HT_.out (by kernel_rfl)) ?_
                  refine tak 1 (some 15) #[true, true, true, false, false, true, false, true, false, false, false, false, false, false, false, false, false, false, false, false, false, false] (take_ofW HT_.out HW_.out (by kernel_rfl)) hHeld ?_
                  refine tak 3 (some 17) #[true, true, true, true, false, true, false, true, false, false, false, false, false, false, false, false, false, false, false, false, false, false] (take_ofW HT_.out HW_.out (by kernel_rfl)) hHeld ?_
                  refine tak 6 (some 20) #[true, true, true, true, false, true, true, true, false, false, false, false, false, false, false, false, false, false, false, false, false, false] (take_ofW HT_.out HW_.out (by kernel_rfl)) hHeld ?_
                  refine tak 8 (some 22) #[true, true, true, true, false, true, true, true, true, false, false, false, false, false, false, false, false, false, false, false, false, false] (take_ofW HT_.out HW_.out (by kernel_rfl)) hHeld ?_
                  refine pur 9 (some 23) #[true, true, true, true, false, true, true, true, true, true, false, false, false, false, false, false, false, false, false, false, false, false] (any_of HT_.out (by kernel_rfl)) ?_
                  refine one_ (i := 4) (N := some 18) #[true, true, true, true, true, true, true, true, true, true, false, false, false, false, false, false, false, false, false, false, false, false] rfl rfl (one_of HT_.out (by kernel_rfl)) (by decide) (fun K hK => ?_)
                  refine gc Try.func37 #[.int .i64 a0_1, .int .i64 a0_2] (ints_Make.calls a0_1 a0_2 t5804 t5805 t5806 _ A6.out) ?_
                  intro w32 hb
                  replace BK5801 := kb BK5801 hb
                  replace BK5802 := kb BK5802 hb
                  replace HB := kh HB hb
                  (try clear hb)
                  (try clear hb2)
                  (try clear hk)
                  (try clear hi)
                  refine hK.out _ _ ⟨bc BK5801 0, bc BK5801 1, bc BK5801 2⟩ (fun hHeld => ?_)
                  clear hK K
                  refine nrm (some 18) ?_
                  refine one_ (i := 10) (N := some 24) #[true, true, true, true, true, true, true, true, true, true, true, false, false, false, false, false, false, false, false, false, false, false] rfl rfl (one_of HT_.out (by kernel_rfl)) (by decide) (fun K hK => ?_)
                  refine gc Try.func39 #[.agg #[.bool false, .int .i64 a0_1, .int .i64 a0_2]] (flyballref17_Norm.calls false a0_1 a0_2 t5807 t5808 t5809 _ A7.out) ?_
                  intro w33 hb
                  replace BK5801 := kb BK5801 hb
                  replace BK5802 := kb BK5802 hb
                  replace HB := kh HB hb
                  (try clear hb)
                  (try clear hb2)
                  (try clear hk)
                  (try clear hi)
                  refine hK.out _ _ ⟨bc BK5801 0, bc BK5801 1, bc BK5801 2⟩ (fun hHeld => ?_)
                  clear hK K
                  refine nrm (some 24) ?_
                  refine pur 11 (some 25) #[true, true, true, true, true, true, true, true, true, true, true, true, false, false, false, false, false, false, false, false, false, false] (any_of HT_.out (by kernel_rfl)) ?_
                  refine pur 12 (some 26) #[true, true, true, true, true, true, true, true, true, true, true, true, true, false, false, false, false, false, false, false, false, false] (any_of HT_.out (by kernel_rfl)) ?_
                  refine pur 13 (some 27) #[true, true, true, true, true, true, true, true, true, true, true, true, true, true, false, false, false, false, false, false, false, false] (any_of HT_.out (by kernel_rfl)) ?_
                  refine pur 15 (some 29) #[true, true, true, true, true, true, true, true, true, true, true, true, true, true, false, true, false, false, false, false, false, false] (any_of HT_.out (by kernel_rfl)) ?_
                  refine pur 16 (some 30) #[true, true, true, true, true, true, true, true, true, true, true, true, true, true, false, true, true, false, false, false, false, false] (any_of HT_.out (by kernel_rfl)) ?_
                  refine pur 17 (some 31) #[true, true, true, true, true, true, true, true, true, true, true, true, true, true, false, true, true, true, false, false, false, false] (any_of HT_.out (by kernel_rfl)) ?_
                  refine one_ (i := 14) (N := some 28) #[true, true, true, true, true, true, true, true, true, true, true, true, true, true, true, true, true, true, false, false, false, false] rfl rfl (one_of HT_.out (by kernel_rfl)) (by decide) (fun K hK => ?_)
                  refine gc Try.func35 #[.int .i64 a2] (ints_Point.calls a2 t5810 t5811 t5812 _ A9.out) ?_
                  intro w34 hb
                  replace BK5801 := kb BK5801 hb
                  replace BK5802 := kb BK5802 hb
                  replace HB := kh HB hb
                  (try clear hb)
                  (try clear hb2)
                  (try clear hk)
                  (try clear hi)
                  refine hK.out _ _ ⟨bc BK5801 0, bc BK5801 1, bc BK5801 2⟩ (fun hHeld => ?_)
                  clear hK K
                  refine nrm (some 28) ?_
                  refine one_ (i := 18) (N := some 32) #[true, true, true, true, true, true, true, true, true, true, true, true, true, true, true, true, true, true, true, false, false, false] rfl rfl (one_of HT_.out (by kernel_rfl)) (by decide) (fun K hK => ?_)
                  refine gc Try.func39 #[.agg #[.bool false, .int .i64 a2, .int .i64 a2]] (flyballref17_Norm.calls false a2 a2 t5813 t5814 t5815 _ A10.out) ?_
                  intro w35 hb
                  replace BK5801 := kb BK5801 hb
                  replace BK5802 := kb BK5802 hb
                  replace HB := kh HB hb
                  (try clear hb)
                  (try clear hb2)
                  (try clear hk)
                  (try clear hi)
                  refine hK.out _ _ ⟨bc BK5801 0, bc BK5801 1, bc BK5801 2⟩ (fun hHeld => ?_)
                  clear hK K
                  refine nrm (some 32) ?_
                  refine pur 19 (some 33) #[true, true, true, true, true, true, true, true, true, true, true, true, true, true, true, true, true, true, true, true, false, false] (any_of HT_.out (by kernel_rfl)) ?_
                  refine pur 20 (some 34) #[true, true, true, true, true, true, true, true, true, true, true, true, true, true, true, true, true, true, true, true, true, false] (any_of HT_.out (by kernel_rfl)) ?_
                  refine pur 21 (some 8) #[true, true, true, true, true, true, true, true, true, true, true, true, true, true, true, true, true, true, true, true, true, true] (any_of HT_.out (by kernel_rfl)) ?_
                  refine done_ (done_of HT_.out (by kernel_rfl)) ?_
                  try go_wp2
                  replace BK5801 := Aside0.mk (blk_drew BK5801.out)
                  replace BK5802 := Aside0.mk (blk_drew BK5802.out)
                  replace HB := Aside0.mk (below_drew1 HB.out)
                  refine start_ (n := 17) (S := fun w' => w'.cell? ⟨gb5801, 0, none⟩ = some (.bool a0_0) ∧ w'.cell? ⟨gb5801, 1, none⟩ = some (.int .i64 a0_1) ∧ w'.cell? ⟨gb5801, 2, none⟩ = some (.int .i64 a0_2) ∧ w'.cell? ⟨gb5802, 0, none⟩ = some (.bool a1_0) ∧ w'.cell? ⟨gb5802, 1, none⟩ = some (.int .i64 a1_1) ∧ w'.cell? ⟨gb5802, 2, none⟩ = some (.int .i64 a1_2)) (ds := []) #[false, false, false, false, false, false, false, false, false, false, false, false, false, false, false, false, false] (by kernel_rfl) rfl rfl ⟨bc BK5801 0, bc BK5801 1, bc BK5801 2, bc BK5802 0, bc BK5802 1, bc BK5802 2⟩ (fun hHeld => ?_); refine with_tabW flyballlaw17_IntsMakes.tab5 flyballlaw17_IntsMakes.bits5 (fun HT_ HW_ => ?_)
                  generalize w35.drew = w36 at BK5801 BK5802 HB hHeld ⊢
                  refine pur 1 (some 36) #[false, true, false, false, false, false, false, false, false, false, false, false, false, false, false, false, false] (any_of HT_.out (by kernel_rfl)) ?_
                  refine pur 4 (some 39) #[false, true, false, false, true, false, false, false, false, false, false, false, false, false, false, false, false] (any_of HT_.out (by kernel_rfl)) ?_
                  refine tak 0 (some 35) #[true, true, false, false, true, false, false, false, false, false, false, false, false, false, false, false, false] (take_ofW HT_.out HW_.out (by kernel_rfl)) hHeld ?_
                  refine tak 3 (some 38) #[true, true, false, true, true, false, false, false, false, false, false, false, false, false, false, false, false] (take_ofW HT_.out HW_.out (by kernel_rfl)) hHeld ?_
                  refine one_ (i := 2) (N := some 37) #[true, true, true, true, true, false, false, false, false, false, false, false, false, false, false, false, false] rfl rfl (one_of HT_.out (by kernel_rfl)) (by decide) (fun K hK => ?_)
                  refine gc Try.func36 #[.agg #[.bool a0_0, .int .i64 a0_1, .int .i64 a0_2], .int .i64 a2] (ints_Has.calls a0_0 a0_1 a0_2 a2 t5816 _ A11.out) ?_
                  intro w37 hb
                  replace BK5801 := kb BK5801 hb
                  replace BK5802 := kb BK5802 hb
                  replace HB := kh HB hb
                  (try clear hb)
                  (try clear hb2)
                  (try clear hk)
                  (try clear hi)
                  refine hK.out _ _ ⟨bc BK5801 0, bc BK5801 1, bc BK5801 2, bc BK5802 0, bc BK5802 1, bc BK5802 2⟩ (fun hHeld => ?_)
                  clear hK K
                  refine nrm (some 37) ?_
                  refine one_ (i := 5) (N := some 40) #[true, true, true, true, true, true, false, false, false, false, false, false, false, false, false, false, false] rfl rfl (one_of HT_.out (by kernel_rfl)) (by decide) (fun K hK => ?_)
                  refine gc Try.func40 #[.agg #[.bool a0_0, .int .i64 a0_1, .int .i64 a0_2], .int .i64 a2] (flyballref17_Has.calls a0_0 a0_1 a0_2 a2 t5817 _ A12.out) ?_
                  intro w38 hb
                  replace BK5801 := kb BK5801 hb
                  replace BK5802 := kb BK5802 hb
                  replace HB := kh HB hb
                  (try clear hb)
                  (try clear hb2)
                  (try clear hk)
                  (try clear hi)
                  refine hK.out _ _ ⟨bc BK5801 0, bc BK5801 1, bc BK5801 2, bc BK5802 0, bc BK5802 1, bc BK5802 2⟩ (fun hHeld => ?_)
                  clear hK K
                  refine nrm (some 40) ?_
                  refine pur 6 (some 41) #[true, true, true, true, true, true, true, false, false, false, false, false, false, false, false, false, false] (any_of HT_.out (by kernel_rfl)) ?_
                  refine pur 7 (some 42) #[true, true, true, true, true, true, true, true, false, false, false, false, false, false, false, false, false] (any_of HT_.out (by kernel_rfl)) ?_
                  refine tak 8 (some 43) #[true, true, true, true, true, true, true, true, true, false, false, false, false, false, false, false, false] (take_ofW HT_.out HW_.out (by kernel_rfl)) hHeld ?_
                  refine tak 9 (some 44) #[true, true, true, true, true, true, true, true, true, true, false, false, false, false, false, false, false] (take_ofW HT_.out HW_.out (by kernel_rfl)) hHeld ?_
                  refine tak 11 (some 46) #[true, true, true, true, true, true, true, true, true, true, false, true, false, false, false, false, false] (take_ofW HT_.out HW_.out (by kernel_rfl)) hHeld ?_
                  refine tak 12 (some 47) #[true, true, true, true, true, true, true, true, true, true, false, true, true, false, false, false, false] (take_ofW HT_.out HW_.out (by kernel_rfl)) hHeld ?_
                  refine one_ (i := 10) (N := some 45) #[true, true, true, true, true, true, true, true, true, true, true, true, true, false, false, false, false] rfl rfl (one_of HT_.out (by kernel_rfl)) (by decide) (fun K hK => ?_)
                  refine gc Try.func41 #[.agg #[.bool a0_0, .int .i64 a0_1, .int .i64 a0_2], .agg #[.bool a1_0, .int .i64 a1_1, .int .i64 a1_2]] (ints_Inside.calls a0_0 a0_1 a0_2 a1_0 a1_1 a1_2 t5818 _ A14.out) ?_
                  intro w39 hb
                  replace BK5801 := kb BK5801 hb
                  replace BK5802 := kb BK5802 hb
                  replace HB := kh HB hb
                  (try clear hb)
                  (try clear hb2)
                  (try clear hk)
                  (try clear hi)
                  refine hK.out _ _ ⟨bc BK5801 0, bc BK5801 1, bc BK5801 2, bc BK5802 0, bc BK5802 1, bc BK5802 2⟩ (fun hHeld => ?_)
                  clear hK K
                  refine nrm (some 45) ?_
                  refine one_ (i := 13) (N := some 48) #[true, true, true, true, true, true, true, true, true, true, true, true, true, true, false, false, false] rfl rfl (one_of HT_.out (by kernel_rfl)) (by decide) (fun K hK => ?_)
                  refine gc Try.func42 #[.agg #[.bool a0_0, .int .i64 a0_1, .int .i64 a0_2], .agg #[.bool a1_0, .int .i64 a1_1, .int .i64 a1_2]] (flyballref17_Inside.calls a0_0 a0_1 a0_2 a1_0 a1_1 a1_2 t5819 _ A15.out) ?_
                  intro w40 hb
                  replace BK5801 := kb BK5801 hb
                  replace BK5802 := kb BK5802 hb
                  replace HB := kh HB hb
                  (try clear hb)
                  (try clear hb2)
                  (try clear hk)
                  (try clear hi)
                  refine hK.out _ _ ⟨bc BK5801 0, bc BK5801 1, bc BK5801 2, bc BK5802 0, bc BK5802 1, bc BK5802 2⟩ (fun hHeld => ?_)
                  clear hK K
                  refine nrm (some 48) ?_
                  refine pur 14 (some 49) #[true, true, true, true, true, true, true, true, true, true, true, true, true, true, true, false, false] (any_of HT_.out (by kernel_rfl)) ?_
                  refine pur 15 (some 50) #[true, true, true, true, true, true, true, true, true, true, true, true, true, true, true, true, false] (any_of HT_.out (by kernel_rfl)) ?_
                  refine pur 16 (some 9) #[true, true, true, true, true, true, true, true, true, true, true, true, true, true, true, true, true] (any_of HT_.out (by kernel_rfl)) ?_
                  refine done_ (done_of HT_.out (by kernel_rfl)) ?_
                  try go_wp2
                  replace BK5801 := Aside0.mk (blk_drew BK5801.out)
                  replace BK5802 := Aside0.mk (blk_drew BK5802.out)
                  replace HB := Aside0.mk (below_drew1 HB.out)
                  refine start_ (n := 31) (S := fun w' => w'.cell? ⟨gb5801, 0, none⟩ = some (.bool a0_0) ∧ w'.cell? ⟨gb5801, 1, none⟩ = some (.int .i64 a0_1) ∧ w'.cell? ⟨gb5801, 2, none⟩ = some (.int .i64 a0_2) ∧ w'.cell? ⟨gb5802, 0, none⟩ = some (.bool a1_0) ∧ w'.cell? ⟨gb5802, 1, none⟩ = some (.int .i64 a1_1) ∧ w'.cell? ⟨gb5802, 2, none⟩ = some (.int .i64 a1_2)) (ds := []) #[false, false, false, false, false, false, false, false, false, false, false, false, false, false, false, false, false, false, false, false, false, false, false, false, false, false, false, false, false, false, false] (by kernel_rfl) rfl rfl ⟨bc BK5801 0, bc BK5801 1, bc BK5801 2, bc BK5802 0, bc BK5802 1, bc BK5802 2⟩ (fun hHeld => ?_); refine with_tabW flyballlaw17_IntsMakes.tab6 flyballlaw17_IntsMakes.bits6 (fun HT_ HW_ => ?_)
                  generalize w40.drew = w41 at BK5801 BK5802 HB hHeld ⊢
                  refine tak 0 (some 51) #[true, false, false, false, false, false, false, false, false, false, false, false, false, false, false, false, false, false, false, false, false, false, false, false, false, false, false, false, false, false, false] (take_ofW HT_.out HW_.out (by kernel_rfl)) hHeld ?_
                  refine tak 1 (some 52) #[true, true, false, false, false, false, false, false, false, false, false, false, false, false, false, false, false, false, false, false, false, false, false, false, false, false, false, false, false, false, false] (take_ofW HT_.out HW_.out (by kernel_rfl)) hHeld ?_
                  refine tak 4 (some 55) #[true, true, false, false, true, false, false, false, false, false, false, false, false, false, false, false, false, false, false, false, false, false, false, false, false, false, false, false, false, false, false] (take_ofW HT_.out HW_.out (by kernel_rfl)) hHeld ?_
                  refine tak 5 (some 56) #[true, true, false, false, true, true, false, false, false, false, false, false, false, false, false, false, false, false, false, false, false, false, false, false, false, false, false, false, false, false, false] (take_ofW HT_.out HW_.out (by kernel_rfl)) hHeld ?_
                  refine one_ (i := 2) (N := some 53) #[true, true, true, false, true, true, false, false, false, false, false, false, false, false, false, false, false, false, false, false, false, false, false, false, false, false, false, false, false, false, false] rfl rfl (one_of HT_.out (by kernel_rfl)) (by decide) (fun K hK => ?_)
                  refine Kd.R_lit_step k23 _ 23 ?hg (N := 53) ?hd (xs := ([(⟨a0_0, a0_1, a0_2⟩ : S23), (⟨a1_0, a1_1, a1_2⟩ : S23)] : List (S23))) (inner := [.bool a0_0, .int .i64 a0_1, .int .i64 a0_2, .bool a1_0, .int .i64 a1_1, .int .i64 a1_2]) (ok := fun _ => True) (okp := fun _ => True) ?hr ?hp (fun _ hk => hk) trivial (Below.refl _ _) (Nat.le_refl _) (by simp) ?_; (case hd => rfl); (case hg => rfl); (case hr => first | (go_simp; done) | (go_simp; rfl)); (case hp => exact (Reps.c3 (show Kd.M k23 _ _ _ (⟨a0_0, a0_1, a0_2⟩ : S23) [.bool a0_0, .int .i64 a0_1, .int .i64 a0_2] from (k23_mkM _ _ _ (⟨a0_0, a0_1, a0_2⟩ : S23) )) (Reps.c3 (show Kd.M k23 _ _ _ (⟨a1_0, a1_1, a1_2⟩ : S23) [.bool a1_0, .int .i64 a1_1, .int .i64 a1_2] from (k23_mkM _ _ _ (⟨a1_0, a1_1, a1_2⟩ : S23) )) (Reps.none _ _))))
                  intro v5821 w42 ho43 hb hg_ hnew_
                  clear hg_ hnew_
                  (first | rw [← Ny5820.out] at ho43 | (simp only [Int.reduceToNat] at ho43; rw [← Ny5820.out] at ho43))
                  have HO5822 := Aside0.mk (Kd.R_lower (Kd.R_newB (Kd.R_newB ho43 (g := gb5801) (o := .cells #[.bool a0_0, .int .i64 a0_1, .int .i64 a0_2] 23 (0, 0)) (pk BK5801)) (g := gb5802) (o := .cells #[.bool a1_0, .int .i64 a1_1, .int .i64 a1_2] 23 (0, 0)) (pk BK5802)) (below_size (pl HB)))
                  replace BK5801 := kb BK5801 hb
                  replace BK5802 := kb BK5802 hb
                  replace HB := kh HB hb
                  clear hb ho43
                  obtain ⟨Ao44, co44, eo44⟩ := Kd.R_slice HO5822.out
                  (first | subst eo44 | (injection eo44 with f1_ f2_ f3_; have f4_ := f1_.symm; have f5_ := f3_.symm; clear f1_ f2_ f3_; subst f4_; subst f5_))
                  refine hK.out _ _ ⟨bc BK5801 0, bc BK5801 1, bc BK5801 2, bc BK5802 0, bc BK5802 1, bc BK5802 2⟩ (fun hHeld => ?_)
                  clear hK K
                  refine nrm (some 53) ?_
                  refine one_ (i := 3) (N := some 54) #[true, true, true, true, true, true, false, false, false, false, false, false, false, false, false, false, false, false, false, false, false, false, false, false, false, false, false, false, false, false, false] rfl rfl (one_of HT_.out (by kernel_rfl)) (by decide) (fun K hK => ?_)
                  refine goes_ Try.func43 (by kernel_rfl) rfl #[.slice Ao44 y5820.length co44] (by rfl) rfl rfl pa ?_
                  with_reducible refine (ints_Join.calls k _ _ y5820 t5823 t5824 t5825 _ ?side1 ?side2 A16.out).mono ?_
                  (case side1 => repeat (first | exact (Kd.R_reads' HO5822.out).2.2 | (with_reducible refine Kd.C_alloc ?_ _) | (with_reducible refine Kd.C_drewN ?_ _) | (with_reducible refine Kd.C_drew ?_)))
                  (case side2 => exact (Kd.R_reads' HO5822.out).2.1)
                  rintro e w45 ⟨rfl, hb⟩
                  refine ⟨_, rfl, ?_⟩
                  have n0_ := Aside0.mk (Kd.R_below (by (with_reducible repeat (first | apply Kd.R_alloc | apply Kd.R_drewN | apply Kd.R_drew)); exact HO5822.out) hb)
                  have n1_ := kb BK5801 hb
                  have n2_ := kb BK5802 hb
                  have n3_ := kh HB hb
                  clear HO5822
                  clear BK5801
                  clear BK5802
                  clear HB
                  have HO5822 := n0_
                  have BK5801 := n1_
                  have BK5802 := n2_
                  have HB := n3_
                  clear n0_ n1_ n2_ n3_
                  (try clear hb)
                  (try clear hb2)
                  (try clear hk)
                  (try clear hi)
                  refine hK.out _ _ ⟨bc BK5801 0, bc BK5801 1, bc BK5801 2, bc BK5802 0, bc BK5802 1, bc BK5802 2⟩ (fun hHeld => ?_)
                  clear hK K
                  refine nrm (some 54) ?_
                  refine one_ (i := 6) (N := some 57) #[true, true, true, true, true, true, true, false, false, false, false, false, false, false, false, false, false, false, false, false, false, false, false, false, false, false, false, false, false, false, false] rfl rfl (one_of HT_.out (by kernel_rfl)) (by decide) (fun K hK => ?_)
                  refine gc Try.func44 #[.agg #[.bool a0_0, .int .i64 a0_1, .int .i64 a0_2], .agg #[.bool a1_0, .int .i64 a1_1, .int .i64 a1_2]] (flyballref17_Join.calls a0_0 a0_1 a0_2 a1_0 a1_1 a1_2 t5826 t5827 t5828 _ A17.out) ?_
                  intro w46 hb
                  have n0_ := Aside0.mk (Kd.R_below (by (with_reducible repeat (first | apply Kd.R_alloc | apply Kd.R_drewN | apply Kd.R_drew)); exact HO5822.out) hb)
                  have n1_ := kb BK5801 hb
                  have n2_ := kb BK5802 hb
                  have n3_ := kh HB hb
                  clear HO5822
                  clear BK5801
                  clear BK5802
                  clear HB
                  have HO5822 := n0_
                  have BK5801 := n1_
                  have BK5802 := n2_
                  have HB := n3_
                  clear n0_ n1_ n2_ n3_
                  (try clear hb)
                  (try clear hb2)
                  (try clear hk)
                  (try clear hi)
                  refine hK.out _ _ ⟨bc BK5801 0, bc BK5801 1, bc BK5801 2, bc BK5802 0, bc BK5802 1, bc BK5802 2⟩ (fun hHeld => ?_)
                  clear hK K
                  refine nrm (some 57) ?_
                  refine pur 7 (some 58) #[true, true, true, true, true, true, true, true, false, false, false, false, false, false, false, false, false, false, false, false, false, false, false, false, false, false, false, false, false, false, false] (any_of HT_.out (by kernel_rfl)) ?_
                  refine pur 8 (some 59) #[true, true, true, true, true, true, true, true, true, false, false, false, false, false, false, false, false, false, false, false, false, false, false, false, false, false, false, false, false, false, false] (any_of HT_.out (by kernel_rfl)) ?_
                  refine tak 9 (some 60) #[true, true, true, true, true, true, true, true, true, true, false, false, false, false, false, false, false, false, false, false, false, false, false, false, false, false, false, false, false, false, false] (take_ofW HT_.out HW_.out (by kernel_rfl)) hHeld ?_
                  refine tak 10 (some 61) #[true, true, true, true, true, true, true, true, true, true, true, false, false, false, false, false, false, false, false, false, false, false, false, false, false, false, false, false, false, false, false] (take_ofW HT_.out HW_.out (by kernel_rfl)) hHeld ?_
                  refine tak 12 (some 63) #[true, true, true, true, true, true, true, true, true, true, true, false, true, false, false, false, false, false, false, false, false, false, false, false, false, false, false, false, false, false, false] (take_ofW HT_.out HW_.out (by kernel_rfl)) hHeld ?_
                  refine tak 13 (some 64) #[true, true, true, true, true, true, true, true, true, true, true, false, true, true, false, false, false, false, false, false, false, false, false, false, false, false, false, false, false, false, false] (take_ofW HT_.out HW_.out (by kernel_rfl)) hHeld ?_
                  refine one_ (i := 11) (N := some 62) #[true, true, true, true, true, true, true, true, true, true, true, true, true, true, false, false, false, false, false, false, false, false, false, false, false, false, false, false, false, false, false] rfl rfl (one_of HT_.out (by kernel_rfl)) (by decide) (fun K hK => ?_)
                  refine gc Try.func45 #[.agg #[.bool a0_0, .int .i64 a0_1, .int .i64 a0_2], .agg #[.bool a1_0, .int .i64 a1_1, .int .i64 a1_2]] (ints_Meet.calls k a0_0 a0_1 a0_2 a1_0 a1_1 a1_2 t5829 t5830 t5831 _ A19.out) ?_
                  intro w47 hb
                  have n0_ := Aside0.mk (Kd.R_below (by (with_reducible repeat (first | apply Kd.R_alloc | apply Kd.R_drewN | apply Kd.R_drew)); exact HO5822.out) hb)
                  have n1_ := kb BK5801 hb
                  have n2_ := kb BK5802 hb
                  have n3_ := kh HB hb
                  clear HO5822
                  clear BK5801
                  clear BK5802
                  clear HB
                  have HO5822 := n0_
                  have BK5801 := n1_
                  have BK5802 := n2_
                  have HB := n3_
                  clear n0_ n1_ n2_ n3_
                  (try clear hb)
                  (try clear hb2)
                  (try clear hk)
                  (try clear hi)
                  refine hK.out _ _ ⟨bc BK5801 0, bc BK5801 1, bc BK5801 2, bc BK5802 0, bc BK5802 1, bc BK5802 2⟩ (fun hHeld => ?_)
                  clear hK K
                  refine nrm (some 62) ?_
                  refine one_ (i := 14) (N := some 65) #[true, true, true, true, true, true, true, true, true, true, true, true, true, true, true, false, false, false, false, false, false, false, false, false, false, false, false, false, false, false, false] rfl rfl (one_of HT_.out (by kernel_rfl)) (by decide) (fun K hK => ?_)
                  refine gc Try.func46 #[.agg #[.bool a0_0, .int .i64 a0_1, .int .i64 a0_2], .agg #[.bool a1_0, .int .i64 a1_1, .int .i64 a1_2]] (flyballref17_Meet.calls a0_0 a0_1 a0_2 a1_0 a1_1 a1_2 t5832 t5833 t5834 _ A20.out) ?_
                  intro w48 hb
                  have n0_ := Aside0.mk (Kd.R_below (by (with_reducible repeat (first | apply Kd.R_alloc | apply Kd.R_drewN | apply Kd.R_drew)); exact HO5822.out) hb)
                  have n1_ := kb BK5801 hb
                  have n2_ := kb BK5802 hb
                  have n3_ := kh HB hb
                  clear HO5822
                  clear BK5801
                  clear BK5802
                  clear HB
                  have HO5822 := n0_
                  have BK5801 := n1_
                  have BK5802 := n2_
                  have HB := n3_
                  clear n0_ n1_ n2_ n3_
                  (try clear hb)
                  (try clear hb2)
                  (try clear hk)
                  (try clear hi)
                  refine hK.out _ _ ⟨bc BK5801 0, bc BK5801 1, bc BK5801 2, bc BK5802 0, bc BK5802 1, bc BK5802 2⟩ (fun hHeld => ?_)
                  clear hK K
                  refine nrm (some 65) ?_
                  refine pur 15 (some 66) #[true, true, true, true, true, true, true, true, true, true, true, true, true, true, true, true, false, false, false, false, false, false, false, false, false, false, false, false, false, false, false] (any_of HT_.out (by kernel_rfl)) ?_
                  refine pur 16 (some 67) #[true, true, true, true, true, true, true, true, true, true, true, true, true, true, true, true, true, false, false, false, false, false, false, false, false, false, false, false, false, false, false] (any_of HT_.out (by kernel_rfl)) ?_
                  refine pur 17 (some 68) #[true, true, true, true, true, true, true, true, true, true, true, true, true, true, true, true, true, true, false, false, false, false, false, false, false, false, false, false, false, false, false] (any_of HT_.out (by kernel_rfl)) ?_
                  refine tak 18 (some 69) #[true, true, true, true, true, true, true, true, true, true, true, true, true, true, true, true, true, true, true, false, false, false, false, false, false, false, false, false, false, false, false] (take_ofW HT_.out HW_.out (by kernel_rfl)) hHeld ?_
                  refine tak 21 (some 72) #[true, true, true, true, true, true, true, true, true, true, true, true, true, true, true, true, true, true, true, false, false, true, false, false, false, false, false, false, false, false, false] (take_ofW HT_.out HW_.out (by kernel_rfl)) hHeld ?_
                  refine one_ (i := 19) (N := some 70) #[true, true, true, true, true, true, true, true, true, true, true, true, true, true, true, true, true, true, true, true, false, true, false, false, false, false, false, false, false, false, false] rfl rfl (one_of HT_.out (by kernel_rfl)) (by decide) (fun K hK => ?_)
                  refine Kd.R_lit_step k23 _ 23 ?hg (N := 70) ?hd (xs := ([(⟨a0_0, a0_1, a0_2⟩ : S23)] : List (S23))) (inner := [.bool a0_0, .int .i64 a0_1, .int .i64 a0_2]) (ok := fun _ => True) (okp := fun _ => True) ?hr ?hp (fun _ hk => hk) trivial (Below.refl _ _) (Nat.le_refl _) (by simp) ?_; (case hd => rfl); (case hg => rfl); (case hr => first | (go_simp; done) | (go_simp; rfl)); (case hp => exact (Reps.c3 (show Kd.M k23 _ _ _ (⟨a0_0, a0_1, a0_2⟩ : S23) [.bool a0_0, .int .i64 a0_1, .int .i64 a0_2] from (k23_mkM _ _ _ (⟨a0_0, a0_1, a0_2⟩ : S23) )) (Reps.none _ _)))
                  intro v5836 w49 ho50 hb hg_ hnew_
                  clear hg_ hnew_
                  (first | rw [← Ny5835.out] at ho50 | (simp only [Int.reduceToNat] at ho50; rw [← Ny5835.out] at ho50))
                  have n0_ := Aside0.mk (Kd.R_elder' (by (with_reducible repeat (first | apply Kd.R_alloc | apply Kd.R_drewN | apply Kd.R_drew)); exact HO5822.out) (Kd.R_base ho50) hb)
                  have n1_ := Aside0.mk (Kd.R_lower (Kd.R_newB (Kd.R_newB (Kd.R_new' ho50 (Kd.R_lt (by (with_reducible repeat (first | apply Kd.R_alloc | apply Kd.R_drewN | apply Kd.R_drew)); exact HO5822.out))) (g := gb5801) (o := .cells #[.bool a0_0, .int .i64 a0_1, .int .i64 a0_2] 23 (0, 0)) (pk BK5801)) (g := gb5802) (o := .cells #[.bool a1_0, .int .i64 a1_1, .int .i64 a1_2] 23 (0, 0)) (pk BK5802)) (below_size (pl HB)))
                  have n2_ := kb BK5801 hb
                  have n3_ := kb BK5802 hb
                  have n4_ := kh HB hb
                  clear HO5822
                  clear BK5801
                  clear BK5802
                  clear HB
                  have HO5822 := n0_
                  have HO5837 := n1_
                  have BK5801 := n2_
                  have BK5802 := n3_
                  have HB := n4_
                  clear n0_ n1_ n2_ n3_ n4_
                  clear hb ho50
                  obtain ⟨Ao51, co51, eo51⟩ := Kd.R_slice HO5837.out
                  (first | subst eo51 | (injection eo51 with f1_ f2_ f3_; have f4_ := f1_.symm; have f5_ := f3_.symm; clear f1_ f2_ f3_; subst f4_; subst f5_))
                  refine hK.out _ _ ⟨bc BK5801 0, bc BK5801 1, bc BK5801 2, bc BK5802 0, bc BK5802 1, bc BK5802 2⟩ (fun hHeld => ?_)
                  clear hK K
                  refine nrm (some 70) ?_
                  refine one_ (i := 20) (N := some 71) #[true, true, true, true, true, true, true, true, true, true, true, true, true, true, true, true, true, true, true, true, true, true, false, false, false, false, false, false, false, false, false] rfl rfl (one_of HT_.out (by kernel_rfl)) (by decide) (fun K hK => ?_)
                  refine goes_ Try.func43 (by kernel_rfl) rfl #[.slice Ao51 y5835.length co51] (by rfl) rfl rfl pa ?_
                  with_reducible refine (ints_Join.calls k _ _ y5835 t5838 t5839 t5840 _ ?side1 ?side2 A22.out).mono ?_
                  (case side1 => repeat (first | exact (Kd.R_reads' HO5837.out).2.2 | (with_reducible refine Kd.C_alloc ?_ _) | (with_reducible refine Kd.C_drewN ?_ _) | (with_reducible refine Kd.C_drew ?_)))
                  (case side2 => exact (Kd.R_reads' HO5837.out).2.1)
                  rintro e w52 ⟨rfl, hb⟩
                  refine ⟨_, rfl, ?_⟩
                  have n0_ := Aside0.mk (Kd.R_below (by (with_reducible repeat (first | apply Kd.R_alloc | apply Kd.R_drewN | apply Kd.R_drew)); exact HO5822.out) hb)
                  have n1_ := Aside0.mk (Kd.R_below (by (with_reducible repeat (first | apply Kd.R_alloc | apply Kd.R_drewN | apply Kd.R_drew)); exact HO5837.out) hb)
                  have n2_ := kb BK5801 hb
                  have n3_ := kb BK5802 hb
                  have n4_ := kh HB hb
                  clear HO5822
                  clear HO5837
                  clear BK5801
                  clear BK5802
                  clear HB
                  have HO5822 := n0_
                  have HO5837 := n1_
                  have BK5801 := n2_
                  have BK5802 := n3_
                  have HB := n4_
                  clear n0_ n1_ n2_ n3_ n4_
                  (try clear hb)
                  (try clear hb2)
                  (try clear hk)
                  (try clear hi)
                  refine hK.out _ _ ⟨bc BK5801 0, bc BK5801 1, bc BK5801 2, bc BK5802 0, bc BK5802 1, bc BK5802 2⟩ (fun hHeld => ?_)
                  clear hK K
                  refine nrm (some 71) ?_
                  refine one_ (i := 22) (N := some 73) #[true, true, true, true, true, true, true, true, true, true, true, true, true, true, true, true, true, true, true, true, true, true, true, false, false, false, false, false, false, false, false] rfl rfl (one_of HT_.out (by kernel_rfl)) (by decide) (fun K hK => ?_)
                  refine gc Try.func39 #[.agg #[.bool a0_0, .int .i64 a0_1, .int .i64 a0_2]] (flyballref17_Norm.calls a0_0 a0_1 a0_2 t5841 t5842 t5843 _ A23.out) ?_
                  intro w53 hb
                  have n0_ := Aside0.mk (Kd.R_below (by (with_reducible repeat (first | apply Kd.R_alloc | apply Kd.R_drewN | apply Kd.R_drew)); exact HO5822.out) hb)
                  have n1_ := Aside0.mk (Kd.R_below (by (with_reducible repeat (first | apply Kd.R_alloc | apply Kd.R_drewN | apply Kd.R_drew)); exact HO5837.out) hb)
                  have n2_ := kb BK5801 hb
                  have n3_ := kb BK5802 hb
                  have n4_ := kh HB hb
                  clear HO5822
                  clear HO5837
                  clear BK5801
                  clear BK5802
                  clear HB
                  have HO5822 := n0_
                  have HO5837 := n1_
                  have BK5801 := n2_
                  have BK5802 := n3_
                  have HB := n4_
                  clear n0_ n1_ n2_ n3_ n4_
                  (try clear hb)
                  (try clear hb2)
                  (try clear hk)
                  (try clear hi)
                  refine hK.out _ _ ⟨bc BK5801 0, bc BK5801 1, bc BK5801 2, bc BK5802 0, bc BK5802 1, bc BK5802 2⟩ (fun hHeld => ?_)
                  clear hK K
                  refine nrm (some 73) ?_
                  refine pur 23 (some 74) #[true, true, true, true, true, true, true, true, true, true, true, true, true, true, true, true, true, true, true, true, true, true, true, true, false, false, false, false, false, false, false] (any_of HT_.out (by kernel_rfl)) ?_
                  refine pur 24 (some 75) #[true, true, true, true, true, true, true, true, true, true, true, true, true, true, true, true, true, true, true, true, true, true, true, true, true, false, false, false, false, false, false] (any_of HT_.out (by kernel_rfl)) ?_
                  refine pur 25 (some 76) #[true, true, true, true, true, true, true, true, true, true, true, true, true, true, true, true, true, true, true, true, true, true, true, true, true, true, false, false, false, false, false] (any_of HT_.out (by kernel_rfl)) ?_
                  refine pur 27 (some 78) #[true, true, true, true, true, true, true, true, true, true, true, true, true, true, true, true, true, true, true, true, true, true, true, true, true, true, false, true, false, false, false] (any_of HT_.out (by kernel_rfl)) ?_
                  refine one_ (i := 26) (N := some 77) #[true, true, true, true, true, true, true, true, true, true, true, true, true, true, true, true, true, true, true, true, true, true, true, true, true, true, true, true, false, false, false] rfl rfl (one_of HT_.out (by kernel_rfl)) (by decide) (fun K hK => ?_)
                  refine goes_ Try.func43 (by kernel_rfl) rfl #[.slice none 0 0] (by rfl) rfl rfl pa ?_
                  refine (ints_Join.calls k _ _ ([] : List (S23)) t5844 t5845 t5846 _ ?side1 ?side2 A25.out).mono ?_
                  (case side1 => exact Kd.C_nil _ _)
                  (case side2 => exact Nat.le_refl _)
                  rintro e w54 ⟨rfl, hb⟩
                  refine ⟨_, rfl, ?_⟩
                  have n0_ := Aside0.mk (Kd.R_below (by (with_reducible repeat (first | apply Kd.R_alloc | apply Kd.R_drewN | apply Kd.R_drew)); exact HO5822.out) hb)
                  have n1_ := Aside0.mk (Kd.R_below (by (with_reducible repeat (first | apply Kd.R_alloc | apply Kd.R_drewN | apply Kd.R_drew)); exact HO5837.out) hb)
                  have n2_ := kb BK5801 hb
                  have n3_ := kb BK5802 hb
                  have n4_ := kh HB hb
                  clear HO5822
                  clear HO5837
                  clear BK5801
                  clear BK5802
                  clear HB
                  have HO5822 := n0_
                  have HO5837 := n1_
                  have BK5801 := n2_
                  have BK5802 := n3_
                  have HB := n4_
                  clear n0_ n1_ n2_ n3_ n4_
                  (try clear hb)
                  (try clear hb2)
                  (try clear hk)
                  (try clear hi)
                  refine hK.out _ _ ⟨bc BK5801 0, bc BK5801 1, bc BK5801 2, bc BK5802 0, bc BK5802 1, bc BK5802 2⟩ (fun hHeld => ?_)
                  clear hK K
                  refine nrm (some 77) ?_
                  refine pur 28 (some 79) #[true, true, true, true, true, true, true, true, true, true, true, true, true, true, true, true, true, true, true, true, true, true, true, true, true, true, true, true, true, false, false] (any_of HT_.out (by kernel_rfl)) ?_
                  refine pur 29 (some 80) #[true, true, true, true, true, true, true, true, true, true, true, true, true, true, true, true, true, true, true, true, true, true, true, true, true, true, true, true, true, true, false] (any_of HT_.out (by kernel_rfl)) ?_
                  refine pur 30 (some 10) #[true, true, true, true, true, true, true, true, true, true, true, true, true, true, true, true, true, true, true, true, true, true, true, true, true, true, true, true, true, true, true] (any_of HT_.out (by kernel_rfl)) ?_
                  refine done_ (done_of HT_.out (by kernel_rfl)) ?_
                  try go_wp2
                  go_ret
                  exact ⟨pe, pl HB⟩
                · rw [if_neg c27] at H
                  exact absurd H (by simp)
              · rw [if_neg c26] at H
                exact absurd H (by simp)
            · rw [if_neg c24] at H
              exact absurd H (by simp)
          · rw [if_neg c21] at H
            exact absurd H (by simp)
        · rw [if_neg c18] at H
          exact absurd H (by simp)
      · rw [if_neg c13] at H
        exact absurd H (by simp)
    · rw [if_neg c8] at H
      exact absurd H (by simp)
  · replace c5 := Bool.eq_false_iff.mpr c5
    subst c5
    rw [if_neg (show ¬ (false = true) by decide)] at H
    obtain rfl := Option.some.inj H
    go_enter Try.func7, Try.ntmps7
    go_wp2_with (first | ((with_reducible refine gate_dst (N := 3) rfl ?_); (try (refine gate_guard (by rfl) ?_; dsimp only)); refine kx 3 #[.bool a0_0, .int .i64 a0_1, .int .i64 a0_2] 23 ?_; intro gb5801 hg w55 hbox hb; have BK5801 := Aside0.mk (hbox); have GW5801 := kg HB hg; have GE5801 := kg HB hg; replace HB := kh HB hb; clear hb hbox hg) | ((with_reducible refine gate_dst (N := 4) rfl ?_); (try (refine gate_guard (by rfl) ?_; dsimp only)); refine kx 4 #[.bool a1_0, .int .i64 a1_1, .int .i64 a1_2] 23 ?_; intro gb5802 hg w56 hbox hb; have BK5802 := Aside0.mk (hbox); have GW5802 := kg HB hg; have GE5802 := kg HB hg; have NB5801_5802 := kn BK5801 hg; have NB5802_5801 := km BK5801 hg; replace BK5801 := kb BK5801 hb; replace HB := kh HB hb; clear hb hbox hg) | ((with_reducible refine gate_callee (f := 38) rfl ?_); refine kc (some 11) Try.func38 #[] (flyballlaw17_works.calls k  false _ A4.out) ?_; intro w57 hb; replace BK5801 := kb BK5801 hb; replace BK5802 := kb BK5802 hb; replace HB := kh HB hb; (try clear hb); (try clear hb2); (try clear hk); (try clear hi)))
    go_ret
    exact ⟨pe, pl HB⟩

end Go.Proofs.Ytinmgnlofininaa.PAll
