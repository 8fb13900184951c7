/- Functions of the print, turned to this claim. -/
import Derived.Test.YtinmgnlofininaaZKW
import Derived.Test.YtinmgnlofininaaZKx0
import Derived.Test.YtinmgnlofininaaZKx1
import Derived.Test.YtinmgnlofininaaZKx3
import Derived.Test.YtinmgnlofininaaZKx26
import Derived.Test.YtinmgnlofininaaZKx27
import Derived.Test.YtinmgnlofininaaZKx28
import Derived.Test.YtinmgnlofininaaZKx29
import Derived.Test.YtinmgnlofininaaZKx31
section
namespace Go.Proofs.Ytinmgnlofininaa.PAll
open Go.RowKit Go.Proofs.YtinmgnlofininaaW.PrintWords Go.Proofs.YtinmgnlofininaaW.PrintLast Go.Proofs.YtinmgnlofininaaW.PrintMore
attribute [local go_sem] max2_int min2_int max_two min_two max_three min_three max_four min_four   -- for this text's walks alone
set_option linter.unusedVariables false
set_option linter.unusedSimpArgs false
attribute [local go_sem high] eqA23
/-! ### flyballlaw21_ClockCounts: function 6 -/
mutual
def flyballlaw21_ClockCounts.j0 : Nat → Int → Int → Bool → Bool → Option (Bool)
  | 0, _, _, _, _ => none
  | k + 1, x0, x1, x5, x20 => if x20 = true then (some x5) else ((ints_Point.f (wrap64 (x0))).bind fun bt9852 => ((ints_Point.f 0).bind fun bt9855 => ((clock_Of.f k bt9852.1 bt9852.2.1 bt9852.2.2 bt9855.1 bt9855.2.1 bt9855.2.2).bind fun bt9858 => (flyballlaw21_ClockCounts.l0 k x0 x1 x5 0 bt9858.1 bt9858.2.1 bt9858.2.2.1 bt9858.2.2.2.1 bt9858.2.2.2.2.1 bt9858.2.2.2.2.2 bt9858.1 bt9858.2.1 bt9858.2.2.1 bt9858.2.2.2.1 bt9858.2.2.2.2.1 bt9858.2.2.2.2.2))))
def flyballlaw21_ClockCounts.l0 : Nat → Int → Int → Bool → Int → Bool → Int → Int → Bool → Int → Int → Bool → Int → Int → Bool → Int → Int → Option (Bool)
  | 0, _, _, _, _, _, _, _, _, _, _, _, _, _, _, _, _ => none
  | k + 1, x0, x1, x5, x8, x9865000, x9865001, x9865002, x9865003, x9865004, x9865005, x9866000, x9866001, x9866002, x9866003, x9866004, x9866005 => if x8 < x1 then ((ints_Point.f 1).bind fun bt9866 => ((clock_Move.f k x9865000 x9865001 x9865002 x9865003 x9865004 x9865005 bt9866.1 bt9866.2.1 bt9866.2.2).bind fun bt9869 => ((clock_Tick.f k bt9869.1 bt9869.2.1 bt9869.2.2.1 bt9869.2.2.2.1 bt9869.2.2.2.2.1 bt9869.2.2.2.2.2).bind fun bt9875 => ((clock_Join.f k x9866000 x9866001 x9866002 x9866003 x9866004 x9866005 bt9875.1 bt9875.2.1 bt9875.2.2.1 bt9875.2.2.2.1 bt9875.2.2.2.2.1 bt9875.2.2.2.2.2).bind fun bt9881 => ((clock_Widen.f k x9866000 x9866001 x9866002 x9866003 x9866004 x9866005 bt9881.1 bt9881.2.1 bt9881.2.2.1 bt9881.2.2.2.1 bt9881.2.2.2.2.1 bt9881.2.2.2.2.2 ([] : List Int)).bind fun bt9887 => (flyballlaw21_ClockCounts.l0 k x0 x1 x5 (wrap64 (x8 + 1)) bt9875.1 bt9875.2.1 bt9875.2.2.1 bt9875.2.2.2.1 bt9875.2.2.2.2.1 bt9875.2.2.2.2.2 bt9887.1 bt9887.2.1 bt9887.2.2.1 bt9887.2.2.2.1 bt9887.2.2.2.2.1 bt9887.2.2.2.2.2)))))) else ((ints_Make.f (-1099511627776) 1099511627776).bind fun bt9893 => ((ints_Point.f x1).bind fun bt9897 => ((clock_Reduce.f k bt9893.1 bt9893.2.1 bt9893.2.2 x9865000 x9865001 x9865002 x9865003 x9865004 x9865005 bt9897.1 bt9897.2.1 bt9897.2.2).bind fun bt9900 => ((ints_Point.f (wrap64 ((wrap64 (x0)) + x1))).bind fun bt9903 => ((ints_Make.f 0 2147483647).bind fun bt9906 => ((clock_Reduce.f k bt9893.1 bt9893.2.1 bt9893.2.2 x9866000 x9866001 x9866002 x9866003 x9866004 x9866005 bt9906.1 bt9906.2.1 bt9906.2.2).bind fun bt9909 => ((ints_Make.f (wrap64 (x0)) (wrap64 ((wrap64 (x0)) + 2147483647))).bind fun bt9912 => (if x5 = true then (if (bt9900.1 == bt9903.1 && (bt9900.2.1 == bt9903.2.1 && (bt9900.2.2 == bt9903.2.2))) = true then (if x1 = 0 then (some true) else (some (bt9909.1 == bt9912.1 && (bt9909.2.1 == bt9912.2.1 && (bt9909.2.2 == bt9912.2.2))))) else (none)) else (none)))))))))
end
def flyballlaw21_ClockCounts.f (k : Nat) (a0 : Int) (a1 : Int) : Option (Bool) := (flyballlaw21_works.f k).bind fun t9851 => (if t9851 = true then (if a1 < 0 then (flyballlaw21_ClockCounts.j0 k a0 a1 t9851 true) else (flyballlaw21_ClockCounts.j0 k a0 a1 t9851 (decide (a1 > 200)))) else (some false))
theorem flyballlaw21_ClockCounts.mono_l : ∀ k, (∀ y0 y1 y2 y3, LeO (flyballlaw21_ClockCounts.j0 k y0 y1 y2 y3) (flyballlaw21_ClockCounts.j0 (k + 1) y0 y1 y2 y3)) ∧ (∀ y0 y1 y2 y3 y4 y5 y6 y7 y8 y9 y10 y11 y12 y13 y14 y15, LeO (flyballlaw21_ClockCounts.l0 k y0 y1 y2 y3 y4 y5 y6 y7 y8 y9 y10 y11 y12 y13 y14 y15) (flyballlaw21_ClockCounts.l0 (k + 1) y0 y1 y2 y3 y4 y5 y6 y7 y8 y9 y10 y11 y12 y13 y14 y15))
  | 0 => ⟨fun _ _ _ _ r h => by simp [flyballlaw21_ClockCounts.j0] at h, fun _ _ _ _ _ _ _ _ _ _ _ _ _ _ _ _ r h => by simp [flyballlaw21_ClockCounts.l0] at h⟩
  | k + 1 => by
    obtain ⟨ih0, ih1⟩ := flyballlaw21_ClockCounts.mono_l k
    refine ⟨?_, ?_⟩
    · intro y0 y1 y2 y3
      unfold flyballlaw21_ClockCounts.j0
      repeat' first
      | (with_reducible exact ih0 _ _ _ _)
      | (with_reducible exact ih1 _ _ _ _ _ _ _ _ _ _ _ _ _ _ _ _)
      | (with_reducible exact clock_Join.mono _ _ _ _ _ _ _ _ _ _ _ _ _)
      | (with_reducible exact clock_Move.mono _ _ _ _ _ _ _ _ _ _)
      | (with_reducible exact clock_Of.mono _ _ _ _ _ _ _)
      | (with_reducible exact clock_Reduce.mono _ _ _ _ _ _ _ _ _ _ _ _ _)
      | (with_reducible exact clock_Tick.mono _ _ _ _ _ _ _)
      | (with_reducible exact clock_Widen.mono _ _ _ _ _ _ _ _ _ _ _ _ _ _)
      | (with_reducible exact flyballlaw21_works.mono _)
      | (with_reducible exact LeO.refl _)
      | (with_reducible exact LeO.none _)
      | (with_reducible refine LeO.ite ?_ ?_)
      | (with_reducible refine LeO.bind ?_ (fun _ => ?_))
      | exact ih0 _ _ _ _
      | exact ih1 _ _ _ _ _ _ _ _ _ _ _ _ _ _ _ _
      | exact clock_Join.mono _ _ _ _ _ _ _ _ _ _ _ _ _
      | exact clock_Move.mono _ _ _ _ _ _ _ _ _ _
      | exact clock_Of.mono _ _ _ _ _ _ _
      | exact clock_Reduce.mono _ _ _ _ _ _ _ _ _ _ _ _ _
      | exact clock_Tick.mono _ _ _ _ _ _ _
      | exact clock_Widen.mono _ _ _ _ _ _ _ _ _ _ _ _ _ _
      | exact flyballlaw21_works.mono _
      | exact LeO.none _
      | refine LeO.ite ?_ ?_
      | refine LeO.bind ?_ (fun _ => ?_)
    · intro y0 y1 y2 y3 y4 y5 y6 y7 y8 y9 y10 y11 y12 y13 y14 y15
      unfold flyballlaw21_ClockCounts.l0
      repeat' first
      | (with_reducible exact ih0 _ _ _ _)
      | (with_reducible exact ih1 _ _ _ _ _ _ _ _ _ _ _ _ _ _ _ _)
      | (with_reducible exact clock_Join.mono _ _ _ _ _ _ _ _ _ _ _ _ _)
      | (with_reducible exact clock_Move.mono _ _ _ _ _ _ _ _ _ _)
      | (with_reducible exact clock_Of.mono _ _ _ _ _ _ _)
      | (with_reducible exact clock_Reduce.mono _ _ _ _ _ _ _ _ _ _ _ _ _)
      | (with_reducible exact clock_Tick.mono _ _ _ _ _ _ _)
      | (with_reducible exact clock_Widen.mono _ _ _ _ _ _ _ _ _ _ _ _ _ _)
      | (with_reducible exact flyballlaw21_works.mono _)
      | (with_reducible exact LeO.refl _)
      | (with_reducible exact LeO.none _)
      | (with_reducible refine LeO.ite ?_ ?_)
      | (with_reducible refine LeO.bind ?_ (fun _ => ?_))
      | exact ih0 _ _ _ _
      | exact ih1 _ _ _ _ _ _ _ _ _ _ _ _ _ _ _ _
      | exact clock_Join.mono _ _ _ _ _ _ _ _ _ _ _ _ _
      | exact clock_Move.mono _ _ _ _ _ _ _ _ _ _
      | exact clock_Of.mono _ _ _ _ _ _ _
      | exact clock_Reduce.mono _ _ _ _ _ _ _ _ _ _ _ _ _
      | exact clock_Tick.mono _ _ _ _ _ _ _
      | exact clock_Widen.mono _ _ _ _ _ _ _ _ _ _ _ _ _ _
      | exact flyballlaw21_works.mono _
      | exact LeO.none _
      | refine LeO.ite ?_ ?_
      | refine LeO.bind ?_ (fun _ => ?_)
theorem flyballlaw21_ClockCounts.mono : ∀ a0 a1 k, LeO (flyballlaw21_ClockCounts.f k a0 a1) (flyballlaw21_ClockCounts.f (k + 1) a0 a1) := by
  intro a0 a1 k
  obtain ⟨ih0, ih1⟩ := flyballlaw21_ClockCounts.mono_l k
  unfold flyballlaw21_ClockCounts.f
  repeat' first
      | (with_reducible exact ih0 _ _ _ _)
      | (with_reducible exact ih1 _ _ _ _ _ _ _ _ _ _ _ _ _ _ _ _)
      | (with_reducible exact clock_Join.mono _ _ _ _ _ _ _ _ _ _ _ _ _)
      | (with_reducible exact clock_Move.mono _ _ _ _ _ _ _ _ _ _)
      | (with_reducible exact clock_Of.mono _ _ _ _ _ _ _)
      | (with_reducible exact clock_Reduce.mono _ _ _ _ _ _ _ _ _ _ _ _ _)
      | (with_reducible exact clock_Tick.mono _ _ _ _ _ _ _)
      | (with_reducible exact clock_Widen.mono _ _ _ _ _ _ _ _ _ _ _ _ _ _)
      | (with_reducible exact flyballlaw21_works.mono _)
      | (with_reducible exact LeO.refl _)
      | (with_reducible exact LeO.none _)
      | (with_reducible refine LeO.ite ?_ ?_)
      | (with_reducible refine LeO.bind ?_ (fun _ => ?_))
      | exact ih0 _ _ _ _
      | exact ih1 _ _ _ _ _ _ _ _ _ _ _ _ _ _ _ _
      | exact clock_Join.mono _ _ _ _ _ _ _ _ _ _ _ _ _
      | exact clock_Move.mono _ _ _ _ _ _ _ _ _ _
      | exact clock_Of.mono _ _ _ _ _ _ _
      | exact clock_Reduce.mono _ _ _ _ _ _ _ _ _ _ _ _ _
      | exact clock_Tick.mono _ _ _ _ _ _ _
      | exact clock_Widen.mono _ _ _ _ _ _ _ _ _ _ _ _ _ _
      | exact flyballlaw21_works.mono _
      | exact LeO.none _
      | refine LeO.ite ?_ ?_
      | refine LeO.bind ?_ (fun _ => ?_)
def flyballlaw21_ClockCounts.T14 : Bool × List (List Nat × List Nat) := (true, [([], []), ([], []), ([], []), ([2], [2]), ([0, 1, 3, 3], [0, 1, 3]), ([], []), ([5], [5]), ([], []), ([6, 7], [6, 7]), ([8, 4], [8]), ([4, 9], [4, 9]), ([10, 9, 0, 1, 2, 3, 4, 5, 6, 7, 8, 9, 10], [10])])
def flyballlaw21_ClockCounts.B14 : List Nat := [0, 0, 0, 4, 15, 0, 32, 0, 224, 511, 1023, 2047]
theorem flyballlaw21_ClockCounts.tab14 : rtab .any (opsOf Try.f6 14) = flyballlaw21_ClockCounts.T14 := by kernel_rfl
theorem flyballlaw21_ClockCounts.bits14 : waitsOk flyballlaw21_ClockCounts.T14.2 flyballlaw21_ClockCounts.B14 = true := by kernel_rfl
def flyballlaw21_ClockCounts.T15 : Bool × List (List Nat × List Nat) := (true, [([], []), ([], []), ([], []), ([0, 1, 2, 2], [0, 1, 2]), ([], []), ([4], [4]), ([], []), ([6], [6]), ([7], [7]), ([5, 8, 3], [5, 8]), ([3, 9], [3, 9]), ([10, 9, 0, 1, 2, 3, 4, 5, 6, 7, 8, 9, 10], [10])])
def flyballlaw21_ClockCounts.B15 : List Nat := [0, 0, 0, 7, 0, 16, 0, 64, 192, 511, 1023, 2047]
theorem flyballlaw21_ClockCounts.tab15 : rtab .any (opsOf Try.f6 15) = flyballlaw21_ClockCounts.T15 := by kernel_rfl
theorem flyballlaw21_ClockCounts.bits15 : waitsOk flyballlaw21_ClockCounts.T15.2 flyballlaw21_ClockCounts.B15 = true := by kernel_rfl
set_option maxHeartbeats 8000000 in
set_option maxRecDepth 100000 in
theorem flyballlaw21_ClockCounts.calls (k : Nat) (a0 : Int) (a1 : Int) (r : Bool) (w : World) (h : flyballlaw21_ClockCounts.f k a0 a1 = some r) :
    Calls Try.prog 6 #[.int .i32 a0, .int .i64 a1] w fun e w' => e = .returned (.bool r) ∧ Below w.heap.size w w' := by
  have hu25 := Try.underlying25
  have hu23 := Try.underlying23
  have HB := Aside0.mk (Below.refl w.heap.size w)
  have H := h
  clear h
  unfold flyballlaw21_ClockCounts.f at H
  obtain ⟨t9851, A30, H⟩ := Option.bind_eq_some_iff.mp H
  have A3 := Aside0.mk A30
  clear A30
  (try dsimp only at H)
  by_cases c4 : t9851 = true
  · subst c4
    rw [if_pos rfl] at H
    have HC5 := Aside0.mk H
    clear H
    go_enter Try.func6, Try.ntmps6
    go_upto_region 4 with (first | ((with_reducible refine gate_callee (f := 13) rfl ?_); refine kc (some 12) Try.func13 #[] (flyballlaw21_works.calls k  true _ A3.out) ?_; intro w6 hb; replace HB := kh HB hb; (try clear hb)))
    (try simp only [Act.put, List.setIfInBounds_toArray, List.set_cons_zero, List.set_cons_succ])
    go_cut [20] (fun v20 wc => ∃ (kq : Nat) (x20_4 : Bool), v20 = .bool x20_4 ∧ Aside0 (flyballlaw21_ClockCounts.j0 kq a0 a1 true x20_4 = some r) ∧ Aside0 (kq ≤ k) ∧ Aside0 (Below w.heap.size w wc))
    case first =>
      have H := HC5.out
      clear HC5
      by_cases c7 : a1 < 0
      · rw [if_pos c7] at H
        have c7b0 : decide (a1 < 0) = true := decide_eq_true c7
        clear c7
        (first | rw [c7b0] | (simp only [i64_w, i32_w]; rw [c7b0]) | skip)
        have H' := Aside0.mk H
        clear H
        go_wp2
        go_meet
        case rel => exact ⟨_, (true), (by first | rfl | (simp; done) | (simp [*]; done)), H', ⟨by first | omega | exact Nat.le_refl _⟩, ⟨pl HB⟩⟩
      · rw [if_neg c7] at H
        have c7b0 : decide (a1 < 0) = false := decide_eq_false c7
        clear c7
        (first | rw [c7b0] | (simp only [i64_w, i32_w]; rw [c7b0]) | skip)
        have H' := Aside0.mk H
        clear H
        go_wp2
        go_meet
        case rel => exact ⟨_, (decide (a1 > 200)), (by first | rfl | (simp; done) | (simp [*]; done)), H', ⟨by first | omega | exact Nat.le_refl _⟩, ⟨pl HB⟩⟩
    case rest =>
      clear HC5
      try clear c1
      try clear p2
      try clear c4
      try clear c6
      try clear c7
      try clear c7b0
      obtain ⟨kq, x20_4, rfl, HA, HJ4, HB⟩ := hcut
      cases kq with
      | zero => exact absurd HA.out (by simp [flyballlaw21_ClockCounts.j0])
      | succ kj4 =>
        have H := HA.out
        clear HA
        simp only [flyballlaw21_ClockCounts.j0] at H
        by_cases c8 : x20_4 = true
        · subst c8
          rw [if_pos rfl] at H
          obtain rfl := Option.some.inj H
          go_wp2
          go_ret
          exact ⟨pe, pl HB⟩
        · replace c8 := Bool.eq_false_iff.mpr c8
          subst c8
          rw [if_neg (show ¬ (false = true) by decide)] at H
          obtain ⟨⟨t9852, t9853, t9854⟩, A90, H⟩ := Option.bind_eq_some_iff.mp H
          have A9 := Aside0.mk A90
          clear A90
          (try dsimp only at H)
          obtain ⟨⟨t9855, t9856, t9857⟩, A100, H⟩ := Option.bind_eq_some_iff.mp H
          have A10 := Aside0.mk A100
          clear A100
          (try dsimp only at H)
          obtain ⟨⟨t9858, t9859, t9860, t9861, t9862, t9863⟩, A110, H⟩ := Option.bind_eq_some_iff.mp H
          have A11 := Aside0.mk A110
          clear A110
          (try dsimp only at H)
          have H' := Aside0.mk H
          clear H
          go_wp2_with (first | ((with_reducible refine gate_callee (f := 35) rfl ?_); refine kc (some 24) Try.func35 #[.int .i64 (wrap64 (a0))] (ints_Point.calls (wrap64 (a0)) t9852 t9853 t9854 _ A9.out) ?_; intro w12 hb; replace HB := kh HB hb; (try clear hb)) | ((with_reducible refine gate_callee (f := 35) rfl ?_); refine kc (some 25) Try.func35 #[.int .i64 0] (ints_Point.calls 0 t9855 t9856 t9857 _ A10.out) ?_; intro w13 hb; replace HB := kh HB hb; (try clear hb)) | ((with_reducible refine gate_callee (f := 15) rfl ?_); refine kc (some 26) Try.func15 #[.agg #[.bool t9852, .int .i64 t9853, .int .i64 t9854], .agg #[.bool t9855, .int .i64 t9856, .int .i64 t9857]] (clock_Of.calls kj4 t9852 t9853 t9854 t9855 t9856 t9857 t9858 t9859 t9860 t9861 t9862 t9863 _ A11.out) ?_; intro w14 hb; replace HB := kh HB hb; (try clear hb)) | ((with_reducible refine gate_dst (N := 6) rfl ?_); refine kx 6 #[.bool false, .int .i64 0, .int .i64 0, .bool false, .int .i64 0, .int .i64 0] 25 ?_; intro gb9864 hg w15 hbox hb; have BK9864 := Aside0.mk (hbox); have GW9864 := kg HB hg; have GE9864 := kg HB hg; replace HB := kh HB hb; clear hb hbox hg; have ⟨hcz16_0, hcz16_1, hcz16_2, hcz16_3, hcz16_4, hcz16_5, hfz16_0, hfz16_1, hfz16_2, hfz16_3, hfz16_4, hfz16_5⟩ := kz6f BK9864) | ((with_reducible refine gate_dst (N := 7) rfl ?_); refine kx 7 #[.bool false, .int .i64 0, .int .i64 0, .bool false, .int .i64 0, .int .i64 0] 25 ?_; intro gb9865 hg w17 hbox hb; have BK9865 := Aside0.mk (hbox); have GW9865 := kg HB hg; have GE9865 := kg HB hg; have NB9864_9865 := kn BK9864 hg; have NB9865_9864 := km BK9864 hg; replace BK9864 := kb (o' := .cells #[.bool t9858, .int .i64 t9859, .int .i64 t9860, .bool t9861, .int .i64 t9862, .int .i64 t9863] 25 (0, 0)) BK9864 hb; replace HB := kh HB hb; clear hb hbox hg; have hnb18 := NB9865_9864.out; have hnc18 := NB9864_9865.out; have ⟨hcz19_0, hcz19_1, hcz19_2, hcz19_3, hcz19_4, hcz19_5, hfz19_0, hfz19_1, hfz19_2, hfz19_3, hfz19_4, hfz19_5⟩ := kz6f BK9865))
          go_loopg [8] kj4 (fun kq v8 w' => ∃ (x8_2 : Int) (x9865000_2 : Bool) (x9865001_2 : Int) (x9865002_2 : Int) (x9865003_2 : Bool) (x9865004_2 : Int) (x9865005_2 : Int) (x9866000_2 : Bool) (x9866001_2 : Int) (x9866002_2 : Int) (x9866003_2 : Bool) (x9866004_2 : Int) (x9866005_2 : Int), v8 = .int .i64 x8_2 ∧ Aside0 (flyballlaw21_ClockCounts.l0 kq a0 a1 true x8_2 x9865000_2 x9865001_2 x9865002_2 x9865003_2 x9865004_2 x9865005_2 x9866000_2 x9866001_2 x9866002_2 x9866003_2 x9866004_2 x9866005_2 = some r) ∧ Aside0 (kq ≤ kj4) ∧ Aside0 (w'.heap[gb9864]? = some (.cells #[.bool x9865000_2, .int .i64 x9865001_2, .int .i64 x9865002_2, .bool x9865003_2, .int .i64 x9865004_2, .int .i64 x9865005_2] 25 (0, 0))) ∧ Aside0 (w'.heap[gb9865]? = some (.cells #[.bool x9866000_2, .int .i64 x9866001_2, .int .i64 x9866002_2, .bool x9866003_2, .int .i64 x9866004_2, .int .i64 x9866005_2] 25 (0, 0))) ∧ Aside0 (Below w.heap.size w w'))
          case atStart => exact ⟨(0), (t9858), (t9859), (t9860), (t9861), (t9862), (t9863), (t9858), (t9859), (t9860), (t9861), (t9862), (t9863), (by first | rfl | (simp; done) | (simp [*]; done)), H', ⟨Nat.le_refl _⟩, ⟨pk BK9864⟩, ⟨pK BK9865⟩, ⟨pl HB⟩⟩
          case round =>
            clear H'
            try clear c1
            try clear p2
            try clear c3
            try clear c4
            try clear c6
            try clear p6
            try clear c7
            try clear c7b0
            try clear c8
            try clear c13
            try clear c15
            try clear c18
            try clear hcz16_0
            try clear hcz16_1
            try clear hcz16_2
            try clear hcz16_3
            try clear hcz16_4
            try clear hcz16_5
            try clear hcz19_0
            try clear hcz19_1
            try clear hcz19_2
            try clear hcz19_3
            try clear hcz19_4
            try clear hcz19_5
            try clear hfz16_0
            try clear hfz16_1
            try clear hfz16_2
            try clear hfz16_3
            try clear hfz16_4
            try clear hfz16_5
            try clear hfz19_0
            try clear hfz19_1
            try clear hfz19_2
            try clear hfz19_3
            try clear hfz19_4
            try clear hfz19_5
            try clear p2
            obtain ⟨x8_2, x9865000_2, x9865001_2, x9865002_2, x9865003_2, x9865004_2, x9865005_2, x9866000_2, x9866001_2, x9866002_2, x9866003_2, x9866004_2, x9866005_2, rfl, HA, HK2, BK9864, BK9865, HB⟩ := hrel
            cases gk with
            | zero => exact absurd HA.out (by simp [flyballlaw21_ClockCounts.l0])
            | succ k2 =>
              have H := HA.out
              clear HA
              simp only [flyballlaw21_ClockCounts.l0] at H
              by_cases c20 : x8_2 < a1
              · rw [if_pos c20] at H
                have c20b0 : decide (x8_2 < a1) = true := decide_eq_true c20
                clear c20
                obtain ⟨⟨t9866, t9867, t9868⟩, A210, H⟩ := Option.bind_eq_some_iff.mp H
                have A21 := Aside0.mk A210
                clear A210
                (try dsimp only at H)
                obtain ⟨⟨t9869, t9870, t9871, t9872, t9873, t9874⟩, A220, H⟩ := Option.bind_eq_some_iff.mp H
                have A22 := Aside0.mk A220
                clear A220
                (try dsimp only at H)
                obtain ⟨⟨t9875, t9876, t9877, t9878, t9879, t9880⟩, A230, H⟩ := Option.bind_eq_some_iff.mp H
                have A23 := Aside0.mk A230
                clear A230
                (try dsimp only at H)
                obtain ⟨⟨t9881, t9882, t9883, t9884, t9885, t9886⟩, A240, H⟩ := Option.bind_eq_some_iff.mp H
                have A24 := Aside0.mk A240
                clear A240
                (try dsimp only at H)
                obtain ⟨⟨t9887, t9888, t9889, t9890, t9891, t9892⟩, A250, H⟩ := Option.bind_eq_some_iff.mp H
                have A25 := Aside0.mk A250
                clear A250
                (try dsimp only at H)
                have H' := Aside0.mk H
                clear H
                try go_wp2
                replace BK9864 := Aside0.mk (blk_drew BK9864.out)
                replace BK9865 := Aside0.mk (blk_drew BK9865.out)
                replace HB := Aside0.mk (below_drew1 HB.out)
                refine start_ (n := 5) (S := fun w' => w'.cell? ⟨gb9864, 0, none⟩ = some (.bool x9865000_2) ∧ w'.cell? ⟨gb9864, 1, none⟩ = some (.int .i64 x9865001_2) ∧ w'.cell? ⟨gb9864, 2, none⟩ = some (.int .i64 x9865002_2) ∧ w'.cell? ⟨gb9864, 3, none⟩ = some (.bool x9865003_2) ∧ w'.cell? ⟨gb9864, 4, none⟩ = some (.int .i64 x9865004_2) ∧ w'.cell? ⟨gb9864, 5, none⟩ = some (.int .i64 x9865005_2)) (ds := [4]) #[false, false, false, false, false] (by kernel_rfl) rfl rfl ⟨bc BK9864 0, bc BK9864 1, bc BK9864 2, bc BK9864 3, bc BK9864 4, bc BK9864 5⟩ (fun hHeld => ?_)
                generalize wr.drew = w26 at BK9864 BK9865 HB hHeld ⊢
                refine tak 0 (some 33) #[true, false, false, false, false] (by kernel_rfl) hHeld ?_
                refine one_ (i := 1) (N := some 34) #[true, true, false, false, false] rfl rfl (by kernel_rfl) (by decide) (fun K hK => ?_)
                refine gc Try.func35 #[.int .i64 1] (ints_Point.calls 1 t9866 t9867 t9868 _ A21.out) ?_
                intro w27 hb
                replace BK9864 := kb BK9864 hb
                replace BK9865 := kb BK9865 hb
                replace HB := kh HB hb
                (try clear hb)
                refine hK.out _ _ ⟨bc BK9864 0, bc BK9864 1, bc BK9864 2, bc BK9864 3, bc BK9864 4, bc BK9864 5⟩ (fun hHeld => ?_)
                clear hK K
                refine nrm (some 34) ?_
                refine one_ (i := 2) (N := some 35) #[true, true, true, false, false] rfl rfl (by kernel_rfl) (by decide) (fun K hK => ?_)
                refine gc Try.func17 #[.agg #[.bool x9865000_2, .int .i64 x9865001_2, .int .i64 x9865002_2, .bool x9865003_2, .int .i64 x9865004_2, .int .i64 x9865005_2], .agg #[.bool t9866, .int .i64 t9867, .int .i64 t9868]] (clock_Move.calls k2 x9865000_2 x9865001_2 x9865002_2 x9865003_2 x9865004_2 x9865005_2 t9866 t9867 t9868 t9869 t9870 t9871 t9872 t9873 t9874 _ A22.out) ?_
                intro w28 hb
                replace BK9864 := kb BK9864 hb
                replace BK9865 := kb BK9865 hb
                replace HB := kh HB hb
                (try clear hb)
                refine hK.out _ _ ⟨bc BK9864 0, bc BK9864 1, bc BK9864 2, bc BK9864 3, bc BK9864 4, bc BK9864 5⟩ (fun hHeld => ?_)
                clear hK K
                refine nrm (some 35) ?_
                refine one_ (i := 3) (N := some 36) #[true, true, true, true, false] rfl rfl (by kernel_rfl) (by decide) (fun K hK => ?_)
                refine gc Try.func20 #[.agg #[.bool t9869, .int .i64 t9870, .int .i64 t9871, .bool t9872, .int .i64 t9873, .int .i64 t9874]] (clock_Tick.calls k2 t9869 t9870 t9871 t9872 t9873 t9874 t9875 t9876 t9877 t9878 t9879 t9880 _ A23.out) ?_
                intro w29 hb
                replace BK9864 := kb BK9864 hb
                replace BK9865 := kb BK9865 hb
                replace HB := kh HB hb
                (try clear hb)
                refine hK.out _ _ ⟨bc BK9864 0, bc BK9864 1, bc BK9864 2, bc BK9864 3, bc BK9864 4, bc BK9864 5⟩ (fun hHeld => ?_)
                clear hK K
                refine nrm (some 36) ?_
                refine last_ (i := 4) (N := none) #[true, true, true, true, true] rfl rfl (by kernel_rfl) (by decide) (fun K hK => ?_)
                have hs30 : w29.cell? ⟨gb9864, 0, none⟩ = some (.bool x9865000_2) := bc BK9864 0
                have hfs30 := blk_frozen BK9864.out 0
                have hns30_1 := NB9865_9864.out
                have hms30_1 := NB9864_9865.out
                have hs31 : w29.cell? ⟨gb9864, 1, none⟩ = some (.int .i64 x9865001_2) := bc BK9864 1
                have hfs31 := blk_frozen BK9864.out 1
                have hs32 : w29.cell? ⟨gb9864, 2, none⟩ = some (.int .i64 x9865002_2) := bc BK9864 2
                have hfs32 := blk_frozen BK9864.out 2
                have hs33 : w29.cell? ⟨gb9864, 3, none⟩ = some (.bool x9865003_2) := bc BK9864 3
                have hfs33 := blk_frozen BK9864.out 3
                have hs34 : w29.cell? ⟨gb9864, 4, none⟩ = some (.int .i64 x9865004_2) := bc BK9864 4
                have hfs34 := blk_frozen BK9864.out 4
                have hs35 : w29.cell? ⟨gb9864, 5, none⟩ = some (.int .i64 x9865005_2) := bc BK9864 5
                have hfs35 := blk_frozen BK9864.out 5
                refine skip_ (w1 := ?_) (by rfl) rfl ?_ ?_
                rotate_left
                · go_simp
                  rfl
                refine hK.out _ _ ?_
                clear hK K
                refine done_ (by kernel_rfl) ?_
                try go_wp2
                generalize hW_ : ((((((w29.setCell ⟨gb9864, 0, none⟩ (.bool t9875)).setCell ⟨gb9864, 1, none⟩ (.int .i64 t9876)).setCell ⟨gb9864, 2, none⟩ (.int .i64 t9877)).setCell ⟨gb9864, 3, none⟩ (.bool t9878)).setCell ⟨gb9864, 4, none⟩ (.int .i64 t9879)).setCell ⟨gb9864, 5, none⟩ (.int .i64 t9880)) = w36
                replace BK9864 := kr (o' := .cells #[.bool t9875, .int .i64 t9876, .int .i64 t9877, .bool t9878, .int .i64 t9879, .int .i64 t9880] 25 (0, 0)) BK9864 hW_
                replace BK9865 := kr BK9865 hW_
                replace HB := kq HB hW_
                clear hW_
                replace BK9864 := Aside0.mk (blk_drew BK9864.out)
                replace BK9865 := Aside0.mk (blk_drew BK9865.out)
                replace HB := Aside0.mk (below_drew1 HB.out)
                refine start_ (n := 6) (S := fun w' => w'.cell? ⟨gb9865, 0, none⟩ = some (.bool x9866000_2) ∧ w'.cell? ⟨gb9865, 1, none⟩ = some (.int .i64 x9866001_2) ∧ w'.cell? ⟨gb9865, 2, none⟩ = some (.int .i64 x9866002_2) ∧ w'.cell? ⟨gb9865, 3, none⟩ = some (.bool x9866003_2) ∧ w'.cell? ⟨gb9865, 4, none⟩ = some (.int .i64 x9866004_2) ∧ w'.cell? ⟨gb9865, 5, none⟩ = some (.int .i64 x9866005_2) ∧ w'.cell? ⟨gb9864, 0, none⟩ = some (.bool t9875) ∧ w'.cell? ⟨gb9864, 1, none⟩ = some (.int .i64 t9876) ∧ w'.cell? ⟨gb9864, 2, none⟩ = some (.int .i64 t9877) ∧ w'.cell? ⟨gb9864, 3, none⟩ = some (.bool t9878) ∧ w'.cell? ⟨gb9864, 4, none⟩ = some (.int .i64 t9879) ∧ w'.cell? ⟨gb9864, 5, none⟩ = some (.int .i64 t9880)) (ds := [5]) #[false, false, false, false, false, false] (by kernel_rfl) rfl rfl ⟨bc BK9865 0, bc BK9865 1, bc BK9865 2, bc BK9865 3, bc BK9865 4, bc BK9865 5, bc BK9864 0, bc BK9864 1, bc BK9864 2, bc BK9864 3, bc BK9864 4, bc BK9864 5⟩ (fun hHeld => ?_)
                generalize w36.drew = w37 at BK9864 BK9865 HB hHeld ⊢
                refine tak 0 (some 37) #[true, false, false, false, false, false] (by kernel_rfl) hHeld ?_
                refine tak 1 (some 38) #[true, true, false, false, false, false] (by kernel_rfl) hHeld ?_
                refine tak 2 (some 39) #[true, true, true, false, false, false] (by kernel_rfl) hHeld ?_
                refine one_ (i := 3) (N := some 40) #[true, true, true, true, false, false] rfl rfl (by kernel_rfl) (by decide) (fun K hK => ?_)
                refine gc Try.func26 #[.agg #[.bool x9866000_2, .int .i64 x9866001_2, .int .i64 x9866002_2, .bool x9866003_2, .int .i64 x9866004_2, .int .i64 x9866005_2], .agg #[.bool t9875, .int .i64 t9876, .int .i64 t9877, .bool t9878, .int .i64 t9879, .int .i64 t9880]] (clock_Join.calls k2 x9866000_2 x9866001_2 x9866002_2 x9866003_2 x9866004_2 x9866005_2 t9875 t9876 t9877 t9878 t9879 t9880 t9881 t9882 t9883 t9884 t9885 t9886 _ A24.out) ?_
                intro w38 hb
                replace BK9864 := kb BK9864 hb
                replace BK9865 := kb BK9865 hb
                replace HB := kh HB hb
                (try clear hb)
                refine hK.out _ _ ⟨bc BK9865 0, bc BK9865 1, bc BK9865 2, bc BK9865 3, bc BK9865 4, bc BK9865 5, bc BK9864 0, bc BK9864 1, bc BK9864 2, bc BK9864 3, bc BK9864 4, bc BK9864 5⟩ (fun hHeld => ?_)
                clear hK K
                refine nrm (some 40) ?_
                refine one_ (i := 4) (N := some 41) #[true, true, true, true, true, false] rfl rfl (by kernel_rfl) (by decide) (fun K hK => ?_)
                refine goes_ Try.func29 (by kernel_rfl) rfl #[.agg #[.bool x9866000_2, .int .i64 x9866001_2, .int .i64 x9866002_2, .bool x9866003_2, .int .i64 x9866004_2, .int .i64 x9866005_2], .agg #[.bool t9881, .int .i64 t9882, .int .i64 t9883, .bool t9884, .int .i64 t9885, .int .i64 t9886], .slice none 0 0] (by rfl) rfl rfl pa ?_
                refine (clock_Widen.calls k2 x9866000_2 x9866001_2 x9866002_2 x9866003_2 x9866004_2 x9866005_2 t9881 t9882 t9883 t9884 t9885 t9886 _ _ ([] : List Int) t9887 t9888 t9889 t9890 t9891 t9892 _ ?side1 ?side2 A25.out).mono ?_
                (case side1 => exact Kd.C_nil _ _)
                (case side2 => exact Nat.le_refl _)
                rintro e w39 ⟨rfl, hb⟩
                refine ⟨_, rfl, ?_⟩
                replace BK9864 := kb BK9864 hb
                replace BK9865 := kb BK9865 hb
                replace HB := kh HB hb
                (try clear hb)
                refine hK.out _ _ ⟨bc BK9865 0, bc BK9865 1, bc BK9865 2, bc BK9865 3, bc BK9865 4, bc BK9865 5, bc BK9864 0, bc BK9864 1, bc BK9864 2, bc BK9864 3, bc BK9864 4, bc BK9864 5⟩ (fun hHeld => ?_)
                clear hK K
                refine nrm (some 41) ?_
                refine last_ (i := 5) (N := none) #[true, true, true, true, true, true] rfl rfl (by kernel_rfl) (by decide) (fun K hK => ?_)
                have hs40 : w39.cell? ⟨gb9865, 0, none⟩ = some (.bool x9866000_2) := bc BK9865 0
                have hfs40 := blk_frozen BK9865.out 0
                have hns40_0 := NB9864_9865.out
                have hms40_0 := NB9865_9864.out
                have hs41 : w39.cell? ⟨gb9865, 1, none⟩ = some (.int .i64 x9866001_2) := bc BK9865 1
                have hfs41 := blk_frozen BK9865.out 1
                have hs42 : w39.cell? ⟨gb9865, 2, none⟩ = some (.int .i64 x9866002_2) := bc BK9865 2
                have hfs42 := blk_frozen BK9865.out 2
                have hs43 : w39.cell? ⟨gb9865, 3, none⟩ = some (.bool x9866003_2) := bc BK9865 3
                have hfs43 := blk_frozen BK9865.out 3
                have hs44 : w39.cell? ⟨gb9865, 4, none⟩ = some (.int .i64 x9866004_2) := bc BK9865 4
                have hfs44 := blk_frozen BK9865.out 4
                have hs45 : w39.cell? ⟨gb9865, 5, none⟩ = some (.int .i64 x9866005_2) := bc BK9865 5
                have hfs45 := blk_frozen BK9865.out 5
                refine skip_ (w1 := ?_) (by rfl) rfl ?_ ?_
                rotate_left
                · go_simp
                  rfl
                refine hK.out _ _ ?_
                clear hK K
                refine done_ (by kernel_rfl) ?_
                try go_wp2
                go_roundg k2
                case measure => have := HJ4.out; have := HK2.out; omega
                case rel => exact ⟨(wrap64 (x8_2 + 1)), (t9875), (t9876), (t9877), (t9878), (t9879), (t9880), (t9887), (t9888), (t9889), (t9890), (t9891), (t9892), (by first | rfl | (simp; done) | (simp [*]; done)), H', ⟨by have := HJ4.out; have := HK2.out; omega⟩, ⟨pk BK9864⟩, ⟨pK BK9865⟩, ⟨pl HB⟩⟩
              · rw [if_neg c20] at H
                have c20b0 : decide (x8_2 < a1) = false := decide_eq_false c20
                clear c20
                obtain ⟨⟨t9893, t9894, t9895⟩, A460, H⟩ := Option.bind_eq_some_iff.mp H
                have A46 := Aside0.mk A460
                clear A460
                (try dsimp only at H)
                obtain ⟨⟨t9897, t9898, t9899⟩, A470, H⟩ := Option.bind_eq_some_iff.mp H
                have A47 := Aside0.mk A470
                clear A470
                (try dsimp only at H)
                obtain ⟨⟨t9900, t9901, t9902⟩, A480, H⟩ := Option.bind_eq_some_iff.mp H
                have A48 := Aside0.mk A480
                clear A480
                (try dsimp only at H)
                obtain ⟨⟨t9903, t9904, t9905⟩, A490, H⟩ := Option.bind_eq_some_iff.mp H
                have A49 := Aside0.mk A490
                clear A490
                (try dsimp only at H)
                obtain ⟨⟨t9906, t9907, t9908⟩, A500, H⟩ := Option.bind_eq_some_iff.mp H
                have A50 := Aside0.mk A500
                clear A500
                (try dsimp only at H)
                obtain ⟨⟨t9909, t9910, t9911⟩, A510, H⟩ := Option.bind_eq_some_iff.mp H
                have A51 := Aside0.mk A510
                clear A510
                (try dsimp only at H)
                obtain ⟨⟨t9912, t9913, t9914⟩, A520, H⟩ := Option.bind_eq_some_iff.mp H
                have A52 := Aside0.mk A520
                clear A520
                (try dsimp only at H)
                by_cases c53 : true = true
                · clear c53
                  (try rw [if_pos rfl] at H)
                  by_cases c54 : (t9900 == t9903 && (t9901 == t9904 && (t9902 == t9905))) = true
                  · rw [if_pos c54] at H
                    have c54b0 : (t9900 == t9903 && (t9901 == t9904 && (t9902 == t9905))) = true := c54
                    (try (have c54b1 : decide (t9900 = t9903 && (t9901 == t9904 && (t9902 == t9905))) = true := by simpa using c54))
                    (try (have c54b2 : (t9900 == t9903 && (t9901 == t9904 && (t9902 == t9905))) = true := by simpa using c54))
                    clear c54
                    by_cases c55 : a1 = 0
                    · rw [if_pos c55] at H
                      have c55b0 : (a1 == 0) = true := beq_iff_eq.mpr c55
                      have c55b1 : (a1 != 0) = false := bne_eq_false_iff_eq.mpr c55
                      clear c55
                      obtain rfl := Option.some.inj H
                      try go_wp2_with (first | ((with_reducible refine gate_callee (f := 37) rfl ?_); refine kc (some 42) Try.func37 #[.int .i64 (-1099511627776), .int .i64 1099511627776] (ints_Make.calls (-1099511627776) 1099511627776 t9893 t9894 t9895 _ A46.out) ?_; intro w56 hb; replace BK9864 := kb BK9864 hb; replace BK9865 := kb BK9865 hb; replace HB := kh HB hb; (try clear hb)) | ((with_reducible refine gate_dst (N := 9) rfl ?_); refine kx 9 #[.bool false, .int .i64 0, .int .i64 0] 23 ?_; intro gb9896 hg w57 hbox hb; have BK9896 := Aside0.mk (hbox); have GW9896 := kg HB hg; have GE9896 := kg HB hg; have NB9864_9896 := kn BK9864 hg; have NB9896_9864 := km BK9864 hg; have NB9865_9896 := kn BK9865 hg; have NB9896_9865 := km BK9865 hg; replace BK9864 := kb BK9864 hb; replace BK9865 := kb BK9865 hb; replace HB := kh HB hb; clear hb hbox hg; have hnb58 := NB9896_9864.out; have hnc58 := NB9864_9896.out; have hnb59 := NB9896_9865.out; have hnc59 := NB9865_9896.out; have ⟨hcz60_0, hcz60_1, hcz60_2, hfz60_0, hfz60_1, hfz60_2⟩ := kz3f BK9896))
                      generalize hW_ : (((w57.setCell ⟨gb9896, 0, none⟩ (.bool t9893)).setCell ⟨gb9896, 1, none⟩ (.int .i64 t9894)).setCell ⟨gb9896, 2, none⟩ (.int .i64 t9895)) = w61
                      replace BK9864 := kr BK9864 hW_
                      replace BK9865 := kr BK9865 hW_
                      replace BK9896 := kr (o' := .cells #[.bool t9893, .int .i64 t9894, .int .i64 t9895] 23 (0, 0)) BK9896 hW_
                      replace HB := kq HB hW_
                      clear hW_
                      replace BK9864 := Aside0.mk (blk_drew BK9864.out)
                      replace BK9865 := Aside0.mk (blk_drew BK9865.out)
                      replace BK9896 := Aside0.mk (blk_drew BK9896.out)
                      replace HB := Aside0.mk (below_drew1 HB.out)
                      refine start_ (n := 12) (S := fun w' => w'.cell? ⟨gb9896, 0, none⟩ = some (.bool t9893) ∧ w'.cell? ⟨gb9896, 1, none⟩ = some (.int .i64 t9894) ∧ w'.cell? ⟨gb9896, 2, none⟩ = some (.int .i64 t9895) ∧ w'.cell? ⟨gb9864, 0, none⟩ = some (.bool x9865000_2) ∧ w'.cell? ⟨gb9864, 1, none⟩ = some (.int .i64 x9865001_2) ∧ w'.cell? ⟨gb9864, 2, none⟩ = some (.int .i64 x9865002_2) ∧ w'.cell? ⟨gb9864, 3, none⟩ = some (.bool x9865003_2) ∧ w'.cell? ⟨gb9864, 4, none⟩ = some (.int .i64 x9865004_2) ∧ w'.cell? ⟨gb9864, 5, none⟩ = some (.int .i64 x9865005_2)) (ds := []) #[false, false, false, false, false, false, false, false, false, false, false, false] (by kernel_rfl) rfl rfl ⟨bc BK9896 0, bc BK9896 1, bc BK9896 2, bc BK9864 0, bc BK9864 1, bc BK9864 2, bc BK9864 3, bc BK9864 4, bc BK9864 5⟩ (fun hHeld => ?_); refine with_tabW flyballlaw21_ClockCounts.tab14 flyballlaw21_ClockCounts.bits14 (fun HT_ HW_ => ?_)
                      generalize w61.drew = w62 at BK9864 BK9865 BK9896 HB hHeld ⊢
                      refine pur 2 (some 45) #[false, false, true, false, false, false, false, false, false, false, false, false] (any_of HT_.out (by kernel_rfl)) ?_
                      refine pur 5 (some 48) #[false, false, true, false, false, true, false, false, false, false, false, false] (any_of HT_.out (by kernel_rfl)) ?_
                      refine pur 6 (some 49) #[false, false, true, false, false, true, true, false, false, false, false, false] (any_of HT_.out (by kernel_rfl)) ?_
                      refine pur 7 (some 50) #[false, false, true, false, false, true, true, true, false, false, false, false] (any_of HT_.out (by kernel_rfl)) ?_
                      refine pur 8 (some 51) #[false, false, true, false, false, true, true, true, true, false, false, false] (any_of HT_.out (by kernel_rfl)) ?_
                      refine tak 0 (some 43) #[true, false, true, false, false, true, true, true, true, false, false, false] (take_ofW HT_.out HW_.out (by kernel_rfl)) hHeld ?_
                      refine tak 1 (some 44) #[true, true, true, false, false, true, true, true, true, false, false, false] (take_ofW HT_.out HW_.out (by kernel_rfl)) hHeld ?_
                      refine one_ (i := 3) (N := some 46) #[true, true, true, true, false, true, true, true, true, false, false, false] rfl rfl (one_of HT_.out (by kernel_rfl)) (by decide) (fun K hK => ?_)
                      refine gc Try.func35 #[.int .i64 a1] (ints_Point.calls a1 t9897 t9898 t9899 _ A47.out) ?_
                      intro w63 hb
                      replace BK9864 := kb BK9864 hb
                      replace BK9865 := kb BK9865 hb
                      replace BK9896 := kb BK9896 hb
                      replace HB := kh HB hb
                      (try clear hb)
                      refine hK.out _ _ ⟨bc BK9896 0, bc BK9896 1, bc BK9896 2, bc BK9864 0, bc BK9864 1, bc BK9864 2, bc BK9864 3, bc BK9864 4, bc BK9864 5⟩ (fun hHeld => ?_)
                      clear hK K
                      refine nrm (some 46) ?_
                      refine one_ (i := 4) (N := some 47) #[true, true, true, true, true, true, true, true, true, false, false, false] rfl rfl (one_of HT_.out (by kernel_rfl)) (by decide) (fun K hK => ?_)
                      refine gc Try.func24 #[.agg #[.bool t9893, .int .i64 t9894, .int .i64 t9895], .agg #[.bool x9865000_2, .int .i64 x9865001_2, .int .i64 x9865002_2, .bool x9865003_2, .int .i64 x9865004_2, .int .i64 x9865005_2], .agg #[.bool t9897, .int .i64 t9898, .int .i64 t9899]] (clock_Reduce.calls k2 t9893 t9894 t9895 x9865000_2 x9865001_2 x9865002_2 x9865003_2 x9865004_2 x9865005_2 t9897 t9898 t9899 t9900 t9901 t9902 _ A48.out) ?_
                      intro w64 hb
                      replace BK9864 := kb BK9864 hb
                      replace BK9865 := kb BK9865 hb
                      replace BK9896 := kb BK9896 hb
                      replace HB := kh HB hb
                      (try clear hb)
                      refine hK.out _ _ ⟨bc BK9896 0, bc BK9896 1, bc BK9896 2, bc BK9864 0, bc BK9864 1, bc BK9864 2, bc BK9864 3, bc BK9864 4, bc BK9864 5⟩ (fun hHeld => ?_)
                      clear hK K
                      refine nrm (some 47) ?_
                      refine one_ (i := 9) (N := some 52) #[true, true, true, true, true, true, true, true, true, true, false, false] rfl rfl (one_of HT_.out (by kernel_rfl)) (by decide) (fun K hK => ?_)
                      refine gc Try.func35 #[.int .i64 (wrap64 ((wrap64 (a0)) + a1))] (ints_Point.calls (wrap64 ((wrap64 (a0)) + a1)) t9903 t9904 t9905 _ A49.out) ?_
                      intro w65 hb
                      replace BK9864 := kb BK9864 hb
                      replace BK9865 := kb BK9865 hb
                      replace BK9896 := kb BK9896 hb
                      replace HB := kh HB hb
                      (try clear hb)
                      refine hK.out _ _ ⟨bc BK9896 0, bc BK9896 1, bc BK9896 2, bc BK9864 0, bc BK9864 1, bc BK9864 2, bc BK9864 3, bc BK9864 4, bc BK9864 5⟩ (fun hHeld => ?_)
                      clear hK K
                      refine nrm (some 52) ?_
                      refine pur 10 (some 53) #[true, true, true, true, true, true, true, true, true, true, true, false] (any_of HT_.out (by kernel_rfl)) ?_
                      refine pur 11 (some 10) #[true, true, true, true, true, true, true, true, true, true, true, true] (any_of HT_.out (by kernel_rfl)) ?_
                      refine done_ (done_of HT_.out (by kernel_rfl)) ?_
                      try go_wp2
                      replace BK9864 := Aside0.mk (blk_drew BK9864.out)
                      replace BK9865 := Aside0.mk (blk_drew BK9865.out)
                      replace BK9896 := Aside0.mk (blk_drew BK9896.out)
                      replace HB := Aside0.mk (below_drew1 HB.out)
                      refine start_ (n := 12) (S := fun w' => w'.cell? ⟨gb9896, 0, none⟩ = some (.bool t9893) ∧ w'.cell? ⟨gb9896, 1, none⟩ = some (.int .i64 t9894) ∧ w'.cell? ⟨gb9896, 2, none⟩ = some (.int .i64 t9895) ∧ w'.cell? ⟨gb9865, 0, none⟩ = some (.bool x9866000_2) ∧ w'.cell? ⟨gb9865, 1, none⟩ = some (.int .i64 x9866001_2) ∧ w'.cell? ⟨gb9865, 2, none⟩ = some (.int .i64 x9866002_2) ∧ w'.cell? ⟨gb9865, 3, none⟩ = some (.bool x9866003_2) ∧ w'.cell? ⟨gb9865, 4, none⟩ = some (.int .i64 x9866004_2) ∧ w'.cell? ⟨gb9865, 5, none⟩ = some (.int .i64 x9866005_2)) (ds := []) #[false, false, false, false, false, false, false, false, false, false, false, false] (by kernel_rfl) rfl rfl ⟨bc BK9896 0, bc BK9896 1, bc BK9896 2, bc BK9865 0, bc BK9865 1, bc BK9865 2, bc BK9865 3, bc BK9865 4, bc BK9865 5⟩ (fun hHeld => ?_); refine with_tabW flyballlaw21_ClockCounts.tab15 flyballlaw21_ClockCounts.bits15 (fun HT_ HW_ => ?_)
                      generalize w65.drew = w66 at BK9864 BK9865 BK9896 HB hHeld ⊢
                      refine pur 4 (some 58) #[false, false, false, false, true, false, false, false, false, false, false, false] (any_of HT_.out (by kernel_rfl)) ?_
                      refine pur 5 (some 59) #[false, false, false, false, true, true, false, false, false, false, false, false] (any_of HT_.out (by kernel_rfl)) ?_
                      refine pur 6 (some 60) #[false, false, false, false, true, true, true, false, false, false, false, false] (any_of HT_.out (by kernel_rfl)) ?_
                      refine pur 7 (some 61) #[false, false, false, false, true, true, true, true, false, false, false, false] (any_of HT_.out (by kernel_rfl)) ?_
                      refine pur 8 (some 62) #[false, false, false, false, true, true, true, true, true, false, false, false] (any_of HT_.out (by kernel_rfl)) ?_
                      refine tak 0 (some 54) #[true, false, false, false, true, true, true, true, true, false, false, false] (take_ofW HT_.out HW_.out (by kernel_rfl)) hHeld ?_
                      refine tak 1 (some 55) #[true, true, false, false, true, true, true, true, true, false, false, false] (take_ofW HT_.out HW_.out (by kernel_rfl)) hHeld ?_
                      refine one_ (i := 2) (N := some 56) #[true, true, true, false, true, true, true, true, true, false, false, false] rfl rfl (one_of HT_.out (by kernel_rfl)) (by decide) (fun K hK => ?_)
                      refine gc Try.func37 #[.int .i64 0, .int .i64 2147483647] (ints_Make.calls 0 2147483647 t9906 t9907 t9908 _ A50.out) ?_
                      intro w67 hb
                      replace BK9864 := kb BK9864 hb
                      replace BK9865 := kb BK9865 hb
                      replace BK9896 := kb BK9896 hb
                      replace HB := kh HB hb
                      (try clear hb)
                      refine hK.out _ _ ⟨bc BK9896 0, bc BK9896 1, bc BK9896 2, bc BK9865 0, bc BK9865 1, bc BK9865 2, bc BK9865 3, bc BK9865 4, bc BK9865 5⟩ (fun hHeld => ?_)
                      clear hK K
                      refine nrm (some 56) ?_
                      refine one_ (i := 3) (N := some 57) #[true, true, true, true, true, true, true, true, true, false, false, false] rfl rfl (one_of HT_.out (by kernel_rfl)) (by decide) (fun K hK => ?_)
                      refine gc Try.func24 #[.agg #[.bool t9893, .int .i64 t9894, .int .i64 t9895], .agg #[.bool x9866000_2, .int .i64 x9866001_2, .int .i64 x9866002_2, .bool x9866003_2, .int .i64 x9866004_2, .int .i64 x9866005_2], .agg #[.bool t9906, .int .i64 t9907, .int .i64 t9908]] (clock_Reduce.calls k2 t9893 t9894 t9895 x9866000_2 x9866001_2 x9866002_2 x9866003_2 x9866004_2 x9866005_2 t9906 t9907 t9908 t9909 t9910 t9911 _ A51.out) ?_
                      intro w68 hb
                      replace BK9864 := kb BK9864 hb
                      replace BK9865 := kb BK9865 hb
                      replace BK9896 := kb BK9896 hb
                      replace HB := kh HB hb
                      (try clear hb)
                      refine hK.out _ _ ⟨bc BK9896 0, bc BK9896 1, bc BK9896 2, bc BK9865 0, bc BK9865 1, bc BK9865 2, bc BK9865 3, bc BK9865 4, bc BK9865 5⟩ (fun hHeld => ?_)
                      clear hK K
                      refine nrm (some 57) ?_
                      refine one_ (i := 9) (N := some 63) #[true, true, true, true, true, true, true, true, true, true, false, false] rfl rfl (one_of HT_.out (by kernel_rfl)) (by decide) (fun K hK => ?_)
                      refine gc Try.func37 #[.int .i64 (wrap64 (a0)), .int .i64 (wrap64 ((wrap64 (a0)) + 2147483647))] (ints_Make.calls (wrap64 (a0)) (wrap64 ((wrap64 (a0)) + 2147483647)) t9912 t9913 t9914 _ A52.out) ?_
                      intro w69 hb
                      replace BK9864 := kb BK9864 hb
                      replace BK9865 := kb BK9865 hb
                      replace BK9896 := kb BK9896 hb
                      replace HB := kh HB hb
                      (try clear hb)
                      refine hK.out _ _ ⟨bc BK9896 0, bc BK9896 1, bc BK9896 2, bc BK9865 0, bc BK9865 1, bc BK9865 2, bc BK9865 3, bc BK9865 4, bc BK9865 5⟩ (fun hHeld => ?_)
                      clear hK K
                      refine nrm (some 63) ?_
                      refine pur 10 (some 64) #[true, true, true, true, true, true, true, true, true, true, true, false] (any_of HT_.out (by kernel_rfl)) ?_
                      refine pur 11 (some 11) #[true, true, true, true, true, true, true, true, true, true, true, true] (any_of HT_.out (by kernel_rfl)) ?_
                      refine done_ (done_of HT_.out (by kernel_rfl)) ?_
                      try go_wp2
                      go_ret
                      exact ⟨pe, pl HB⟩
                    · rw [if_neg c55] at H
                      have c55b0 : (a1 == 0) = false := beq_eq_false_iff_ne.mpr c55
                      have c55b1 : (a1 != 0) = true := bne_iff_ne.mpr c55
                      obtain rfl := Option.some.inj H
                      try go_wp2_with (first | ((with_reducible refine gate_callee (f := 37) rfl ?_); refine kc (some 42) Try.func37 #[.int .i64 (-1099511627776), .int .i64 1099511627776] (ints_Make.calls (-1099511627776) 1099511627776 t9893 t9894 t9895 _ A46.out) ?_; intro w70 hb; replace BK9864 := kb BK9864 hb; replace BK9865 := kb BK9865 hb; replace HB := kh HB hb; (try clear hb)) | ((with_reducible refine gate_dst (N := 9) rfl ?_); refine kx 9 #[.bool false, .int .i64 0, .int .i64 0] 23 ?_; intro gb9896 hg w71 hbox hb; have BK9896 := Aside0.mk (hbox); have GW9896 := kg HB hg; have GE9896 := kg HB hg; have NB9864_9896 := kn BK9864 hg; have NB9896_9864 := km BK9864 hg; have NB9865_9896 := kn BK9865 hg; have NB9896_9865 := km BK9865 hg; replace BK9864 := kb BK9864 hb; replace BK9865 := kb BK9865 hb; replace HB := kh HB hb; clear hb hbox hg; have hnb72 := NB9896_9864.out; have hnc72 := NB9864_9896.out; have hnb73 := NB9896_9865.out; have hnc73 := NB9865_9896.out; have ⟨hcz74_0, hcz74_1, hcz74_2, hfz74_0, hfz74_1, hfz74_2⟩ := kz3f BK9896))
                      generalize hW_ : (((w71.setCell ⟨gb9896, 0, none⟩ (.bool t9893)).setCell ⟨gb9896, 1, none⟩ (.int .i64 t9894)).setCell ⟨gb9896, 2, none⟩ (.int .i64 t9895)) = w75
                      replace BK9864 := kr BK9864 hW_
                      replace BK9865 := kr BK9865 hW_
                      replace BK9896 := kr (o' := .cells #[.bool t9893, .int .i64 t9894, .int .i64 t9895] 23 (0, 0)) BK9896 hW_
                      replace HB := kq HB hW_
                      clear hW_
                      replace BK9864 := Aside0.mk (blk_drew BK9864.out)
                      replace BK9865 := Aside0.mk (blk_drew BK9865.out)
                      replace BK9896 := Aside0.mk (blk_drew BK9896.out)
                      replace HB := Aside0.mk (below_drew1 HB.out)
                      refine start_ (n := 12) (S := fun w' => w'.cell? ⟨gb9896, 0, none⟩ = some (.bool t9893) ∧ w'.cell? ⟨gb9896, 1, none⟩ = some (.int .i64 t9894) ∧ w'.cell? ⟨gb9896, 2, none⟩ = some (.int .i64 t9895) ∧ w'.cell? ⟨gb9864, 0, none⟩ = some (.bool x9865000_2) ∧ w'.cell? ⟨gb9864, 1, none⟩ = some (.int .i64 x9865001_2) ∧ w'.cell? ⟨gb9864, 2, none⟩ = some (.int .i64 x9865002_2) ∧ w'.cell? ⟨gb9864, 3, none⟩ = some (.bool x9865003_2) ∧ w'.cell? ⟨gb9864, 4, none⟩ = some (.int .i64 x9865004_2) ∧ w'.cell? ⟨gb9864, 5, none⟩ = some (.int .i64 x9865005_2)) (ds := []) #[false, false, false, false, false, false, false, false, false, false, false, false] (by kernel_rfl) rfl rfl ⟨bc BK9896 0, bc BK9896 1, bc BK9896 2, bc BK9864 0, bc BK9864 1, bc BK9864 2, bc BK9864 3, bc BK9864 4, bc BK9864 5⟩ (fun hHeld => ?_); refine with_tabW flyballlaw21_ClockCounts.tab14 flyballlaw21_ClockCounts.bits14 (fun HT_ HW_ => ?_)
                      generalize w75.drew = w76 at BK9864 BK9865 BK9896 HB hHeld ⊢
                      refine pur 2 (some 45) #[false, false, true, false, false, false, false, false, false, false, false, false] (any_of HT_.out (by kernel_rfl)) ?_
                      refine pur 5 (some 48) #[false, false, true, false, false, true, false, false, false, false, false, false] (any_of HT_.out (by kernel_rfl)) ?_
                      refine pur 6 (some 49) #[false, false, true, false, false, true, true, false, false, false, false, false] (any_of HT_.out (by kernel_rfl)) ?_
                      refine pur 7 (some 50) #[false, false, true, false, false, true, true, true, false, false, false, false] (any_of HT_.out (by kernel_rfl)) ?_
                      refine pur 8 (some 51) #[false, false, true, false, false, true, true, true, true, false, false, false] (any_of HT_.out (by kernel_rfl)) ?_
                      refine tak 0 (some 43) #[true, false, true, false, false, true, true, true, true, false, false, false] (take_ofW HT_.out HW_.out (by kernel_rfl)) hHeld ?_
                      refine tak 1 (some 44) #[true, true, true, false, false, true, true, true, true, false, false, false] (take_ofW HT_.out HW_.out (by kernel_rfl)) hHeld ?_
                      refine one_ (i := 3) (N := some 46) #[true, true, true, true, false, true, true, true, true, false, false, false] rfl rfl (one_of HT_.out (by kernel_rfl)) (by decide) (fun K hK => ?_)
                      refine gc Try.func35 #[.int .i64 a1] (ints_Point.calls a1 t9897 t9898 t9899 _ A47.out) ?_
                      intro w77 hb
                      replace BK9864 := kb BK9864 hb
                      replace BK9865 := kb BK9865 hb
                      replace BK9896 := kb BK9896 hb
                      replace HB := kh HB hb
                      (try clear hb)
                      refine hK.out _ _ ⟨bc BK9896 0, bc BK9896 1, bc BK9896 2, bc BK9864 0, bc BK9864 1, bc BK9864 2, bc BK9864 3, bc BK9864 4, bc BK9864 5⟩ (fun hHeld => ?_)
                      clear hK K
                      refine nrm (some 46) ?_
                      refine one_ (i := 4) (N := some 47) #[true, true, true, true, true, true, true, true, true, false, false, false] rfl rfl (one_of HT_.out (by kernel_rfl)) (by decide) (fun K hK => ?_)
                      refine gc Try.func24 #[.agg #[.bool t9893, .int .i64 t9894, .int .i64 t9895], .agg #[.bool x9865000_2, .int .i64 x9865001_2, .int .i64 x9865002_2, .bool x9865003_2, .int .i64 x9865004_2, .int .i64 x9865005_2], .agg #[.bool t9897, .int .i64 t9898, .int .i64 t9899]] (clock_Reduce.calls k2 t9893 t9894 t9895 x9865000_2 x9865001_2 x9865002_2 x9865003_2 x9865004_2 x9865005_2 t9897 t9898 t9899 t9900 t9901 t9902 _ A48.out) ?_
                      intro w78 hb
                      replace BK9864 := kb BK9864 hb
                      replace BK9865 := kb BK9865 hb
                      replace BK9896 := kb BK9896 hb
                      replace HB := kh HB hb
                      (try clear hb)
                      refine hK.out _ _ ⟨bc BK9896 0, bc BK9896 1, bc BK9896 2, bc BK9864 0, bc BK9864 1, bc BK9864 2, bc BK9864 3, bc BK9864 4, bc BK9864 5⟩ (fun hHeld => ?_)
                      clear hK K
                      refine nrm (some 47) ?_
                      refine one_ (i := 9) (N := some 52) #[true, true, true, true, true, true, true, true, true, true, false, false] rfl rfl (one_of HT_.out (by kernel_rfl)) (by decide) (fun K hK => ?_)
                      refine gc Try.func35 #[.int .i64 (wrap64 ((wrap64 (a0)) + a1))] (ints_Point.calls (wrap64 ((wrap64 (a0)) + a1)) t9903 t9904 t9905 _ A49.out) ?_
                      intro w79 hb
                      replace BK9864 := kb BK9864 hb
                      replace BK9865 := kb BK9865 hb
                      replace BK9896 := kb BK9896 hb
                      replace HB := kh HB hb
                      (try clear hb)
                      refine hK.out _ _ ⟨bc BK9896 0, bc BK9896 1, bc BK9896 2, bc BK9864 0, bc BK9864 1, bc BK9864 2, bc BK9864 3, bc BK9864 4, bc BK9864 5⟩ (fun hHeld => ?_)
                      clear hK K
                      refine nrm (some 52) ?_
                      refine pur 10 (some 53) #[true, true, true, true, true, true, true, true, true, true, true, false] (any_of HT_.out (by kernel_rfl)) ?_
                      refine pur 11 (some 10) #[true, true, true, true, true, true, true, true, true, true, true, true] (any_of HT_.out (by kernel_rfl)) ?_
                      refine done_ (done_of HT_.out (by kernel_rfl)) ?_
                      try go_wp2
                      replace BK9864 := Aside0.mk (blk_drew BK9864.out)
                      replace BK9865 := Aside0.mk (blk_drew BK9865.out)
                      replace BK9896 := Aside0.mk (blk_drew BK9896.out)
                      replace HB := Aside0.mk (below_drew1 HB.out)
                      refine start_ (n := 12) (S := fun w' => w'.cell? ⟨gb9896, 0, none⟩ = some (.bool t9893) ∧ w'.cell? ⟨gb9896, 1, none⟩ = some (.int .i64 t9894) ∧ w'.cell? ⟨gb9896, 2, none⟩ = some (.int .i64 t9895) ∧ w'.cell? ⟨gb9865, 0, none⟩ = some (.bool x9866000_2) ∧ w'.cell? ⟨gb9865, 1, none⟩ = some (.int .i64 x9866001_2) ∧ w'.cell? ⟨gb9865, 2, none⟩ = some (.int .i64 x9866002_2) ∧ w'.cell? ⟨gb9865, 3, none⟩ = some (.bool x9866003_2) ∧ w'.cell? ⟨gb9865, 4, none⟩ = some (.int .i64 x9866004_2) ∧ w'.cell? ⟨gb9865, 5, none⟩ = some (.int .i64 x9866005_2)) (ds := []) #[false, false, false, false, false, false, false, false, false, false, false, false] (by kernel_rfl) rfl rfl ⟨bc BK9896 0, bc BK9896 1, bc BK9896 2, bc BK9865 0, bc BK9865 1, bc BK9865 2, bc BK9865 3, bc BK9865 4, bc BK9865 5⟩ (fun hHeld => ?_); refine with_tabW flyballlaw21_ClockCounts.tab15 flyballlaw21_ClockCounts.bits15 (fun HT_ HW_ => ?_)
                      generalize w79.drew = w80 at BK9864 BK9865 BK9896 HB hHeld ⊢
                      refine pur 4 (some 58) #[false, false, false, false, true, false, false, false, false, false, false, false] (any_of HT_.out (by kernel_rfl)) ?_
                      refine pur 5 (some 59) #[false, false, false, false, true, true, false, false, false, false, false, false] (any_of HT_.out (by kernel_rfl)) ?_
                      refine pur 6 (some 60) #[false, false, false, false, true, true, true, false, false, false, false, false] (any_of HT_.out (by kernel_rfl)) ?_
                      refine pur 7 (some 61) #[false, false, false, false, true, true, true, true, false, false, false, false] (any_of HT_.out (by kernel_rfl)) ?_
                      refine pur 8 (some 62) #[false, false, false, false, true, true, true, true, true, false, false, false] (any_of HT_.out (by kernel_rfl)) ?_
                      refine tak 0 (some 54) #[true, false, false, false, true, true, true, true, true, false, false, false] (take_ofW HT_.out HW_.out (by kernel_rfl)) hHeld ?_
                      refine tak 1 (some 55) #[true, true, false, false, true, true, true, true, true, false, false, false] (take_ofW HT_.out HW_.out (by kernel_rfl)) hHeld ?_
                      refine one_ (i := 2) (N := some 56) #[true, true, true, false, true, true, true, true, true, false, false, false] rfl rfl (one_of HT_.out (by kernel_rfl)) (by decide) (fun K hK => ?_)
                      refine gc Try.func37 #[.int .i64 0, .int .i64 2147483647] (ints_Make.calls 0 2147483647 t9906 t9907 t9908 _ A50.out) ?_
                      intro w81 hb
                      replace BK9864 := kb BK9864 hb
                      replace BK9865 := kb BK9865 hb
                      replace BK9896 := kb BK9896 hb
                      replace HB := kh HB hb
                      (try clear hb)
                      refine hK.out _ _ ⟨bc BK9896 0, bc BK9896 1, bc BK9896 2, bc BK9865 0, bc BK9865 1, bc BK9865 2, bc BK9865 3, bc BK9865 4, bc BK9865 5⟩ (fun hHeld => ?_)
                      clear hK K
                      refine nrm (some 56) ?_
                      refine one_ (i := 3) (N := some 57) #[true, true, true, true, true, true, true, true, true, false, false, false] rfl rfl (one_of HT_.out (by kernel_rfl)) (by decide) (fun K hK => ?_)
                      refine gc Try.func24 #[.agg #[.bool t9893, .int .i64 t9894, .int .i64 t9895], .agg #[.bool x9866000_2, .int .i64 x9866001_2, .int .i64 x9866002_2, .bool x9866003_2, .int .i64 x9866004_2, .int .i64 x9866005_2], .agg #[.bool t9906, .int .i64 t9907, .int .i64 t9908]] (clock_Reduce.calls k2 t9893 t9894 t9895 x9866000_2 x9866001_2 x9866002_2 x9866003_2 x9866004_2 x9866005_2 t9906 t9907 t9908 t9909 t9910 t9911 _ A51.out) ?_
                      intro w82 hb
                      replace BK9864 := kb BK9864 hb
                      replace BK9865 := kb BK9865 hb
                      replace BK9896 := kb BK9896 hb
                      replace HB := kh HB hb
                      (try clear hb)
                      refine hK.out _ _ ⟨bc BK9896 0, bc BK9896 1, bc BK9896 2, bc BK9865 0, bc BK9865 1, bc BK9865 2, bc BK9865 3, bc BK9865 4, bc BK9865 5⟩ (fun hHeld => ?_)
                      clear hK K
                      refine nrm (some 57) ?_
                      refine one_ (i := 9) (N := some 63) #[true, true, true, true, true, true, true, true, true, true, false, false] rfl rfl (one_of HT_.out (by kernel_rfl)) (by decide) (fun K hK => ?_)
                      refine gc Try.func37 #[.int .i64 (wrap64 (a0)), .int .i64 (wrap64 ((wrap64 (a0)) + 2147483647))] (ints_Make.calls (wrap64 (a0)) (wrap64 ((wrap64 (a0)) + 2147483647)) t9912 t9913 t9914 _ A52.out) ?_
                      intro w83 hb
                      replace BK9864 := kb BK9864 hb
                      replace BK9865 := kb BK9865 hb
                      replace BK9896 := kb BK9896 hb
                      replace HB := kh HB hb
                      (try clear hb)
                      refine hK.out _ _ ⟨bc BK9896 0, bc BK9896 1, bc BK9896 2, bc BK9865 0, bc BK9865 1, bc BK9865 2, bc BK9865 3, bc BK9865 4, bc BK9865 5⟩ (fun hHeld => ?_)
                      clear hK K
                      refine nrm (some 63) ?_
                      refine pur 10 (some 64) #[true, true, true, true, true, true, true, true, true, true, true, false] (any_of HT_.out (by kernel_rfl)) ?_
                      refine pur 11 (some 11) #[true, true, true, true, true, true, true, true, true, true, true, true] (any_of HT_.out (by kernel_rfl)) ?_
                      refine done_ (done_of HT_.out (by kernel_rfl)) ?_
                      try go_wp2
                      go_ret
                      exact ⟨pe, pl HB⟩
                  · rw [if_neg c54] at H
                    exact absurd H (by simp)
                · exact absurd rfl c53
  · replace c4 := Bool.eq_false_iff.mpr c4
    subst c4
    rw [if_neg (show ¬ (false = true) by decide)] at H
    obtain rfl := Option.some.inj H
    go_enter Try.func6, Try.ntmps6
    go_wp2_with (first | ((with_reducible refine gate_callee (f := 13) rfl ?_); refine kc (some 12) Try.func13 #[] (flyballlaw21_works.calls k  false _ A3.out) ?_; intro w84 hb; replace HB := kh HB hb; (try clear hb)))
    go_ret
    exact ⟨pe, pl HB⟩
/-- THE ONE PURE STATEMENT of flyballlaw21_ClockCounts: yours. -/
def flyballlaw21_ClockCounts.Pure : Prop := ∀ (a0 : Int) (a1 : Int), (Lit.int .i32 a0).wf = true → (Lit.int .i64 a1).wf = true → ∃ k, flyballlaw21_ClockCounts.f k a0 a1 = some true
theorem flyballlaw21_ClockCounts.walk (P : flyballlaw21_ClockCounts.Pure) (a0 : Int) (a1 : Int) (w : World) (w0 : (Lit.int .i32 a0).wf = true) (w1 : (Lit.int .i64 a1).wf = true) :
    Calls Try.prog 6 #[.int .i32 a0, .int .i64 a1] w fun e w' => e = .returned (.bool true) ∧ Below w.heap.size w w' := by
  obtain ⟨k, h⟩ := P a0 a1 w0 w1
  refine (flyballlaw21_ClockCounts.calls k a0 a1 true w h).mono ?_
  rintro e w' ⟨rfl, hd⟩
  exact ⟨rfl, hd⟩
end Go.Proofs.Ytinmgnlofininaa.PAll
end
