/- Functions of the print, turned to this claim. -/
import Derived.Test.YtinmgnlofininaaZHW
import Derived.Test.YtinmgnlofininaaZHx0
import Derived.Test.YtinmgnlofininaaZHx1
import Derived.Test.YtinmgnlofininaaZHx3
import Derived.Test.YtinmgnlofininaaZHx4
import Derived.Test.YtinmgnlofininaaZHx5
import Derived.Test.YtinmgnlofininaaZHx6
import Derived.Test.YtinmgnlofininaaZHx8
import Derived.Test.YtinmgnlofininaaZHx10
import Derived.Test.YtinmgnlofininaaZHx16
import Derived.Test.YtinmgnlofininaaZHx19
import Derived.Test.YtinmgnlofininaaZHx20
section
namespace Go.Proofs.Ytinmgnlofininaa.PAll
open Go.RowKit Go.Proofs.YtinmgnlofininaaW.PrintWords Go.Proofs.YtinmgnlofininaaW.PrintLast Go.Proofs.YtinmgnlofininaaW.PrintMore
attribute [local go_sem] max2_int min2_int max_two min_two max_three min_three max_four min_four   -- for this text's walks alone
set_option linter.unusedVariables false
set_option linter.unusedSimpArgs false
attribute [local go_sem high] eqA23
/-! ### flyballlaw17_IntsHulls: function 8 -/
def flyballlaw17_IntsHulls.j0 : Nat → Bool → Bool → Bool → Int → Int → Bool → Int → Int → Option (Bool)
  | 0, _, _, _, _, _, _, _, _ => none
  | k + 1, x5, x19, x6402000, x6402001, x6402002, x6403000, x6403001, x6403002 => if x19 = true then (some x5) else ((ints_Point.f 0).bind fun bt6406 => ((ints_Neg.f x6402000 x6402001 x6402002).bind fun bt6410 => ((flyballref17_Hull.f k 1 bt6406.1 bt6406.2.1 bt6406.2.2 x6402000 x6402001 x6402002).bind fun bt6413 => ((flyballref17_Norm.f bt6413.1 bt6413.2.1 bt6413.2.2).bind fun bt6416 => ((ints_Make.f 0 1099511627776).bind fun bt6419 => ((ints_Meet.f k x6402000 x6402001 x6402002 bt6419.1 bt6419.2.1 bt6419.2.2).bind fun bt6422 => ((ints_Neg.f x6402000 x6402001 x6402002).bind fun bt6425 => ((ints_Make.f 0 1099511627776).bind fun bt6428 => ((ints_Meet.f k bt6425.1 bt6425.2.1 bt6425.2.2 bt6428.1 bt6428.2.1 bt6428.2.2).bind fun bt6431 => ((ints_Join.f k (([(⟨bt6422.1, bt6422.2.1, bt6422.2.2⟩ : S23), (⟨bt6431.1, bt6431.2.1, bt6431.2.2⟩ : S23)] : List (S23)))).bind fun bt6437 => (if x5 = true then (if (bt6410.1 == bt6416.1 && (bt6410.2.1 == bt6416.2.1 && (bt6410.2.2 == bt6416.2.2))) = true then ((ints_Abs.f k x6402000 x6402001 x6402002).bind fun bt6441 => (if (bt6441.1 == bt6437.1 && (bt6441.2.1 == bt6437.2.1 && (bt6441.2.2 == bt6437.2.2))) = true then ((ints_Add.f k x6402000 x6402001 x6402002 x6403000 x6403001 x6403002).bind fun bt6444 => ((flyballref17_Hull.f k 0 x6402000 x6402001 x6402002 x6403000 x6403001 x6403002).bind fun bt6447 => (if (bt6444.1 == bt6447.1 && (bt6444.2.1 == bt6447.2.1 && (bt6444.2.2 == bt6447.2.2))) = true then ((ints_Sub.f k x6402000 x6402001 x6402002 x6403000 x6403001 x6403002).bind fun bt6450 => ((flyballref17_Hull.f k 1 x6402000 x6402001 x6402002 x6403000 x6403001 x6403002).bind fun bt6453 => (if (bt6450.1 == bt6453.1 && (bt6450.2.1 == bt6453.2.1 && (bt6450.2.2 == bt6453.2.2))) = true then ((ints_Mul.f k x6402000 x6402001 x6402002 x6403000 x6403001 x6403002).bind fun bt6456 => ((flyballref17_Hull.f k 2 x6402000 x6402001 x6402002 x6403000 x6403001 x6403002).bind fun bt6459 => (if (bt6456.1 == bt6459.1 && (bt6456.2.1 == bt6459.2.1 && (bt6456.2.2 == bt6459.2.2))) = true then ((ints_Div.f k x6402000 x6402001 x6402002 x6403000 x6403001 x6403002).bind fun bt6462 => ((flyballref17_Hull.f k 3 x6402000 x6402001 x6402002 x6403000 x6403001 x6403002).bind fun bt6465 => (some (bt6462.1 == bt6465.1 && (bt6462.2.1 == bt6465.2.1 && (bt6462.2.2 == bt6465.2.2)))))) else (none)))) else (none)))) else (none)))) else (none))) else (none)) else (none))))))))))))
def flyballlaw17_IntsHulls.f (k : Nat) (a0_0 : Bool) (a0_1 : Int) (a0_2 : Int) (a1_0 : Bool) (a1_1 : Int) (a1_2 : Int) : Option (Bool) := (flyballlaw17_works.f k).bind fun t6403 => (if t6403 = true then ((flyballref17_Small.f a0_0 a0_1 a0_2 12).bind fun t6404 => (if t6404 = true then ((flyballref17_Small.f a1_0 a1_1 a1_2 12).bind fun t6405 => (flyballlaw17_IntsHulls.j0 k t6403 (!t6405) a0_0 a0_1 a0_2 a1_0 a1_1 a1_2)) else (flyballlaw17_IntsHulls.j0 k t6403 true a0_0 a0_1 a0_2 a1_0 a1_1 a1_2))) else (some false))
theorem flyballlaw17_IntsHulls.mono_l : ∀ k, (∀ y0 y1 y2 y3 y4 y5 y6 y7, LeO (flyballlaw17_IntsHulls.j0 k y0 y1 y2 y3 y4 y5 y6 y7) (flyballlaw17_IntsHulls.j0 (k + 1) y0 y1 y2 y3 y4 y5 y6 y7))
  | 0 => fun _ _ _ _ _ _ _ _ r h => by simp [flyballlaw17_IntsHulls.j0] at h
  | k + 1 => by
    have ih0 := flyballlaw17_IntsHulls.mono_l k
    · intro y0 y1 y2 y3 y4 y5 y6 y7
      unfold flyballlaw17_IntsHulls.j0
      repeat' first
      | (with_reducible exact ih0 _ _ _ _ _ _ _ _)
      | (with_reducible exact flyballlaw17_works.mono _)
      | (with_reducible exact flyballref17_Hull.mono _ _ _ _ _ _ _ _)
      | (with_reducible exact ints_Abs.mono _ _ _ _)
      | (with_reducible exact ints_Add.mono _ _ _ _ _ _ _)
      | (with_reducible exact ints_Div.mono _ _ _ _ _ _ _)
      | (with_reducible exact ints_Join.mono _ _)
      | (with_reducible exact ints_Meet.mono _ _ _ _ _ _ _)
      | (with_reducible exact ints_Mul.mono _ _ _ _ _ _ _)
      | (with_reducible exact ints_Sub.mono _ _ _ _ _ _ _)
      | (with_reducible exact LeO.refl _)
      | (with_reducible exact LeO.none _)
      | (with_reducible refine LeO.ite ?_ ?_)
      | (with_reducible refine LeO.bind ?_ (fun _ => ?_))
      | exact ih0 _ _ _ _ _ _ _ _
      | exact flyballlaw17_works.mono _
      | exact flyballref17_Hull.mono _ _ _ _ _ _ _ _
      | exact ints_Abs.mono _ _ _ _
      | exact ints_Add.mono _ _ _ _ _ _ _
      | exact ints_Div.mono _ _ _ _ _ _ _
      | exact ints_Join.mono _ _
      | exact ints_Meet.mono _ _ _ _ _ _ _
      | exact ints_Mul.mono _ _ _ _ _ _ _
      | exact ints_Sub.mono _ _ _ _ _ _ _
      | exact LeO.none _
      | refine LeO.ite ?_ ?_
      | refine LeO.bind ?_ (fun _ => ?_)
theorem flyballlaw17_IntsHulls.mono : ∀ a0 a1 a2 a3 a4 a5 k, LeO (flyballlaw17_IntsHulls.f k a0 a1 a2 a3 a4 a5) (flyballlaw17_IntsHulls.f (k + 1) a0 a1 a2 a3 a4 a5) := by
  intro a0 a1 a2 a3 a4 a5 k
  have ih0 := flyballlaw17_IntsHulls.mono_l k
  unfold flyballlaw17_IntsHulls.f
  repeat' first
      | (with_reducible exact ih0 _ _ _ _ _ _ _ _)
      | (with_reducible exact flyballlaw17_works.mono _)
      | (with_reducible exact flyballref17_Hull.mono _ _ _ _ _ _ _ _)
      | (with_reducible exact ints_Abs.mono _ _ _ _)
      | (with_reducible exact ints_Add.mono _ _ _ _ _ _ _)
      | (with_reducible exact ints_Div.mono _ _ _ _ _ _ _)
      | (with_reducible exact ints_Join.mono _ _)
      | (with_reducible exact ints_Meet.mono _ _ _ _ _ _ _)
      | (with_reducible exact ints_Mul.mono _ _ _ _ _ _ _)
      | (with_reducible exact ints_Sub.mono _ _ _ _ _ _ _)
      | (with_reducible exact LeO.refl _)
      | (with_reducible exact LeO.none _)
      | (with_reducible refine LeO.ite ?_ ?_)
      | (with_reducible refine LeO.bind ?_ (fun _ => ?_))
      | exact ih0 _ _ _ _ _ _ _ _
      | exact flyballlaw17_works.mono _
      | exact flyballref17_Hull.mono _ _ _ _ _ _ _ _
      | exact ints_Abs.mono _ _ _ _
      | exact ints_Add.mono _ _ _ _ _ _ _
      | exact ints_Div.mono _ _ _ _ _ _ _
      | exact ints_Join.mono _ _
      | exact ints_Meet.mono _ _ _ _ _ _ _
      | exact ints_Mul.mono _ _ _ _ _ _ _
      | exact ints_Sub.mono _ _ _ _ _ _ _
      | exact LeO.none _
      | refine LeO.ite ?_ ?_
      | refine LeO.bind ?_ (fun _ => ?_)
def flyballlaw17_IntsHulls.T7 : Bool × List (List Nat × List Nat) := (true, [([], []), ([0], [0]), ([], []), ([], []), ([2, 3, 1], [2, 3]), ([4, 4], [4]), ([1, 5], [1, 5]), ([6, 5, 0, 1, 2, 3, 4, 5, 6], [6])])
def flyballlaw17_IntsHulls.B7 : List Nat := [0, 1, 0, 0, 15, 31, 63, 127]
theorem flyballlaw17_IntsHulls.tab7 : rtab .any (opsOf Try.f8 7) = flyballlaw17_IntsHulls.T7 := by kernel_rfl
theorem flyballlaw17_IntsHulls.bits7 : waitsOk flyballlaw17_IntsHulls.T7.2 flyballlaw17_IntsHulls.B7 = true := by kernel_rfl
def flyballlaw17_IntsHulls.T8 : Bool × List (List Nat × List Nat) := (true, [([], []), ([], []), ([0, 1, 1], [0, 1]), ([], []), ([3, 2], [3]), ([4], []), ([4, 5, 5], [4, 5]), ([2, 6], [2, 6]), ([7, 6], [7]), ([], []), ([9, 8, 8, 0, 1, 2, 3, 4, 5, 6, 7, 8, 9], [8, 9])])
def flyballlaw17_IntsHulls.B8 : List Nat := [0, 0, 3, 0, 15, 31, 63, 127, 255, 0, 1023]
theorem flyballlaw17_IntsHulls.tab8 : rtab .any (opsOf Try.f8 8) = flyballlaw17_IntsHulls.T8 := by kernel_rfl
theorem flyballlaw17_IntsHulls.bits8 : waitsOk flyballlaw17_IntsHulls.T8.2 flyballlaw17_IntsHulls.B8 = true := by kernel_rfl
def flyballlaw17_IntsHulls.T9 : Bool × List (List Nat × List Nat) := (true, [([], []), ([0], [0]), ([1], [1]), ([1, 2], [1, 2]), ([3, 1], [3]), ([4], [4]), ([5, 4, 4], [4, 5]), ([4], [4]), ([6, 7, 4], [4, 6, 7]), ([4, 8], [4, 8]), ([9, 6], [9]), ([10], [10]), ([10], [10]), ([11, 12, 10, 10], [10, 11, 12]), ([10], [10]), ([10], [10]), ([14, 15, 13, 10], [10, 14, 15]), ([13, 16, 10], [10, 13, 16]), ([10, 17], [10, 17]), ([18, 16], [18]), ([19], [19]), ([19], [19]), ([20, 21, 19, 19], [19, 20, 21]), ([19], [19]), ([19], [19]), ([23, 24, 22, 19], [19, 23, 24]), ([22, 25, 19], [19, 22, 25]), ([19, 26], [19, 26]), ([27, 25], [27]), ([28], [28]), ([28], [28]), ([29, 30, 28, 28], [28, 29, 30]), ([28], [28]), ([28], [28]), ([32, 33, 31, 28], [28, 32, 33]), ([31, 34, 28], [28, 31, 34]), ([28, 35], [28, 35]), ([36, 34], [36]), ([37], [37]), ([37], [37]), ([38, 39, 37, 37], [37, 38, 39]), ([37], [37]), ([37], [37]), ([41, 42, 40, 37], [37, 41, 42]), ([40, 43, 37], [37, 40, 43]), ([37, 44], [37, 44]), ([45, 43, 0, 1, 2, 3, 4, 5, 6, 7, 8, 9, 10, 11, 12, 13, 14, 15, 16, 17, 18, 19, 20, 21, 22, 23, 24, 25, 26, 27, 28, 29, 30, 31, 32, 33, 34, 35, 36, 37, 38, 39, 40, 41, 42, 43, 44, 45], [45])])
def flyballlaw17_IntsHulls.B9 : List Nat := [0, 1, 3, 7, 15, 31, 63, 31, 255, 511, 1023, 2047, 2047, 8191, 2047, 2047, 65535, 131071, 262143, 524287, 1048575, 1048575, 4194303, 1048575, 1048575, 33554431, 67108863, 134217727, 268435455, 536870911, 536870911, 2147483647, 536870911, 536870911, 17179869183, 34359738367, 68719476735, 137438953471, 274877906943, 274877906943, 1099511627775, 274877906943, 274877906943, 8796093022207, 17592186044415, 35184372088831, 70368744177663]
theorem flyballlaw17_IntsHulls.tab9 : rtab .any (opsOf Try.f8 9) = flyballlaw17_IntsHulls.T9 := by kernel_rfl
theorem flyballlaw17_IntsHulls.bits9 : waitsOk flyballlaw17_IntsHulls.T9.2 flyballlaw17_IntsHulls.B9 = true := by kernel_rfl
set_option maxHeartbeats 8000000 in
set_option maxRecDepth 100000 in
theorem flyballlaw17_IntsHulls.calls (k : Nat) (a0_0 : Bool) (a0_1 : Int) (a0_2 : Int) (a1_0 : Bool) (a1_1 : Int) (a1_2 : Int) (r : Bool) (w : World) (h : flyballlaw17_IntsHulls.f k a0_0 a0_1 a0_2 a1_0 a1_1 a1_2 = some r) :
    Calls Try.prog 8 #[.agg #[.bool a0_0, .int .i64 a0_1, .int .i64 a0_2], .agg #[.bool a1_0, .int .i64 a1_1, .int .i64 a1_2]] w fun e w' => e = .returned (.bool r) ∧ Below w.heap.size w w' := by
  have hu23 := Try.underlying23
  have HB := Aside0.mk (Below.refl w.heap.size w)
  have H := h
  clear h
  unfold flyballlaw17_IntsHulls.f at H
  obtain ⟨t6403, A30, H⟩ := Option.bind_eq_some_iff.mp H
  have A3 := Aside0.mk A30
  clear A30
  (try dsimp only at H)
  by_cases c4 : t6403 = true
  · subst c4
    rw [if_pos rfl] at H
    have HC5 := Aside0.mk H
    clear H
    go_enter Try.func8, Try.ntmps8
    go_upto_region 4 with (first | ((with_reducible refine gate_dst (N := 2) rfl ?_); refine kx 2 #[.bool a0_0, .int .i64 a0_1, .int .i64 a0_2] 23 ?_; intro gb6401 hg w6 hbox hb; have BK6401 := Aside0.mk (hbox); have GW6401 := kg HB hg; have GE6401 := kg HB hg; replace HB := kh HB hb; clear hb hbox hg) | ((with_reducible refine gate_dst (N := 3) rfl ?_); refine kx 3 #[.bool a1_0, .int .i64 a1_1, .int .i64 a1_2] 23 ?_; intro gb6402 hg w7 hbox hb; have BK6402 := Aside0.mk (hbox); have GW6402 := kg HB hg; have GE6402 := kg HB hg; have NB6401_6402 := kn BK6401 hg; have NB6402_6401 := km BK6401 hg; replace BK6401 := kb BK6401 hb; replace HB := kh HB hb; clear hb hbox hg) | ((with_reducible refine gate_callee (f := 38) rfl ?_); refine kc (some 9) Try.func38 #[] (flyballlaw17_works.calls k  true _ A3.out) ?_; intro w8 hb; replace BK6401 := kb BK6401 hb; replace BK6402 := kb BK6402 hb; replace HB := kh HB hb; (try clear hb); (try clear hb2); (try clear hk); (try clear hi)))
    (try simp only [Act.put, List.setIfInBounds_toArray, List.set_cons_zero, List.set_cons_succ])
    go_cut [19] (fun v19 wc => ∃ (kq : Nat) (x19_4 : Bool), v19 = .bool x19_4 ∧ Aside0 (flyballlaw17_IntsHulls.j0 kq true x19_4 a0_0 a0_1 a0_2 a1_0 a1_1 a1_2 = some r) ∧ Aside0 (kq ≤ k) ∧ Aside0 (wc.heap[gb6401]? = some (.cells #[.bool a0_0, .int .i64 a0_1, .int .i64 a0_2] 23 (0, 0))) ∧ Aside0 (wc.heap[gb6402]? = some (.cells #[.bool a1_0, .int .i64 a1_1, .int .i64 a1_2] 23 (0, 0))) ∧ Aside0 (Below w.heap.size w wc))
    case first =>
      have H := HC5.out
      clear HC5
      obtain ⟨t6404, A90, H⟩ := Option.bind_eq_some_iff.mp H
      have A9 := Aside0.mk A90
      clear A90
      (try dsimp only at H)
      by_cases c10 : t6404 = true
      · subst c10
        rw [if_pos rfl] at H
        obtain ⟨t6405, A110, H⟩ := Option.bind_eq_some_iff.mp H
        have A11 := Aside0.mk A110
        clear A110
        (try dsimp only at H)
        have H' := Aside0.mk H
        clear H
        have hnb12 := NB6401_6402.out
        have hnc12 := NB6402_6401.out
        have ⟨hcz13_0, hcz13_1, hcz13_2, hfz13_0, hfz13_1, hfz13_2⟩ := kz3f BK6401
        go_wp2_with (first | ((with_reducible refine gate_callee (f := 47) rfl ?_); refine kc (some 13) Try.func47 #[.agg #[.bool a0_0, .int .i64 a0_1, .int .i64 a0_2], .int .i64 12] (flyballref17_Small.calls a0_0 a0_1 a0_2 12 true _ A9.out) ?_; intro w14 hb; replace BK6401 := kb BK6401 hb; replace BK6402 := kb BK6402 hb; replace HB := kh HB hb; (try clear hb); (try clear hb2); (try clear hk); (try clear hi); have ⟨hcz15_0, hcz15_1, hcz15_2, hfz15_0, hfz15_1, hfz15_2⟩ := kz3f BK6402) | (go_at_call 47; (with_reducible refine (flyballref17_Small.calls a1_0 a1_1 a1_2 12 t6405 _ A11.out).mono ?_); rintro e w16 ⟨rfl, hb⟩; replace BK6401 := kb BK6401 hb; replace BK6402 := kb BK6402 hb; replace HB := kh HB hb; (try clear hb); (try clear hb2); (try clear hk); (try clear hi)))
        go_meet
        case rel => exact ⟨_, (!t6405), (by first | rfl | (simp; done) | (simp [*]; done)), H', ⟨by first | omega | exact Nat.le_refl _⟩, ⟨pk BK6401⟩, ⟨pk BK6402⟩, ⟨pl HB⟩⟩
      · replace c10 := Bool.eq_false_iff.mpr c10
        subst c10
        rw [if_neg (show ¬ (false = true) by decide)] at H
        have H' := Aside0.mk H
        clear H
        have hnb17 := NB6401_6402.out
        have hnc17 := NB6402_6401.out
        have ⟨hcz18_0, hcz18_1, hcz18_2, hfz18_0, hfz18_1, hfz18_2⟩ := kz3f BK6401
        go_wp2_with (first | ((with_reducible refine gate_callee (f := 47) rfl ?_); refine kc (some 13) Try.func47 #[.agg #[.bool a0_0, .int .i64 a0_1, .int .i64 a0_2], .int .i64 12] (flyballref17_Small.calls a0_0 a0_1 a0_2 12 false _ A9.out) ?_; intro w19 hb; replace BK6401 := kb BK6401 hb; replace BK6402 := kb BK6402 hb; replace HB := kh HB hb; (try clear hb); (try clear hb2); (try clear hk); (try clear hi)))
        go_meet
        case rel => exact ⟨_, (true), (by first | rfl | (simp; done) | (simp [*]; done)), H', ⟨by first | omega | exact Nat.le_refl _⟩, ⟨pk BK6401⟩, ⟨pk BK6402⟩, ⟨pl HB⟩⟩
    case rest =>
      clear HC5
      try clear c1
      try clear p2
      try clear c3
      try clear c4
      try clear c8
      try clear c10
      try clear c12
      try clear c17
      try clear hcz13_0
      try clear hcz13_1
      try clear hcz13_2
      try clear hcz15_0
      try clear hcz15_1
      try clear hcz15_2
      try clear hcz18_0
      try clear hcz18_1
      try clear hcz18_2
      try clear hfz13_0
      try clear hfz13_1
      try clear hfz13_2
      try clear hfz15_0
      try clear hfz15_1
      try clear hfz15_2
      try clear hfz18_0
      try clear hfz18_1
      try clear hfz18_2
      obtain ⟨kq, x19_4, rfl, HA, HJ4, BK6401, BK6402, HB⟩ := hcut
      cases kq with
      | zero => exact absurd HA.out (by simp [flyballlaw17_IntsHulls.j0])
      | succ kj4 =>
        have H := HA.out
        clear HA
        simp only [flyballlaw17_IntsHulls.j0] at H
        by_cases c20 : x19_4 = true
        · subst c20
          rw [if_pos rfl] at H
          obtain rfl := Option.some.inj H
          go_wp2
          go_ret
          exact ⟨pe, pl HB⟩
        · replace c20 := Bool.eq_false_iff.mpr c20
          subst c20
          rw [if_neg (show ¬ (false = true) by decide)] at H
          obtain ⟨⟨t6406, t6407, t6408⟩, A210, H⟩ := Option.bind_eq_some_iff.mp H
          have A21 := Aside0.mk A210
          clear A210
          (try dsimp only at H)
          obtain ⟨⟨t6410, t6411, t6412⟩, A220, H⟩ := Option.bind_eq_some_iff.mp H
          have A22 := Aside0.mk A220
          clear A220
          (try dsimp only at H)
          obtain ⟨⟨t6413, t6414, t6415⟩, A230, H⟩ := Option.bind_eq_some_iff.mp H
          have A23 := Aside0.mk A230
          clear A230
          (try dsimp only at H)
          obtain ⟨⟨t6416, t6417, t6418⟩, A240, H⟩ := Option.bind_eq_some_iff.mp H
          have A24 := Aside0.mk A240
          clear A240
          (try dsimp only at H)
          obtain ⟨⟨t6419, t6420, t6421⟩, A250, H⟩ := Option.bind_eq_some_iff.mp H
          have A25 := Aside0.mk A250
          clear A250
          (try dsimp only at H)
          obtain ⟨⟨t6422, t6423, t6424⟩, A260, H⟩ := Option.bind_eq_some_iff.mp H
          have A26 := Aside0.mk A260
          clear A260
          (try dsimp only at H)
          obtain ⟨⟨t6425, t6426, t6427⟩, A270, H⟩ := Option.bind_eq_some_iff.mp H
          have A27 := Aside0.mk A270
          clear A270
          (try dsimp only at H)
          obtain ⟨⟨t6428, t6429, t6430⟩, A280, H⟩ := Option.bind_eq_some_iff.mp H
          have A28 := Aside0.mk A280
          clear A280
          (try dsimp only at H)
          obtain ⟨⟨t6431, t6432, t6433⟩, A290, H⟩ := Option.bind_eq_some_iff.mp H
          have A29 := Aside0.mk A290
          clear A290
          (try dsimp only at H)
          obtain ⟨y6434, hy6434⟩ : ∃ y_ : List (S23), y_ = (([(⟨t6422, t6423, t6424⟩ : S23), (⟨t6431, t6432, t6433⟩ : S23)] : List (S23))) := ⟨_, rfl⟩
          replace H : ((ints_Join.f kj4 y6434).bind fun bt6437 => (if true = true then (if (t6410 == t6416 && (t6411 == t6417 && (t6412 == t6418))) = true then ((ints_Abs.f kj4 a0_0 a0_1 a0_2).bind fun bt6441 => (if (bt6441.1 == bt6437.1 && (bt6441.2.1 == bt6437.2.1 && (bt6441.2.2 == bt6437.2.2))) = true then ((ints_Add.f kj4 a0_0 a0_1 a0_2 a1_0 a1_1 a1_2).bind fun bt6444 => ((flyballref17_Hull.f kj4 0 a0_0 a0_1 a0_2 a1_0 a1_1 a1_2).bind fun bt6447 => (if (bt6444.1 == bt6447.1 && (bt6444.2.1 == bt6447.2.1 && (bt6444.2.2 == bt6447.2.2))) = true then ((ints_Sub.f kj4 a0_0 a0_1 a0_2 a1_0 a1_1 a1_2).bind fun bt6450 => ((flyballref17_Hull.f kj4 1 a0_0 a0_1 a0_2 a1_0 a1_1 a1_2).bind fun bt6453 => (if (bt6450.1 == bt6453.1 && (bt6450.2.1 == bt6453.2.1 && (bt6450.2.2 == bt6453.2.2))) = true then ((ints_Mul.f kj4 a0_0 a0_1 a0_2 a1_0 a1_1 a1_2).bind fun bt6456 => ((flyballref17_Hull.f kj4 2 a0_0 a0_1 a0_2 a1_0 a1_1 a1_2).bind fun bt6459 => (if (bt6456.1 == bt6459.1 && (bt6456.2.1 == bt6459.2.1 && (bt6456.2.2 == bt6459.2.2))) = true then ((ints_Div.f kj4 a0_0 a0_1 a0_2 a1_0 a1_1 a1_2).bind fun bt6462 => ((flyballref17_Hull.f kj4 3 a0_0 a0_1 a0_2 a1_0 a1_1 a1_2).bind fun bt6465 => (some (bt6462.1 == bt6465.1 && (bt6462.2.1 == bt6465.2.1 && (bt6462.2.2 == bt6465.2.2)))))) else (none)))) else (none)))) else (none)))) else (none))) else (none)) else (none))) = some r := by first | (rw [hy6434]; with_reducible exact H) | (have H2_ := (Option.bind_some _ _).symm.trans H; rw [hy6434]; with_reducible exact H2_) | (have H2_ := (Option.bind_some _ _).symm.trans H; with_reducible exact H2_) | with_reducible exact H | (rw [hy6434]; exact H) | exact H
          have Ny6434 := Aside0.mk hy6434
          clear hy6434
          obtain ⟨⟨t6437, t6438, t6439⟩, A300, H⟩ := Option.bind_eq_some_iff.mp H
          have A30 := Aside0.mk A300
          clear A300
          (try dsimp only at H)
          by_cases c31 : true = true
          · clear c31
            (try rw [if_pos rfl] at H)
            by_cases c32 : (t6410 == t6416 && (t6411 == t6417 && (t6412 == t6418))) = true
            · rw [if_pos c32] at H
              have c32b0 : (t6410 == t6416 && (t6411 == t6417 && (t6412 == t6418))) = true := c32
              (try (have c32b1 : decide (t6410 = t6416 && (t6411 == t6417 && (t6412 == t6418))) = true := by simpa using c32))
              (try (have c32b2 : (t6410 == t6416 && (t6411 == t6417 && (t6412 == t6418))) = true := by simpa using c32))
              clear c32
              obtain ⟨⟨t6441, t6442, t6443⟩, A330, H⟩ := Option.bind_eq_some_iff.mp H
              have A33 := Aside0.mk A330
              clear A330
              (try dsimp only at H)
              by_cases c34 : (t6441 == t6437 && (t6442 == t6438 && (t6443 == t6439))) = true
              · rw [if_pos c34] at H
                have c34b0 : (t6441 == t6437 && (t6442 == t6438 && (t6443 == t6439))) = true := c34
                (try (have c34b1 : decide (t6441 = t6437 && (t6442 == t6438 && (t6443 == t6439))) = true := by simpa using c34))
                (try (have c34b2 : (t6441 == t6437 && (t6442 == t6438 && (t6443 == t6439))) = true := by simpa using c34))
                clear c34
                obtain ⟨⟨t6444, t6445, t6446⟩, A350, H⟩ := Option.bind_eq_some_iff.mp H
                have A35 := Aside0.mk A350
                clear A350
                (try dsimp only at H)
                obtain ⟨⟨t6447, t6448, t6449⟩, A360, H⟩ := Option.bind_eq_some_iff.mp H
                have A36 := Aside0.mk A360
                clear A360
                (try dsimp only at H)
                by_cases c37 : (t6444 == t6447 && (t6445 == t6448 && (t6446 == t6449))) = true
                · rw [if_pos c37] at H
                  have c37b0 : (t6444 == t6447 && (t6445 == t6448 && (t6446 == t6449))) = true := c37
                  (try (have c37b1 : decide (t6444 = t6447 && (t6445 == t6448 && (t6446 == t6449))) = true := by simpa using c37))
                  (try (have c37b2 : (t6444 == t6447 && (t6445 == t6448 && (t6446 == t6449))) = true := by simpa using c37))
                  clear c37
                  obtain ⟨⟨t6450, t6451, t6452⟩, A380, H⟩ := Option.bind_eq_some_iff.mp H
                  have A38 := Aside0.mk A380
                  clear A380
                  (try dsimp only at H)
                  obtain ⟨⟨t6453, t6454, t6455⟩, A390, H⟩ := Option.bind_eq_some_iff.mp H
                  have A39 := Aside0.mk A390
                  clear A390
                  (try dsimp only at H)
                  by_cases c40 : (t6450 == t6453 && (t6451 == t6454 && (t6452 == t6455))) = true
                  · rw [if_pos c40] at H
                    have c40b0 : (t6450 == t6453 && (t6451 == t6454 && (t6452 == t6455))) = true := c40
                    (try (have c40b1 : decide (t6450 = t6453 && (t6451 == t6454 && (t6452 == t6455))) = true := by simpa using c40))
                    (try (have c40b2 : (t6450 == t6453 && (t6451 == t6454 && (t6452 == t6455))) = true := by simpa using c40))
                    clear c40
                    obtain ⟨⟨t6456, t6457, t6458⟩, A410, H⟩ := Option.bind_eq_some_iff.mp H
                    have A41 := Aside0.mk A410
                    clear A410
                    (try dsimp only at H)
                    obtain ⟨⟨t6459, t6460, t6461⟩, A420, H⟩ := Option.bind_eq_some_iff.mp H
                    have A42 := Aside0.mk A420
                    clear A420
                    (try dsimp only at H)
                    by_cases c43 : (t6456 == t6459 && (t6457 == t6460 && (t6458 == t6461))) = true
                    · rw [if_pos c43] at H
                      have c43b0 : (t6456 == t6459 && (t6457 == t6460 && (t6458 == t6461))) = true := c43
                      (try (have c43b1 : decide (t6456 = t6459 && (t6457 == t6460 && (t6458 == t6461))) = true := by simpa using c43))
                      (try (have c43b2 : (t6456 == t6459 && (t6457 == t6460 && (t6458 == t6461))) = true := by simpa using c43))
                      clear c43
                      obtain ⟨⟨t6462, t6463, t6464⟩, A440, H⟩ := Option.bind_eq_some_iff.mp H
                      have A44 := Aside0.mk A440
                      clear A440
                      (try dsimp only at H)
                      obtain ⟨⟨t6465, t6466, t6467⟩, A450, H⟩ := Option.bind_eq_some_iff.mp H
                      have A45 := Aside0.mk A450
                      clear A450
                      (try dsimp only at H)
                      obtain rfl := Option.some.inj H
                      try go_wp2_with (first | ((with_reducible refine gate_callee (f := 35) rfl ?_); refine kc (some 21) Try.func35 #[.int .i64 0] (ints_Point.calls 0 t6406 t6407 t6408 _ A21.out) ?_; intro w46 hb; replace BK6401 := kb BK6401 hb; replace BK6402 := kb BK6402 hb; replace HB := kh HB hb; (try clear hb); (try clear hb2); (try clear hk); (try clear hi)) | ((with_reducible refine gate_dst (N := 6) rfl ?_); refine kx 6 #[.bool false, .int .i64 0, .int .i64 0] 23 ?_; intro gb6409 hg w47 hbox hb; have BK6409 := Aside0.mk (hbox); have GW6409 := kg HB hg; have GE6409 := kg HB hg; have NB6401_6409 := kn BK6401 hg; have NB6409_6401 := km BK6401 hg; have NB6402_6409 := kn BK6402 hg; have NB6409_6402 := km BK6402 hg; replace BK6401 := kb BK6401 hb; replace BK6402 := kb BK6402 hb; replace HB := kh HB hb; clear hb hbox hg; have hnb48 := NB6409_6401.out; have hnc48 := NB6401_6409.out; have hnb49 := NB6409_6402.out; have hnc49 := NB6402_6409.out; have ⟨hcz50_0, hcz50_1, hcz50_2, hfz50_0, hfz50_1, hfz50_2⟩ := kz3f BK6409))
                      generalize hW_ : (((w47.setCell ⟨gb6409, 0, none⟩ (.bool t6406)).setCell ⟨gb6409, 1, none⟩ (.int .i64 t6407)).setCell ⟨gb6409, 2, none⟩ (.int .i64 t6408)) = w51
                      replace BK6401 := kr BK6401 hW_
                      replace BK6402 := kr BK6402 hW_
                      replace BK6409 := kr (o' := .cells #[.bool t6406, .int .i64 t6407, .int .i64 t6408] 23 (0, 0)) BK6409 hW_
                      replace HB := kq HB hW_
                      clear hW_
                      replace BK6401 := Aside0.mk (blk_drew BK6401.out)
                      replace BK6402 := Aside0.mk (blk_drew BK6402.out)
                      replace BK6409 := Aside0.mk (blk_drew BK6409.out)
                      replace HB := Aside0.mk (below_drew1 HB.out)
                      refine start_ (n := 8) (S := fun w' => w'.cell? ⟨gb6401, 0, none⟩ = some (.bool a0_0) ∧ w'.cell? ⟨gb6401, 1, none⟩ = some (.int .i64 a0_1) ∧ w'.cell? ⟨gb6401, 2, none⟩ = some (.int .i64 a0_2) ∧ w'.cell? ⟨gb6409, 0, none⟩ = some (.bool t6406) ∧ w'.cell? ⟨gb6409, 1, none⟩ = some (.int .i64 t6407) ∧ w'.cell? ⟨gb6409, 2, none⟩ = some (.int .i64 t6408)) (ds := []) #[false, false, false, false, false, false, false, false] (by kernel_rfl) rfl rfl ⟨bc BK6401 0, bc BK6401 1, bc BK6401 2, bc BK6409 0, bc BK6409 1, bc BK6409 2⟩ (fun hHeld => ?_); refine with_tabW flyballlaw17_IntsHulls.tab7 flyballlaw17_IntsHulls.bits7 (fun HT_ HW_ => ?_)
                      generalize w51.drew = w52 at BK6401 BK6402 BK6409 HB hHeld ⊢
                      refine tak 0 (some 22) #[true, false, false, false, false, false, false, false] (take_ofW HT_.out HW_.out (by kernel_rfl)) hHeld ?_
                      refine tak 2 (some 24) #[true, false, true, false, false, false, false, false] (take_ofW HT_.out HW_.out (by kernel_rfl)) hHeld ?_
                      refine tak 3 (some 25) #[true, false, true, true, false, false, false, false] (take_ofW HT_.out HW_.out (by kernel_rfl)) hHeld ?_
                      refine one_ (i := 1) (N := some 23) #[true, true, true, true, false, false, false, false] rfl rfl (one_of HT_.out (by kernel_rfl)) (by decide) (fun K hK => ?_)
                      refine gc Try.func48 #[.agg #[.bool a0_0, .int .i64 a0_1, .int .i64 a0_2]] (ints_Neg.calls a0_0 a0_1 a0_2 t6410 t6411 t6412 _ A22.out) ?_
                      intro w53 hb
                      replace BK6401 := kb BK6401 hb
                      replace BK6402 := kb BK6402 hb
                      replace BK6409 := kb BK6409 hb
                      replace HB := kh HB hb
                      (try clear hb)
                      (try clear hb2)
                      (try clear hk)
                      (try clear hi)
                      refine hK.out _ _ ⟨bc BK6401 0, bc BK6401 1, bc BK6401 2, bc BK6409 0, bc BK6409 1, bc BK6409 2⟩ (fun hHeld => ?_)
                      clear hK K
                      refine nrm (some 23) ?_
                      refine one_ (i := 4) (N := some 26) #[true, true, true, true, true, false, false, false] rfl rfl (one_of HT_.out (by kernel_rfl)) (by decide) (fun K hK => ?_)
                      refine gc Try.func49 #[.int .i64 1, .agg #[.bool t6406, .int .i64 t6407, .int .i64 t6408], .agg #[.bool a0_0, .int .i64 a0_1, .int .i64 a0_2]] (flyballref17_Hull.calls kj4 1 t6406 t6407 t6408 a0_0 a0_1 a0_2 t6413 t6414 t6415 _ A23.out) ?_
                      intro w54 hb
                      replace BK6401 := kb BK6401 hb
                      replace BK6402 := kb BK6402 hb
                      replace BK6409 := kb BK6409 hb
                      replace HB := kh HB hb
                      (try clear hb)
                      (try clear hb2)
                      (try clear hk)
                      (try clear hi)
                      refine hK.out _ _ ⟨bc BK6401 0, bc BK6401 1, bc BK6401 2, bc BK6409 0, bc BK6409 1, bc BK6409 2⟩ (fun hHeld => ?_)
                      clear hK K
                      refine nrm (some 26) ?_
                      refine one_ (i := 5) (N := some 27) #[true, true, true, true, true, true, false, false] rfl rfl (one_of HT_.out (by kernel_rfl)) (by decide) (fun K hK => ?_)
                      refine gc Try.func39 #[.agg #[.bool t6413, .int .i64 t6414, .int .i64 t6415]] (flyballref17_Norm.calls t6413 t6414 t6415 t6416 t6417 t6418 _ A24.out) ?_
                      intro w55 hb
                      replace BK6401 := kb BK6401 hb
                      replace BK6402 := kb BK6402 hb
                      replace BK6409 := kb BK6409 hb
                      replace HB := kh HB hb
                      (try clear hb)
                      (try clear hb2)
                      (try clear hk)
                      (try clear hi)
                      refine hK.out _ _ ⟨bc BK6401 0, bc BK6401 1, bc BK6401 2, bc BK6409 0, bc BK6409 1, bc BK6409 2⟩ (fun hHeld => ?_)
                      clear hK K
                      refine nrm (some 27) ?_
                      refine pur 6 (some 28) #[true, true, true, true, true, true, true, false] (any_of HT_.out (by kernel_rfl)) ?_
                      refine pur 7 (some 7) #[true, true, true, true, true, true, true, true] (any_of HT_.out (by kernel_rfl)) ?_
                      refine done_ (done_of HT_.out (by kernel_rfl)) ?_
                      try go_wp2
                      replace BK6401 := Aside0.mk (blk_drew BK6401.out)
                      replace BK6402 := Aside0.mk (blk_drew BK6402.out)
                      replace BK6409 := Aside0.mk (blk_drew BK6409.out)
                      replace HB := Aside0.mk (below_drew1 HB.out)
                      refine start_ (n := 11) (S := fun w' => w'.cell? ⟨gb6401, 0, none⟩ = some (.bool a0_0) ∧ w'.cell? ⟨gb6401, 1, none⟩ = some (.int .i64 a0_1) ∧ w'.cell? ⟨gb6401, 2, none⟩ = some (.int .i64 a0_2)) (ds := []) #[false, false, false, false, false, false, false, false, false, false, false] (by kernel_rfl) rfl rfl ⟨bc BK6401 0, bc BK6401 1, bc BK6401 2⟩ (fun hHeld => ?_); refine with_tabW flyballlaw17_IntsHulls.tab8 flyballlaw17_IntsHulls.bits8 (fun HT_ HW_ => ?_)
                      generalize w55.drew = w56 at BK6401 BK6402 BK6409 HB hHeld ⊢
                      refine tak 0 (some 29) #[true, false, false, false, false, false, false, false, false, false, false] (take_ofW HT_.out HW_.out (by kernel_rfl)) hHeld ?_
                      refine tak 3 (some 32) #[true, false, false, true, false, false, false, false, false, false, false] (take_ofW HT_.out HW_.out (by kernel_rfl)) hHeld ?_
                      refine join_ (σ := Value × Nat) 1 #[true, true, true, true, true, true, true, true, true, true, false] (fun s_ => [(30, .agg #[.bool t6419, .int .i64 t6420, .int .i64 t6421]), (31, .agg #[.bool t6422, .int .i64 t6423, .int .i64 t6424]), (33, .agg #[.bool t6425, .int .i64 t6426, .int .i64 t6427]), (34, .agg #[.bool t6428, .int .i64 t6429, .int .i64 t6430]), (35, .agg #[.bool t6431, .int .i64 t6432, .int .i64 t6433]), (36, s_.1), (37, .agg #[.bool t6437, .int .i64 t6438, .int .i64 t6439]), (8, .pointer (some ⟨s_.2, 0, none⟩))]) (fun s_ w' => (w'.cell? ⟨gb6401, 0, none⟩ = some (.bool a0_0) ∧ w'.cell? ⟨gb6401, 1, none⟩ = some (.int .i64 a0_1) ∧ w'.cell? ⟨gb6401, 2, none⟩ = some (.int .i64 a0_2)) ∧ (Kd.R k23 23 w' w.heap.size (fun k_ => k_ ≠ gb6401 ∧ k_ ≠ gb6402 ∧ k_ ≠ gb6409 ∧ k_ ≠ s_.2) s_.1 y6434) ∧ (w'.heap[gb6401]? = some (.cells #[.bool a0_0, .int .i64 a0_1, .int .i64 a0_2] 23 (0, 0))) ∧ (w'.heap[gb6402]? = some (.cells #[.bool a1_0, .int .i64 a1_1, .int .i64 a1_2] 23 (0, 0))) ∧ (w'.heap[gb6409]? = some (.cells #[.bool t6406, .int .i64 t6407, .int .i64 t6408] 23 (0, 0))) ∧ (w'.heap[s_.2]? = some (.cells #[.bool false, .int .i64 0, .int .i64 0] 23 (0, 0))) ∧ (w.heap.size ≤ s_.2) ∧ (w.heap.size ≤ s_.2) ∧ (gb6401 ≠ s_.2) ∧ (s_.2 ≠ gb6401) ∧ (gb6402 ≠ s_.2) ∧ (s_.2 ≠ gb6402) ∧ (gb6409 ≠ s_.2) ∧ (s_.2 ≠ gb6409) ∧ (Below w.heap.size w w')) ?_ ?_
                      rotate_left
                      · intro hJ1_2_4_5_6_7_8_9
                        refine join_ (σ := Value) 2 #[true, true, true, true, true, true, true, true, true, false, false] (fun s_ => [(30, .agg #[.bool t6419, .int .i64 t6420, .int .i64 t6421]), (31, .agg #[.bool t6422, .int .i64 t6423, .int .i64 t6424]), (33, .agg #[.bool t6425, .int .i64 t6426, .int .i64 t6427]), (34, .agg #[.bool t6428, .int .i64 t6429, .int .i64 t6430]), (35, .agg #[.bool t6431, .int .i64 t6432, .int .i64 t6433]), (36, s_), (37, .agg #[.bool t6437, .int .i64 t6438, .int .i64 t6439])]) (fun s_ w' => (w'.cell? ⟨gb6401, 0, none⟩ = some (.bool a0_0) ∧ w'.cell? ⟨gb6401, 1, none⟩ = some (.int .i64 a0_1) ∧ w'.cell? ⟨gb6401, 2, none⟩ = some (.int .i64 a0_2)) ∧ (Kd.R k23 23 w' w.heap.size (fun k_ => k_ ≠ gb6401 ∧ k_ ≠ gb6402 ∧ k_ ≠ gb6409) s_ y6434) ∧ (w'.heap[gb6401]? = some (.cells #[.bool a0_0, .int .i64 a0_1, .int .i64 a0_2] 23 (0, 0))) ∧ (w'.heap[gb6402]? = some (.cells #[.bool a1_0, .int .i64 a1_1, .int .i64 a1_2] 23 (0, 0))) ∧ (w'.heap[gb6409]? = some (.cells #[.bool t6406, .int .i64 t6407, .int .i64 t6408] 23 (0, 0))) ∧ (Below w.heap.size w w')) ?_ ?_
                        rotate_left
                        · intro hJ1_2_4_5_6_7_8
                          refine join_ (σ := Value × Nat) 2 #[true, true, true, true, true, true, true, true, false, true, false] (fun s_ => [(30, .agg #[.bool t6419, .int .i64 t6420, .int .i64 t6421]), (31, .agg #[.bool t6422, .int .i64 t6423, .int .i64 t6424]), (33, .agg #[.bool t6425, .int .i64 t6426, .int .i64 t6427]), (34, .agg #[.bool t6428, .int .i64 t6429, .int .i64 t6430]), (35, .agg #[.bool t6431, .int .i64 t6432, .int .i64 t6433]), (36, s_.1), (8, .pointer (some ⟨s_.2, 0, none⟩))]) (fun s_ w' => (w'.cell? ⟨gb6401, 0, none⟩ = some (.bool a0_0) ∧ w'.cell? ⟨gb6401, 1, none⟩ = some (.int .i64 a0_1) ∧ w'.cell? ⟨gb6401, 2, none⟩ = some (.int .i64 a0_2)) ∧ (Kd.R k23 23 w' w.heap.size (fun k_ => k_ ≠ gb6401 ∧ k_ ≠ gb6402 ∧ k_ ≠ gb6409 ∧ k_ ≠ s_.2) s_.1 y6434) ∧ (w'.heap[gb6401]? = some (.cells #[.bool a0_0, .int .i64 a0_1, .int .i64 a0_2] 23 (0, 0))) ∧ (w'.heap[gb6402]? = some (.cells #[.bool a1_0, .int .i64 a1_1, .int .i64 a1_2] 23 (0, 0))) ∧ (w'.heap[gb6409]? = some (.cells #[.bool t6406, .int .i64 t6407, .int .i64 t6408] 23 (0, 0))) ∧ (w'.heap[s_.2]? = some (.cells #[.bool false, .int .i64 0, .int .i64 0] 23 (0, 0))) ∧ (w.heap.size ≤ s_.2) ∧ (w.heap.size ≤ s_.2) ∧ (gb6401 ≠ s_.2) ∧ (s_.2 ≠ gb6401) ∧ (gb6402 ≠ s_.2) ∧ (s_.2 ≠ gb6402) ∧ (gb6409 ≠ s_.2) ∧ (s_.2 ≠ gb6409) ∧ (Below w.heap.size w w')) ?_ ?_
                          rotate_left
                          · intro hJ1_2_4_5_6_7_9
                            refine join_ (σ := Value) 3 #[true, true, true, true, true, true, true, true, false, false, false] (fun s_ => [(30, .agg #[.bool t6419, .int .i64 t6420, .int .i64 t6421]), (31, .agg #[.bool t6422, .int .i64 t6423, .int .i64 t6424]), (33, .agg #[.bool t6425, .int .i64 t6426, .int .i64 t6427]), (34, .agg #[.bool t6428, .int .i64 t6429, .int .i64 t6430]), (35, .agg #[.bool t6431, .int .i64 t6432, .int .i64 t6433]), (36, s_)]) (fun s_ w' => (w'.cell? ⟨gb6401, 0, none⟩ = some (.bool a0_0) ∧ w'.cell? ⟨gb6401, 1, none⟩ = some (.int .i64 a0_1) ∧ w'.cell? ⟨gb6401, 2, none⟩ = some (.int .i64 a0_2)) ∧ (Kd.R k23 23 w' w.heap.size (fun k_ => k_ ≠ gb6401 ∧ k_ ≠ gb6402 ∧ k_ ≠ gb6409) s_ y6434) ∧ (w'.heap[gb6401]? = some (.cells #[.bool a0_0, .int .i64 a0_1, .int .i64 a0_2] 23 (0, 0))) ∧ (w'.heap[gb6402]? = some (.cells #[.bool a1_0, .int .i64 a1_1, .int .i64 a1_2] 23 (0, 0))) ∧ (w'.heap[gb6409]? = some (.cells #[.bool t6406, .int .i64 t6407, .int .i64 t6408] 23 (0, 0))) ∧ (Below w.heap.size w w')) ?_ ?_
                            rotate_left
                            · intro hJ1_2_4_5_6_7
                              refine join_ (σ := Nat) 3 #[true, true, true, true, true, true, true, false, false, true, false] (fun s_ => [(30, .agg #[.bool t6419, .int .i64 t6420, .int .i64 t6421]), (31, .agg #[.bool t6422, .int .i64 t6423, .int .i64 t6424]), (33, .agg #[.bool t6425, .int .i64 t6426, .int .i64 t6427]), (34, .agg #[.bool t6428, .int .i64 t6429, .int .i64 t6430]), (35, .agg #[.bool t6431, .int .i64 t6432, .int .i64 t6433]), (8, .pointer (some ⟨s_, 0, none⟩))]) (fun s_ w' => (w'.cell? ⟨gb6401, 0, none⟩ = some (.bool a0_0) ∧ w'.cell? ⟨gb6401, 1, none⟩ = some (.int .i64 a0_1) ∧ w'.cell? ⟨gb6401, 2, none⟩ = some (.int .i64 a0_2)) ∧ (w'.heap[gb6401]? = some (.cells #[.bool a0_0, .int .i64 a0_1, .int .i64 a0_2] 23 (0, 0))) ∧ (w'.heap[gb6402]? = some (.cells #[.bool a1_0, .int .i64 a1_1, .int .i64 a1_2] 23 (0, 0))) ∧ (w'.heap[gb6409]? = some (.cells #[.bool t6406, .int .i64 t6407, .int .i64 t6408] 23 (0, 0))) ∧ (w'.heap[s_]? = some (.cells #[.bool false, .int .i64 0, .int .i64 0] 23 (0, 0))) ∧ (w.heap.size ≤ s_) ∧ (w.heap.size ≤ s_) ∧ (gb6401 ≠ s_) ∧ (s_ ≠ gb6401) ∧ (gb6402 ≠ s_) ∧ (s_ ≠ gb6402) ∧ (gb6409 ≠ s_) ∧ (s_ ≠ gb6409) ∧ (Below w.heap.size w w')) ?_ ?_
                              rotate_left
                              · intro hJ1_2_4_5_6_9
                                refine join_ (σ := Unit) 4 #[true, true, true, true, true, true, true, false, false, false, false] (fun s_ => [(30, .agg #[.bool t6419, .int .i64 t6420, .int .i64 t6421]), (31, .agg #[.bool t6422, .int .i64 t6423, .int .i64 t6424]), (33, .agg #[.bool t6425, .int .i64 t6426, .int .i64 t6427]), (34, .agg #[.bool t6428, .int .i64 t6429, .int .i64 t6430]), (35, .agg #[.bool t6431, .int .i64 t6432, .int .i64 t6433])]) (fun s_ w' => (w'.cell? ⟨gb6401, 0, none⟩ = some (.bool a0_0) ∧ w'.cell? ⟨gb6401, 1, none⟩ = some (.int .i64 a0_1) ∧ w'.cell? ⟨gb6401, 2, none⟩ = some (.int .i64 a0_2)) ∧ (w'.heap[gb6401]? = some (.cells #[.bool a0_0, .int .i64 a0_1, .int .i64 a0_2] 23 (0, 0))) ∧ (w'.heap[gb6402]? = some (.cells #[.bool a1_0, .int .i64 a1_1, .int .i64 a1_2] 23 (0, 0))) ∧ (w'.heap[gb6409]? = some (.cells #[.bool t6406, .int .i64 t6407, .int .i64 t6408] 23 (0, 0))) ∧ (Below w.heap.size w w')) ?_ ?_
                                rotate_left
                                · intro hJ1_2_4_5_6
                                  refine join_ (σ := Nat) 4 #[true, true, true, true, true, true, false, false, false, true, false] (fun s_ => [(30, .agg #[.bool t6419, .int .i64 t6420, .int .i64 t6421]), (31, .agg #[.bool t6422, .int .i64 t6423, .int .i64 t6424]), (33, .agg #[.bool t6425, .int .i64 t6426, .int .i64 t6427]), (34, .agg #[.bool t6428, .int .i64 t6429, .int .i64 t6430]), (8, .pointer (some ⟨s_, 0, none⟩))]) (fun s_ w' => (w'.cell? ⟨gb6401, 0, none⟩ = some (.bool a0_0) ∧ w'.cell? ⟨gb6401, 1, none⟩ = some (.int .i64 a0_1) ∧ w'.cell? ⟨gb6401, 2, none⟩ = some (.int .i64 a0_2)) ∧ (w'.heap[gb6401]? = some (.cells #[.bool a0_0, .int .i64 a0_1, .int .i64 a0_2] 23 (0, 0))) ∧ (w'.heap[gb6402]? = some (.cells #[.bool a1_0, .int .i64 a1_1, .int .i64 a1_2] 23 (0, 0))) ∧ (w'.heap[gb6409]? = some (.cells #[.bool t6406, .int .i64 t6407, .int .i64 t6408] 23 (0, 0))) ∧ (w'.heap[s_]? = some (.cells #[.bool false, .int .i64 0, .int .i64 0] 23 (0, 0))) ∧ (w.heap.size ≤ s_) ∧ (w.heap.size ≤ s_) ∧ (gb6401 ≠ s_) ∧ (s_ ≠ gb6401) ∧ (gb6402 ≠ s_) ∧ (s_ ≠ gb6402) ∧ (gb6409 ≠ s_) ∧ (s_ ≠ gb6409) ∧ (Below w.heap.size w w')) ?_ ?_
                                  rotate_left
                                  · intro hJ1_2_4_5_9
                                    refine join_ (σ := Unit) 5 #[true, true, true, true, true, true, false, false, false, false, false] (fun s_ => [(30, .agg #[.bool t6419, .int .i64 t6420, .int .i64 t6421]), (31, .agg #[.bool t6422, .int .i64 t6423, .int .i64 t6424]), (33, .agg #[.bool t6425, .int .i64 t6426, .int .i64 t6427]), (34, .agg #[.bool t6428, .int .i64 t6429, .int .i64 t6430])]) (fun s_ w' => (w'.cell? ⟨gb6401, 0, none⟩ = some (.bool a0_0) ∧ w'.cell? ⟨gb6401, 1, none⟩ = some (.int .i64 a0_1) ∧ w'.cell? ⟨gb6401, 2, none⟩ = some (.int .i64 a0_2)) ∧ (w'.heap[gb6401]? = some (.cells #[.bool a0_0, .int .i64 a0_1, .int .i64 a0_2] 23 (0, 0))) ∧ (w'.heap[gb6402]? = some (.cells #[.bool a1_0, .int .i64 a1_1, .int .i64 a1_2] 23 (0, 0))) ∧ (w'.heap[gb6409]? = some (.cells #[.bool t6406, .int .i64 t6407, .int .i64 t6408] 23 (0, 0))) ∧ (Below w.heap.size w w')) ?_ ?_
                                    rotate_left
                                    · intro hJ1_2_4_5
                                      refine join_ (σ := Nat) 5 #[true, true, true, true, true, false, false, false, false, true, false] (fun s_ => [(30, .agg #[.bool t6419, .int .i64 t6420, .int .i64 t6421]), (31, .agg #[.bool t6422, .int .i64 t6423, .int .i64 t6424]), (33, .agg #[.bool t6425, .int .i64 t6426, .int .i64 t6427]), (8, .pointer (some ⟨s_, 0, none⟩))]) (fun s_ w' => (w'.cell? ⟨gb6401, 0, none⟩ = some (.bool a0_0) ∧ w'.cell? ⟨gb6401, 1, none⟩ = some (.int .i64 a0_1) ∧ w'.cell? ⟨gb6401, 2, none⟩ = some (.int .i64 a0_2)) ∧ (w'.heap[gb6401]? = some (.cells #[.bool a0_0, .int .i64 a0_1, .int .i64 a0_2] 23 (0, 0))) ∧ (w'.heap[gb6402]? = some (.cells #[.bool a1_0, .int .i64 a1_1, .int .i64 a1_2] 23 (0, 0))) ∧ (w'.heap[gb6409]? = some (.cells #[.bool t6406, .int .i64 t6407, .int .i64 t6408] 23 (0, 0))) ∧ (w'.heap[s_]? = some (.cells #[.bool false, .int .i64 0, .int .i64 0] 23 (0, 0))) ∧ (w.heap.size ≤ s_) ∧ (w.heap.size ≤ s_) ∧ (gb6401 ≠ s_) ∧ (s_ ≠ gb6401) ∧ (gb6402 ≠ s_) ∧ (s_ ≠ gb6402) ∧ (gb6409 ≠ s_) ∧ (s_ ≠ gb6409) ∧ (Below w.heap.size w w')) ?_ ?_
                                      rotate_left
                                      · intro hJ1_2_4_9
                                        refine join_ (σ := Unit) 6 #[true, true, true, true, true, false, false, false, false, false, false] (fun s_ => [(30, .agg #[.bool t6419, .int .i64 t6420, .int .i64 t6421]), (31, .agg #[.bool t6422, .int .i64 t6423, .int .i64 t6424]), (33, .agg #[.bool t6425, .int .i64 t6426, .int .i64 t6427])]) (fun s_ w' => (w'.cell? ⟨gb6401, 0, none⟩ = some (.bool a0_0) ∧ w'.cell? ⟨gb6401, 1, none⟩ = some (.int .i64 a0_1) ∧ w'.cell? ⟨gb6401, 2, none⟩ = some (.int .i64 a0_2)) ∧ (w'.heap[gb6401]? = some (.cells #[.bool a0_0, .int .i64 a0_1, .int .i64 a0_2] 23 (0, 0))) ∧ (w'.heap[gb6402]? = some (.cells #[.bool a1_0, .int .i64 a1_1, .int .i64 a1_2] 23 (0, 0))) ∧ (w'.heap[gb6409]? = some (.cells #[.bool t6406, .int .i64 t6407, .int .i64 t6408] 23 (0, 0))) ∧ (Below w.heap.size w w')) ?_ ?_
                                        rotate_left
                                        · intro hJ1_2_4
                                          refine join_ (σ := Nat) 6 #[true, true, true, true, false, false, false, false, false, true, false] (fun s_ => [(30, .agg #[.bool t6419, .int .i64 t6420, .int .i64 t6421]), (31, .agg #[.bool t6422, .int .i64 t6423, .int .i64 t6424]), (8, .pointer (some ⟨s_, 0, none⟩))]) (fun s_ w' => (w'.cell? ⟨gb6401, 0, none⟩ = some (.bool a0_0) ∧ w'.cell? ⟨gb6401, 1, none⟩ = some (.int .i64 a0_1) ∧ w'.cell? ⟨gb6401, 2, none⟩ = some (.int .i64 a0_2)) ∧ (w'.heap[gb6401]? = some (.cells #[.bool a0_0, .int .i64 a0_1, .int .i64 a0_2] 23 (0, 0))) ∧ (w'.heap[gb6402]? = some (.cells #[.bool a1_0, .int .i64 a1_1, .int .i64 a1_2] 23 (0, 0))) ∧ (w'.heap[gb6409]? = some (.cells #[.bool t6406, .int .i64 t6407, .int .i64 t6408] 23 (0, 0))) ∧ (w'.heap[s_]? = some (.cells #[.bool false, .int .i64 0, .int .i64 0] 23 (0, 0))) ∧ (w.heap.size ≤ s_) ∧ (w.heap.size ≤ s_) ∧ (gb6401 ≠ s_) ∧ (s_ ≠ gb6401) ∧ (gb6402 ≠ s_) ∧ (s_ ≠ gb6402) ∧ (gb6409 ≠ s_) ∧ (s_ ≠ gb6409) ∧ (Below w.heap.size w w')) ?_ ?_
                                          rotate_left
                                          · intro hJ1_2_9
                                            refine join_ (σ := Unit) 7 #[true, true, true, true, false, false, false, false, false, false, false] (fun s_ => [(30, .agg #[.bool t6419, .int .i64 t6420, .int .i64 t6421]), (31, .agg #[.bool t6422, .int .i64 t6423, .int .i64 t6424])]) (fun s_ w' => (w'.cell? ⟨gb6401, 0, none⟩ = some (.bool a0_0) ∧ w'.cell? ⟨gb6401, 1, none⟩ = some (.int .i64 a0_1) ∧ w'.cell? ⟨gb6401, 2, none⟩ = some (.int .i64 a0_2)) ∧ (w'.heap[gb6401]? = some (.cells #[.bool a0_0, .int .i64 a0_1, .int .i64 a0_2] 23 (0, 0))) ∧ (w'.heap[gb6402]? = some (.cells #[.bool a1_0, .int .i64 a1_1, .int .i64 a1_2] 23 (0, 0))) ∧ (w'.heap[gb6409]? = some (.cells #[.bool t6406, .int .i64 t6407, .int .i64 t6408] 23 (0, 0))) ∧ (Below w.heap.size w w')) ?_ ?_
                                            rotate_left
                                            · intro hJ1_2
                                              refine join_ (σ := Nat) 7 #[true, true, false, true, false, false, false, false, false, true, false] (fun s_ => [(30, .agg #[.bool t6419, .int .i64 t6420, .int .i64 t6421]), (8, .pointer (some ⟨s_, 0, none⟩))]) (fun s_ w' => (w'.cell? ⟨gb6401, 0, none⟩ = some (.bool a0_0) ∧ w'.cell? ⟨gb6401, 1, none⟩ = some (.int .i64 a0_1) ∧ w'.cell? ⟨gb6401, 2, none⟩ = some (.int .i64 a0_2)) ∧ (w'.heap[gb6401]? = some (.cells #[.bool a0_0, .int .i64 a0_1, .int .i64 a0_2] 23 (0, 0))) ∧ (w'.heap[gb6402]? = some (.cells #[.bool a1_0, .int .i64 a1_1, .int .i64 a1_2] 23 (0, 0))) ∧ (w'.heap[gb6409]? = some (.cells #[.bool t6406, .int .i64 t6407, .int .i64 t6408] 23 (0, 0))) ∧ (w'.heap[s_]? = some (.cells #[.bool false, .int .i64 0, .int .i64 0] 23 (0, 0))) ∧ (w.heap.size ≤ s_) ∧ (w.heap.size ≤ s_) ∧ (gb6401 ≠ s_) ∧ (s_ ≠ gb6401) ∧ (gb6402 ≠ s_) ∧ (s_ ≠ gb6402) ∧ (gb6409 ≠ s_) ∧ (s_ ≠ gb6409) ∧ (Below w.heap.size w w')) ?_ ?_
                                              rotate_left
                                              · intro hJ1_9
                                                refine join_ (σ := Unit) 8 #[true, true, false, true, false, false, false, false, false, false, false] (fun s_ => [(30, .agg #[.bool t6419, .int .i64 t6420, .int .i64 t6421])]) (fun s_ w' => (w'.cell? ⟨gb6401, 0, none⟩ = some (.bool a0_0) ∧ w'.cell? ⟨gb6401, 1, none⟩ = some (.int .i64 a0_1) ∧ w'.cell? ⟨gb6401, 2, none⟩ = some (.int .i64 a0_2)) ∧ (w'.heap[gb6401]? = some (.cells #[.bool a0_0, .int .i64 a0_1, .int .i64 a0_2] 23 (0, 0))) ∧ (w'.heap[gb6402]? = some (.cells #[.bool a1_0, .int .i64 a1_1, .int .i64 a1_2] 23 (0, 0))) ∧ (w'.heap[gb6409]? = some (.cells #[.bool t6406, .int .i64 t6407, .int .i64 t6408] 23 (0, 0))) ∧ (Below w.heap.size w w')) ?_ ?_
                                                rotate_left
                                                · intro hJ1
                                                  refine join_ (σ := Nat) 8 #[true, false, false, true, false, false, false, false, false, true, false] (fun s_ => [(8, .pointer (some ⟨s_, 0, none⟩))]) (fun s_ w' => (w'.cell? ⟨gb6401, 0, none⟩ = some (.bool a0_0) ∧ w'.cell? ⟨gb6401, 1, none⟩ = some (.int .i64 a0_1) ∧ w'.cell? ⟨gb6401, 2, none⟩ = some (.int .i64 a0_2)) ∧ (w'.heap[gb6401]? = some (.cells #[.bool a0_0, .int .i64 a0_1, .int .i64 a0_2] 23 (0, 0))) ∧ (w'.heap[gb6402]? = some (.cells #[.bool a1_0, .int .i64 a1_1, .int .i64 a1_2] 23 (0, 0))) ∧ (w'.heap[gb6409]? = some (.cells #[.bool t6406, .int .i64 t6407, .int .i64 t6408] 23 (0, 0))) ∧ (w'.heap[s_]? = some (.cells #[.bool false, .int .i64 0, .int .i64 0] 23 (0, 0))) ∧ (w.heap.size ≤ s_) ∧ (w.heap.size ≤ s_) ∧ (gb6401 ≠ s_) ∧ (s_ ≠ gb6401) ∧ (gb6402 ≠ s_) ∧ (s_ ≠ gb6402) ∧ (gb6409 ≠ s_) ∧ (s_ ≠ gb6409) ∧ (Below w.heap.size w w')) ?_ ?_
                                                  rotate_left
                                                  · intro hJ9
                                                    refine two_ (i := 1) (j := 9) (Ni := some 30) (Nj := some 8) #[true, true, false, true, false, false, false, false, false, false, false] #[true, false, false, true, false, false, false, false, false, true, false] rfl rfl rfl rfl (two_of HT_.out (by kernel_rfl)) (by decide) (by decide) (fun K hK => ?_) (fun K hK => ?_)
                                                    · skip
                                                      refine gc Try.func37 #[.int .i64 0, .int .i64 1099511627776] (ints_Make.calls 0 1099511627776 t6419 t6420 t6421 _ A25.out) ?_
                                                      intro w57 hb
                                                      replace BK6401 := kb BK6401 hb
                                                      replace BK6402 := kb BK6402 hb
                                                      replace BK6409 := kb BK6409 hb
                                                      replace HB := kh HB hb
                                                      (try clear hb)
                                                      (try clear hb2)
                                                      (try clear hk)
                                                      (try clear hi)
                                                      refine hK.out _ _ ⟨bc BK6401 0, bc BK6401 1, bc BK6401 2⟩ (fun hHeld => ?_)
                                                      clear hK K
                                                      refine nrm (some 30) ?_
                                                      exact norm_ (by first | (simp only [putAll, Act.put, List.setIfInBounds_toArray, List.set_cons_zero, List.set_cons_succ]; done) | (simp only [putAll, Act.put, List.setIfInBounds_toArray, List.set_cons_zero, List.set_cons_succ]; rfl)) (hJ1 () _ ⟨hHeld, (pk BK6401), (pk BK6402), (pk BK6409), (pl HB)⟩)
                                                    · skip
                                                      refine box_step ?hg (N := 8) ?hd (cs := #[.bool false, .int .i64 0, .int .i64 0]) (t := 23) ?hr ?_; (case hd => rfl); (case hg => rfl); (case hr => first | (go_simp; done) | (go_simp; rfl))
                                                      intro gb6440 hg w57 hbox hb
                                                      have BK6440 := Aside0.mk (hbox)
                                                      have GW6440 := kg HB hg
                                                      have GE6440 := kg HB hg
                                                      have NB6401_6440 := kn BK6401 hg
                                                      have NB6440_6401 := km BK6401 hg
                                                      have NB6402_6440 := kn BK6402 hg
                                                      have NB6440_6402 := km BK6402 hg
                                                      have NB6409_6440 := kn BK6409 hg
                                                      have NB6440_6409 := km BK6409 hg
                                                      replace BK6401 := kb BK6401 hb
                                                      replace BK6402 := kb BK6402 hb
                                                      replace BK6409 := kb BK6409 hb
                                                      replace HB := kh HB hb
                                                      clear hb hbox hg
                                                      refine hK.out _ _ ⟨bc BK6401 0, bc BK6401 1, bc BK6401 2⟩ (fun hHeld => ?_)
                                                      clear hK K
                                                      refine nrm (some 8) ?_
                                                      exact norm_ (by first | (simp only [putAll, Act.put, List.setIfInBounds_toArray, List.set_cons_zero, List.set_cons_succ]; done) | (simp only [putAll, Act.put, List.setIfInBounds_toArray, List.set_cons_zero, List.set_cons_succ]; rfl)) (hJ9 (gb6440) _ ⟨hHeld, (pk BK6401), (pk BK6402), (pk BK6409), (pk BK6440), GW6440.out, GE6440.out, NB6401_6440.out, NB6440_6401.out, NB6402_6440.out, NB6440_6402.out, NB6409_6440.out, NB6440_6409.out, (pl HB)⟩)
                                                  · skip
                                                    rintro gb6440 w58 ⟨hS_, h0_, h1_, h2_, h3_, h4_, h5_, h6_, h7_, h8_, h9_, h10_, h11_, h12_⟩
                                                    have n0_ : Aside0 (w58.heap[gb6401]? = some (.cells #[.bool a0_0, .int .i64 a0_1, .int .i64 a0_2] 23 (0, 0))) := ⟨h0_⟩
                                                    have n1_ : Aside0 (w58.heap[gb6402]? = some (.cells #[.bool a1_0, .int .i64 a1_1, .int .i64 a1_2] 23 (0, 0))) := ⟨h1_⟩
                                                    have n2_ : Aside0 (w58.heap[gb6409]? = some (.cells #[.bool t6406, .int .i64 t6407, .int .i64 t6408] 23 (0, 0))) := ⟨h2_⟩
                                                    have n3_ : Aside0 (w58.heap[gb6440]? = some (.cells #[.bool false, .int .i64 0, .int .i64 0] 23 (0, 0))) := ⟨h3_⟩
                                                    have n4_ : Aside0 (w.heap.size ≤ gb6440) := ⟨h4_⟩
                                                    have n5_ : Aside0 (w.heap.size ≤ gb6440) := ⟨h5_⟩
                                                    have n6_ : Aside0 (gb6401 ≠ gb6440) := ⟨h6_⟩
                                                    have n7_ : Aside0 (gb6440 ≠ gb6401) := ⟨h7_⟩
                                                    have n8_ : Aside0 (gb6402 ≠ gb6440) := ⟨h8_⟩
                                                    have n9_ : Aside0 (gb6440 ≠ gb6402) := ⟨h9_⟩
                                                    have n10_ : Aside0 (gb6409 ≠ gb6440) := ⟨h10_⟩
                                                    have n11_ : Aside0 (gb6440 ≠ gb6409) := ⟨h11_⟩
                                                    have n12_ : Aside0 (Below w.heap.size w w58) := ⟨h12_⟩
                                                    clear BK6401
                                                    clear BK6402
                                                    clear BK6409
                                                    clear HB
                                                    clear h0_ h1_ h2_ h3_ h4_ h5_ h6_ h7_ h8_ h9_ h10_ h11_ h12_
                                                    have BK6401 := n0_
                                                    have BK6402 := n1_
                                                    have BK6409 := n2_
                                                    have BK6440 := n3_
                                                    have GW6440 := n4_
                                                    have GE6440 := n5_
                                                    have NB6401_6440 := n6_
                                                    have NB6440_6401 := n7_
                                                    have NB6402_6440 := n8_
                                                    have NB6440_6402 := n9_
                                                    have NB6409_6440 := n10_
                                                    have NB6440_6409 := n11_
                                                    have HB := n12_
                                                    clear n0_ n1_ n2_ n3_ n4_ n5_ n6_ n7_ n8_ n9_ n10_ n11_ n12_
                                                    have hHeld : w58.cell? ⟨gb6401, 0, none⟩ = some (.bool a0_0) ∧ w58.cell? ⟨gb6401, 1, none⟩ = some (.int .i64 a0_1) ∧ w58.cell? ⟨gb6401, 2, none⟩ = some (.int .i64 a0_2) := hS_
                                                    refine norm_ (a' := ?_) ?_ ?_
                                                    rotate_left
                                                    · simp only [putAll, Act.put, List.setIfInBounds_toArray, List.set_cons_zero, List.set_cons_succ]
                                                      rfl
                                                    refine one_ (i := 1) (N := some 30) #[true, true, false, true, false, false, false, false, false, true, false] rfl rfl (one_of HT_.out (by kernel_rfl)) (by decide) (fun K hK => ?_)
                                                    refine gc Try.func37 #[.int .i64 0, .int .i64 1099511627776] (ints_Make.calls 0 1099511627776 t6419 t6420 t6421 _ A25.out) ?_
                                                    intro w59 hb
                                                    replace BK6401 := kb BK6401 hb
                                                    replace BK6402 := kb BK6402 hb
                                                    replace BK6409 := kb BK6409 hb
                                                    replace BK6440 := kb BK6440 hb
                                                    replace HB := kh HB hb
                                                    (try clear hb)
                                                    (try clear hb2)
                                                    (try clear hk)
                                                    (try clear hi)
                                                    refine hK.out _ _ ⟨bc BK6401 0, bc BK6401 1, bc BK6401 2⟩ (fun hHeld => ?_)
                                                    clear hK K
                                                    refine nrm (some 30) ?_
                                                    exact norm_ (by first | (simp only [putAll, Act.put, List.setIfInBounds_toArray, List.set_cons_zero, List.set_cons_succ]; done) | (simp only [putAll, Act.put, List.setIfInBounds_toArray, List.set_cons_zero, List.set_cons_succ]; rfl)) (hJ1_9 (gb6440) _ ⟨hHeld, (pk BK6401), (pk BK6402), (pk BK6409), (pk BK6440), GW6440.out, GE6440.out, NB6401_6440.out, NB6440_6401.out, NB6402_6440.out, NB6440_6402.out, NB6409_6440.out, NB6440_6409.out, (pl HB)⟩)
                                                · skip
                                                  rintro _ w58 ⟨hS_, h0_, h1_, h2_, h3_⟩
                                                  have n0_ : Aside0 (w58.heap[gb6401]? = some (.cells #[.bool a0_0, .int .i64 a0_1, .int .i64 a0_2] 23 (0, 0))) := ⟨h0_⟩
                                                  have n1_ : Aside0 (w58.heap[gb6402]? = some (.cells #[.bool a1_0, .int .i64 a1_1, .int .i64 a1_2] 23 (0, 0))) := ⟨h1_⟩
                                                  have n2_ : Aside0 (w58.heap[gb6409]? = some (.cells #[.bool t6406, .int .i64 t6407, .int .i64 t6408] 23 (0, 0))) := ⟨h2_⟩
                                                  have n3_ : Aside0 (Below w.heap.size w w58) := ⟨h3_⟩
                                                  clear BK6401
                                                  clear BK6402
                                                  clear BK6409
                                                  clear HB
                                                  clear h0_ h1_ h2_ h3_
                                                  have BK6401 := n0_
                                                  have BK6402 := n1_
                                                  have BK6409 := n2_
                                                  have HB := n3_
                                                  clear n0_ n1_ n2_ n3_
                                                  have hHeld : w58.cell? ⟨gb6401, 0, none⟩ = some (.bool a0_0) ∧ w58.cell? ⟨gb6401, 1, none⟩ = some (.int .i64 a0_1) ∧ w58.cell? ⟨gb6401, 2, none⟩ = some (.int .i64 a0_2) := hS_
                                                  refine norm_ (a' := ?_) ?_ ?_
                                                  rotate_left
                                                  · simp only [putAll, Act.put, List.setIfInBounds_toArray, List.set_cons_zero, List.set_cons_succ]
                                                    rfl
                                                  refine two_ (i := 2) (j := 9) (Ni := some 31) (Nj := some 8) #[true, true, true, true, false, false, false, false, false, false, false] #[true, true, false, true, false, false, false, false, false, true, false] rfl rfl rfl rfl (two_of HT_.out (by kernel_rfl)) (by decide) (by decide) (fun K hK => ?_) (fun K hK => ?_)
                                                  · skip
                                                    refine gc Try.func45 #[.agg #[.bool a0_0, .int .i64 a0_1, .int .i64 a0_2], .agg #[.bool t6419, .int .i64 t6420, .int .i64 t6421]] (ints_Meet.calls kj4 a0_0 a0_1 a0_2 t6419 t6420 t6421 t6422 t6423 t6424 _ A26.out) ?_
                                                    intro w59 hb
                                                    replace BK6401 := kb BK6401 hb
                                                    replace BK6402 := kb BK6402 hb
                                                    replace BK6409 := kb BK6409 hb
                                                    replace HB := kh HB hb
                                                    (try clear hb)
                                                    (try clear hb2)
                                                    (try clear hk)
                                                    (try clear hi)
                                                    refine hK.out _ _ ⟨bc BK6401 0, bc BK6401 1, bc BK6401 2⟩ (fun hHeld => ?_)
                                                    clear hK K
                                                    refine nrm (some 31) ?_
                                                    exact norm_ (by first | (simp only [putAll, Act.put, List.setIfInBounds_toArray, List.set_cons_zero, List.set_cons_succ]; done) | (simp only [putAll, Act.put, List.setIfInBounds_toArray, List.set_cons_zero, List.set_cons_succ]; rfl)) (hJ1_2 () _ ⟨hHeld, (pk BK6401), (pk BK6402), (pk BK6409), (pl HB)⟩)
                                                  · skip
                                                    refine box_step ?hg (N := 8) ?hd (cs := #[.bool false, .int .i64 0, .int .i64 0]) (t := 23) ?hr ?_; (case hd => rfl); (case hg => rfl); (case hr => first | (go_simp; done) | (go_simp; rfl))
                                                    intro gb6440 hg w59 hbox hb
                                                    have BK6440 := Aside0.mk (hbox)
                                                    have GW6440 := kg HB hg
                                                    have GE6440 := kg HB hg
                                                    have NB6401_6440 := kn BK6401 hg
                                                    have NB6440_6401 := km BK6401 hg
                                                    have NB6402_6440 := kn BK6402 hg
                                                    have NB6440_6402 := km BK6402 hg
                                                    have NB6409_6440 := kn BK6409 hg
                                                    have NB6440_6409 := km BK6409 hg
                                                    replace BK6401 := kb BK6401 hb
                                                    replace BK6402 := kb BK6402 hb
                                                    replace BK6409 := kb BK6409 hb
                                                    replace HB := kh HB hb
                                                    clear hb hbox hg
                                                    refine hK.out _ _ ⟨bc BK6401 0, bc BK6401 1, bc BK6401 2⟩ (fun hHeld => ?_)
                                                    clear hK K
                                                    refine nrm (some 8) ?_
                                                    exact norm_ (by first | (simp only [putAll, Act.put, List.setIfInBounds_toArray, List.set_cons_zero, List.set_cons_succ]; done) | (simp only [putAll, Act.put, List.setIfInBounds_toArray, List.set_cons_zero, List.set_cons_succ]; rfl)) (hJ1_9 (gb6440) _ ⟨hHeld, (pk BK6401), (pk BK6402), (pk BK6409), (pk BK6440), GW6440.out, GE6440.out, NB6401_6440.out, NB6440_6401.out, NB6402_6440.out, NB6440_6402.out, NB6409_6440.out, NB6440_6409.out, (pl HB)⟩)
                                              · skip
                                                rintro gb6440 w59 ⟨hS_, h0_, h1_, h2_, h3_, h4_, h5_, h6_, h7_, h8_, h9_, h10_, h11_, h12_⟩
                                                have n0_ : Aside0 (w59.heap[gb6401]? = some (.cells #[.bool a0_0, .int .i64 a0_1, .int .i64 a0_2] 23 (0, 0))) := ⟨h0_⟩
                                                have n1_ : Aside0 (w59.heap[gb6402]? = some (.cells #[.bool a1_0, .int .i64 a1_1, .int .i64 a1_2] 23 (0, 0))) := ⟨h1_⟩
                                                have n2_ : Aside0 (w59.heap[gb6409]? = some (.cells #[.bool t6406, .int .i64 t6407, .int .i64 t6408] 23 (0, 0))) := ⟨h2_⟩
                                                have n3_ : Aside0 (w59.heap[gb6440]? = some (.cells #[.bool false, .int .i64 0, .int .i64 0] 23 (0, 0))) := ⟨h3_⟩
                                                have n4_ : Aside0 (w.heap.size ≤ gb6440) := ⟨h4_⟩
                                                have n5_ : Aside0 (w.heap.size ≤ gb6440) := ⟨h5_⟩
                                                have n6_ : Aside0 (gb6401 ≠ gb6440) := ⟨h6_⟩
                                                have n7_ : Aside0 (gb6440 ≠ gb6401) := ⟨h7_⟩
                                                have n8_ : Aside0 (gb6402 ≠ gb6440) := ⟨h8_⟩
                                                have n9_ : Aside0 (gb6440 ≠ gb6402) := ⟨h9_⟩
                                                have n10_ : Aside0 (gb6409 ≠ gb6440) := ⟨h10_⟩
                                                have n11_ : Aside0 (gb6440 ≠ gb6409) := ⟨h11_⟩
                                                have n12_ : Aside0 (Below w.heap.size w w59) := ⟨h12_⟩
                                                clear BK6401
                                                clear BK6402
                                                clear BK6409
                                                clear HB
                                                clear h0_ h1_ h2_ h3_ h4_ h5_ h6_ h7_ h8_ h9_ h10_ h11_ h12_
                                                have BK6401 := n0_
                                                have BK6402 := n1_
                                                have BK6409 := n2_
                                                have BK6440 := n3_
                                                have GW6440 := n4_
                                                have GE6440 := n5_
                                                have NB6401_6440 := n6_
                                                have NB6440_6401 := n7_
                                                have NB6402_6440 := n8_
                                                have NB6440_6402 := n9_
                                                have NB6409_6440 := n10_
                                                have NB6440_6409 := n11_
                                                have HB := n12_
                                                clear n0_ n1_ n2_ n3_ n4_ n5_ n6_ n7_ n8_ n9_ n10_ n11_ n12_
                                                have hHeld : w59.cell? ⟨gb6401, 0, none⟩ = some (.bool a0_0) ∧ w59.cell? ⟨gb6401, 1, none⟩ = some (.int .i64 a0_1) ∧ w59.cell? ⟨gb6401, 2, none⟩ = some (.int .i64 a0_2) := hS_
                                                refine norm_ (a' := ?_) ?_ ?_
                                                rotate_left
                                                · simp only [putAll, Act.put, List.setIfInBounds_toArray, List.set_cons_zero, List.set_cons_succ]
                                                  rfl
                                                refine one_ (i := 2) (N := some 31) #[true, true, true, true, false, false, false, false, false, true, false] rfl rfl (one_of HT_.out (by kernel_rfl)) (by decide) (fun K hK => ?_)
                                                refine gc Try.func45 #[.agg #[.bool a0_0, .int .i64 a0_1, .int .i64 a0_2], .agg #[.bool t6419, .int .i64 t6420, .int .i64 t6421]] (ints_Meet.calls kj4 a0_0 a0_1 a0_2 t6419 t6420 t6421 t6422 t6423 t6424 _ A26.out) ?_
                                                intro w60 hb
                                                replace BK6401 := kb BK6401 hb
                                                replace BK6402 := kb BK6402 hb
                                                replace BK6409 := kb BK6409 hb
                                                replace BK6440 := kb BK6440 hb
                                                replace HB := kh HB hb
                                                (try clear hb)
                                                (try clear hb2)
                                                (try clear hk)
                                                (try clear hi)
                                                refine hK.out _ _ ⟨bc BK6401 0, bc BK6401 1, bc BK6401 2⟩ (fun hHeld => ?_)
                                                clear hK K
                                                refine nrm (some 31) ?_
                                                exact norm_ (by first | (simp only [putAll, Act.put, List.setIfInBounds_toArray, List.set_cons_zero, List.set_cons_succ]; done) | (simp only [putAll, Act.put, List.setIfInBounds_toArray, List.set_cons_zero, List.set_cons_succ]; rfl)) (hJ1_2_9 (gb6440) _ ⟨hHeld, (pk BK6401), (pk BK6402), (pk BK6409), (pk BK6440), GW6440.out, GE6440.out, NB6401_6440.out, NB6440_6401.out, NB6402_6440.out, NB6440_6402.out, NB6409_6440.out, NB6440_6409.out, (pl HB)⟩)
                                            · skip
                                              rintro _ w59 ⟨hS_, h0_, h1_, h2_, h3_⟩
                                              have n0_ : Aside0 (w59.heap[gb6401]? = some (.cells #[.bool a0_0, .int .i64 a0_1, .int .i64 a0_2] 23 (0, 0))) := ⟨h0_⟩
                                              have n1_ : Aside0 (w59.heap[gb6402]? = some (.cells #[.bool a1_0, .int .i64 a1_1, .int .i64 a1_2] 23 (0, 0))) := ⟨h1_⟩
                                              have n2_ : Aside0 (w59.heap[gb6409]? = some (.cells #[.bool t6406, .int .i64 t6407, .int .i64 t6408] 23 (0, 0))) := ⟨h2_⟩
                                              have n3_ : Aside0 (Below w.heap.size w w59) := ⟨h3_⟩
                                              clear BK6401
                                              clear BK6402
                                              clear BK6409
                                              clear HB
                                              clear h0_ h1_ h2_ h3_
                                              have BK6401 := n0_
                                              have BK6402 := n1_
                                              have BK6409 := n2_
                                              have HB := n3_
                                              clear n0_ n1_ n2_ n3_
                                              have hHeld : w59.cell? ⟨gb6401, 0, none⟩ = some (.bool a0_0) ∧ w59.cell? ⟨gb6401, 1, none⟩ = some (.int .i64 a0_1) ∧ w59.cell? ⟨gb6401, 2, none⟩ = some (.int .i64 a0_2) := hS_
                                              refine norm_ (a' := ?_) ?_ ?_
                                              rotate_left
                                              · simp only [putAll, Act.put, List.setIfInBounds_toArray, List.set_cons_zero, List.set_cons_succ]
                                                rfl
                                              refine two_ (i := 4) (j := 9) (Ni := some 33) (Nj := some 8) #[true, true, true, true, true, false, false, false, false, false, false] #[true, true, true, true, false, false, false, false, false, true, false] rfl rfl rfl rfl (two_of HT_.out (by kernel_rfl)) (by decide) (by decide) (fun K hK => ?_) (fun K hK => ?_)
                                              · skip
                                                refine gc Try.func48 #[.agg #[.bool a0_0, .int .i64 a0_1, .int .i64 a0_2]] (ints_Neg.calls a0_0 a0_1 a0_2 t6425 t6426 t6427 _ A27.out) ?_
                                                intro w60 hb
                                                replace BK6401 := kb BK6401 hb
                                                replace BK6402 := kb BK6402 hb
                                                replace BK6409 := kb BK6409 hb
                                                replace HB := kh HB hb
                                                (try clear hb)
                                                (try clear hb2)
                                                (try clear hk)
                                                (try clear hi)
                                                refine hK.out _ _ ⟨bc BK6401 0, bc BK6401 1, bc BK6401 2⟩ (fun hHeld => ?_)
                                                clear hK K
                                                refine nrm (some 33) ?_
                                                exact norm_ (by first | (simp only [putAll, Act.put, List.setIfInBounds_toArray, List.set_cons_zero, List.set_cons_succ]; done) | (simp only [putAll, Act.put, List.setIfInBounds_toArray, List.set_cons_zero, List.set_cons_succ]; rfl)) (hJ1_2_4 () _ ⟨hHeld, (pk BK6401), (pk BK6402), (pk BK6409), (pl HB)⟩)
                                              · skip
                                                refine box_step ?hg (N := 8) ?hd (cs := #[.bool false, .int .i64 0, .int .i64 0]) (t := 23) ?hr ?_; (case hd => rfl); (case hg => rfl); (case hr => first | (go_simp; done) | (go_simp; rfl))
                                                intro gb6440 hg w60 hbox hb
                                                have BK6440 := Aside0.mk (hbox)
                                                have GW6440 := kg HB hg
                                                have GE6440 := kg HB hg
                                                have NB6401_6440 := kn BK6401 hg
                                                have NB6440_6401 := km BK6401 hg
                                                have NB6402_6440 := kn BK6402 hg
                                                have NB6440_6402 := km BK6402 hg
                                                have NB6409_6440 := kn BK6409 hg
                                                have NB6440_6409 := km BK6409 hg
                                                replace BK6401 := kb BK6401 hb
                                                replace BK6402 := kb BK6402 hb
                                                replace BK6409 := kb BK6409 hb
                                                replace HB := kh HB hb
                                                clear hb hbox hg
                                                refine hK.out _ _ ⟨bc BK6401 0, bc BK6401 1, bc BK6401 2⟩ (fun hHeld => ?_)
                                                clear hK K
                                                refine nrm (some 8) ?_
                                                exact norm_ (by first | (simp only [putAll, Act.put, List.setIfInBounds_toArray, List.set_cons_zero, List.set_cons_succ]; done) | (simp only [putAll, Act.put, List.setIfInBounds_toArray, List.set_cons_zero, List.set_cons_succ]; rfl)) (hJ1_2_9 (gb6440) _ ⟨hHeld, (pk BK6401), (pk BK6402), (pk BK6409), (pk BK6440), GW6440.out, GE6440.out, NB6401_6440.out, NB6440_6401.out, NB6402_6440.out, NB6440_6402.out, NB6409_6440.out, NB6440_6409.out, (pl HB)⟩)
                                          · skip
                                            rintro gb6440 w60 ⟨hS_, h0_, h1_, h2_, h3_, h4_, h5_, h6_, h7_, h8_, h9_, h10_, h11_, h12_⟩
                                            have n0_ : Aside0 (w60.heap[gb6401]? = some (.cells #[.bool a0_0, .int .i64 a0_1, .int .i64 a0_2] 23 (0, 0))) := ⟨h0_⟩
                                            have n1_ : Aside0 (w60.heap[gb6402]? = some (.cells #[.bool a1_0, .int .i64 a1_1, .int .i64 a1_2] 23 (0, 0))) := ⟨h1_⟩
                                            have n2_ : Aside0 (w60.heap[gb6409]? = some (.cells #[.bool t6406, .int .i64 t6407, .int .i64 t6408] 23 (0, 0))) := ⟨h2_⟩
                                            have n3_ : Aside0 (w60.heap[gb6440]? = some (.cells #[.bool false, .int .i64 0, .int .i64 0] 23 (0, 0))) := ⟨h3_⟩
                                            have n4_ : Aside0 (w.heap.size ≤ gb6440) := ⟨h4_⟩
                                            have n5_ : Aside0 (w.heap.size ≤ gb6440) := ⟨h5_⟩
                                            have n6_ : Aside0 (gb6401 ≠ gb6440) := ⟨h6_⟩
                                            have n7_ : Aside0 (gb6440 ≠ gb6401) := ⟨h7_⟩
                                            have n8_ : Aside0 (gb6402 ≠ gb6440) := ⟨h8_⟩
                                            have n9_ : Aside0 (gb6440 ≠ gb6402) := ⟨h9_⟩
                                            have n10_ : Aside0 (gb6409 ≠ gb6440) := ⟨h10_⟩
                                            have n11_ : Aside0 (gb6440 ≠ gb6409) := ⟨h11_⟩
                                            have n12_ : Aside0 (Below w.heap.size w w60) := ⟨h12_⟩
                                            clear BK6401
                                            clear BK6402
                                            clear BK6409
                                            clear HB
                                            clear h0_ h1_ h2_ h3_ h4_ h5_ h6_ h7_ h8_ h9_ h10_ h11_ h12_
                                            have BK6401 := n0_
                                            have BK6402 := n1_
                                            have BK6409 := n2_
                                            have BK6440 := n3_
                                            have GW6440 := n4_
                                            have GE6440 := n5_
                                            have NB6401_6440 := n6_
                                            have NB6440_6401 := n7_
                                            have NB6402_6440 := n8_
                                            have NB6440_6402 := n9_
                                            have NB6409_6440 := n10_
                                            have NB6440_6409 := n11_
                                            have HB := n12_
                                            clear n0_ n1_ n2_ n3_ n4_ n5_ n6_ n7_ n8_ n9_ n10_ n11_ n12_
                                            have hHeld : w60.cell? ⟨gb6401, 0, none⟩ = some (.bool a0_0) ∧ w60.cell? ⟨gb6401, 1, none⟩ = some (.int .i64 a0_1) ∧ w60.cell? ⟨gb6401, 2, none⟩ = some (.int .i64 a0_2) := hS_
                                            refine norm_ (a' := ?_) ?_ ?_
                                            rotate_left
                                            · simp only [putAll, Act.put, List.setIfInBounds_toArray, List.set_cons_zero, List.set_cons_succ]
                                              rfl
                                            refine one_ (i := 4) (N := some 33) #[true, true, true, true, true, false, false, false, false, true, false] rfl rfl (one_of HT_.out (by kernel_rfl)) (by decide) (fun K hK => ?_)
                                            refine gc Try.func48 #[.agg #[.bool a0_0, .int .i64 a0_1, .int .i64 a0_2]] (ints_Neg.calls a0_0 a0_1 a0_2 t6425 t6426 t6427 _ A27.out) ?_
                                            intro w61 hb
                                            replace BK6401 := kb BK6401 hb
                                            replace BK6402 := kb BK6402 hb
                                            replace BK6409 := kb BK6409 hb
                                            replace BK6440 := kb BK6440 hb
                                            replace HB := kh HB hb
                                            (try clear hb)
                                            (try clear hb2)
                                            (try clear hk)
                                            (try clear hi)
                                            refine hK.out _ _ ⟨bc BK6401 0, bc BK6401 1, bc BK6401 2⟩ (fun hHeld => ?_)
                                            clear hK K
                                            refine nrm (some 33) ?_
                                            exact norm_ (by first | (simp only [putAll, Act.put, List.setIfInBounds_toArray, List.set_cons_zero, List.set_cons_succ]; done) | (simp only [putAll, Act.put, List.setIfInBounds_toArray, List.set_cons_zero, List.set_cons_succ]; rfl)) (hJ1_2_4_9 (gb6440) _ ⟨hHeld, (pk BK6401), (pk BK6402), (pk BK6409), (pk BK6440), GW6440.out, GE6440.out, NB6401_6440.out, NB6440_6401.out, NB6402_6440.out, NB6440_6402.out, NB6409_6440.out, NB6440_6409.out, (pl HB)⟩)
                                        · skip
                                          rintro _ w60 ⟨hS_, h0_, h1_, h2_, h3_⟩
                                          have n0_ : Aside0 (w60.heap[gb6401]? = some (.cells #[.bool a0_0, .int .i64 a0_1, .int .i64 a0_2] 23 (0, 0))) := ⟨h0_⟩
                                          have n1_ : Aside0 (w60.heap[gb6402]? = some (.cells #[.bool a1_0, .int .i64 a1_1, .int .i64 a1_2] 23 (0, 0))) := ⟨h1_⟩
                                          have n2_ : Aside0 (w60.heap[gb6409]? = some (.cells #[.bool t6406, .int .i64 t6407, .int .i64 t6408] 23 (0, 0))) := ⟨h2_⟩
                                          have n3_ : Aside0 (Below w.heap.size w w60) := ⟨h3_⟩
                                          clear BK6401
                                          clear BK6402
                                          clear BK6409
                                          clear HB
                                          clear h0_ h1_ h2_ h3_
                                          have BK6401 := n0_
                                          have BK6402 := n1_
                                          have BK6409 := n2_
                                          have HB := n3_
                                          clear n0_ n1_ n2_ n3_
                                          have hHeld : w60.cell? ⟨gb6401, 0, none⟩ = some (.bool a0_0) ∧ w60.cell? ⟨gb6401, 1, none⟩ = some (.int .i64 a0_1) ∧ w60.cell? ⟨gb6401, 2, none⟩ = some (.int .i64 a0_2) := hS_
                                          refine norm_ (a' := ?_) ?_ ?_
                                          rotate_left
                                          · simp only [putAll, Act.put, List.setIfInBounds_toArray, List.set_cons_zero, List.set_cons_succ]
                                            rfl
                                          refine two_ (i := 5) (j := 9) (Ni := some 34) (Nj := some 8) #[true, true, true, true, true, true, false, false, false, false, false] #[true, true, true, true, true, false, false, false, false, true, false] rfl rfl rfl rfl (two_of HT_.out (by kernel_rfl)) (by decide) (by decide) (fun K hK => ?_) (fun K hK => ?_)
                                          · skip
                                            refine gc Try.func37 #[.int .i64 0, .int .i64 1099511627776] (ints_Make.calls 0 1099511627776 t6428 t6429 t6430 _ A28.out) ?_
                                            intro w61 hb
                                            replace BK6401 := kb BK6401 hb
                                            replace BK6402 := kb BK6402 hb
                                            replace BK6409 := kb BK6409 hb
                                            replace HB := kh HB hb
                                            (try clear hb)
                                            (try clear hb2)
                                            (try clear hk)
                                            (try clear hi)
                                            refine hK.out _ _ ⟨bc BK6401 0, bc BK6401 1, bc BK6401 2⟩ (fun hHeld => ?_)
                                            clear hK K
                                            refine nrm (some 34) ?_
                                            exact norm_ (by first | (simp only [putAll, Act.put, List.setIfInBounds_toArray, List.set_cons_zero, List.set_cons_succ]; done) | (simp only [putAll, Act.put, List.setIfInBounds_toArray, List.set_cons_zero, List.set_cons_succ]; rfl)) (hJ1_2_4_5 () _ ⟨hHeld, (pk BK6401), (pk BK6402), (pk BK6409), (pl HB)⟩)
                                          · skip
                                            refine box_step ?hg (N := 8) ?hd (cs := #[.bool false, .int .i64 0, .int .i64 0]) (t := 23) ?hr ?_; (case hd => rfl); (case hg => rfl); (case hr => first | (go_simp; done) | (go_simp; rfl))
                                            intro gb6440 hg w61 hbox hb
                                            have BK6440 := Aside0.mk (hbox)
                                            have GW6440 := kg HB hg
                                            have GE6440 := kg HB hg
                                            have NB6401_6440 := kn BK6401 hg
                                            have NB6440_6401 := km BK6401 hg
                                            have NB6402_6440 := kn BK6402 hg
                                            have NB6440_6402 := km BK6402 hg
                                            have NB6409_6440 := kn BK6409 hg
                                            have NB6440_6409 := km BK6409 hg
                                            replace BK6401 := kb BK6401 hb
                                            replace BK6402 := kb BK6402 hb
                                            replace BK6409 := kb BK6409 hb
                                            replace HB := kh HB hb
                                            clear hb hbox hg
                                            refine hK.out _ _ ⟨bc BK6401 0, bc BK6401 1, bc BK6401 2⟩ (fun hHeld => ?_)
                                            clear hK K
                                            refine nrm (some 8) ?_
                                            exact norm_ (by first | (simp only [putAll, Act.put, List.setIfInBounds_toArray, List.set_cons_zero, List.set_cons_succ]; done) | (simp only [putAll, Act.put, List.setIfInBounds_toArray, List.set_cons_zero, List.set_cons_succ]; rfl)) (hJ1_2_4_9 (gb6440) _ ⟨hHeld, (pk BK6401), (pk BK6402), (pk BK6409), (pk BK6440), GW6440.out, GE6440.out, NB6401_6440.out, NB6440_6401.out, NB6402_6440.out, NB6440_6402.out, NB6409_6440.out, NB6440_6409.out, (pl HB)⟩)
                                      · skip
                                        rintro gb6440 w61 ⟨hS_, h0_, h1_, h2_, h3_, h4_, h5_, h6_, h7_, h8_, h9_, h10_, h11_, h12_⟩
                                        have n0_ : Aside0 (w61.heap[gb6401]? = some (.cells #[.bool a0_0, .int .i64 a0_1, .int .i64 a0_2] 23 (0, 0))) := ⟨h0_⟩
                                        have n1_ : Aside0 (w61.heap[gb6402]? = some (.cells #[.bool a1_0, .int .i64 a1_1, .int .i64 a1_2] 23 (0, 0))) := ⟨h1_⟩
                                        have n2_ : Aside0 (w61.heap[gb6409]? = some (.cells #[.bool t6406, .int .i64 t6407, .int .i64 t6408] 23 (0, 0))) := ⟨h2_⟩
                                        have n3_ : Aside0 (w61.heap[gb6440]? = some (.cells #[.bool false, .int .i64 0, .int .i64 0] 23 (0, 0))) := ⟨h3_⟩
                                        have n4_ : Aside0 (w.heap.size ≤ gb6440) := ⟨h4_⟩
                                        have n5_ : Aside0 (w.heap.size ≤ gb6440) := ⟨h5_⟩
                                        have n6_ : Aside0 (gb6401 ≠ gb6440) := ⟨h6_⟩
                                        have n7_ : Aside0 (gb6440 ≠ gb6401) := ⟨h7_⟩
                                        have n8_ : Aside0 (gb6402 ≠ gb6440) := ⟨h8_⟩
                                        have n9_ : Aside0 (gb6440 ≠ gb6402) := ⟨h9_⟩
                                        have n10_ : Aside0 (gb6409 ≠ gb6440) := ⟨h10_⟩
                                        have n11_ : Aside0 (gb6440 ≠ gb6409) := ⟨h11_⟩
                                        have n12_ : Aside0 (Below w.heap.size w w61) := ⟨h12_⟩
                                        clear BK6401
                                        clear BK6402
                                        clear BK6409
                                        clear HB
                                        clear h0_ h1_ h2_ h3_ h4_ h5_ h6_ h7_ h8_ h9_ h10_ h11_ h12_
                                        have BK6401 := n0_
                                        have BK6402 := n1_
                                        have BK6409 := n2_
                                        have BK6440 := n3_
                                        have GW6440 := n4_
                                        have GE6440 := n5_
                                        have NB6401_6440 := n6_
                                        have NB6440_6401 := n7_
                                        have NB6402_6440 := n8_
                                        have NB6440_6402 := n9_
                                        have NB6409_6440 := n10_
                                        have NB6440_6409 := n11_
                                        have HB := n12_
                                        clear n0_ n1_ n2_ n3_ n4_ n5_ n6_ n7_ n8_ n9_ n10_ n11_ n12_
                                        have hHeld : w61.cell? ⟨gb6401, 0, none⟩ = some (.bool a0_0) ∧ w61.cell? ⟨gb6401, 1, none⟩ = some (.int .i64 a0_1) ∧ w61.cell? ⟨gb6401, 2, none⟩ = some (.int .i64 a0_2) := hS_
                                        refine norm_ (a' := ?_) ?_ ?_
                                        rotate_left
                                        · simp only [putAll, Act.put, List.setIfInBounds_toArray, List.set_cons_zero, List.set_cons_succ]
                                          rfl
                                        refine one_ (i := 5) (N := some 34) #[true, true, true, true, true, true, false, false, false, true, false] rfl rfl (one_of HT_.out (by kernel_rfl)) (by decide) (fun K hK => ?_)
                                        refine gc Try.func37 #[.int .i64 0, .int .i64 1099511627776] (ints_Make.calls 0 1099511627776 t6428 t6429 t6430 _ A28.out) ?_
                                        intro w62 hb
                                        replace BK6401 := kb BK6401 hb
                                        replace BK6402 := kb BK6402 hb
                                        replace BK6409 := kb BK6409 hb
                                        replace BK6440 := kb BK6440 hb
                                        replace HB := kh HB hb
                                        (try clear hb)
                                        (try clear hb2)
                                        (try clear hk)
                                        (try clear hi)
                                        refine hK.out _ _ ⟨bc BK6401 0, bc BK6401 1, bc BK6401 2⟩ (fun hHeld => ?_)
                                        clear hK K
                                        refine nrm (some 34) ?_
                                        exact norm_ (by first | (simp only [putAll, Act.put, List.setIfInBounds_toArray, List.set_cons_zero, List.set_cons_succ]; done) | (simp only [putAll, Act.put, List.setIfInBounds_toArray, List.set_cons_zero, List.set_cons_succ]; rfl)) (hJ1_2_4_5_9 (gb6440) _ ⟨hHeld, (pk BK6401), (pk BK6402), (pk BK6409), (pk BK6440), GW6440.out, GE6440.out, NB6401_6440.out, NB6440_6401.out, NB6402_6440.out, NB6440_6402.out, NB6409_6440.out, NB6440_6409.out, (pl HB)⟩)
                                    · skip
                                      rintro _ w61 ⟨hS_, h0_, h1_, h2_, h3_⟩
                                      have n0_ : Aside0 (w61.heap[gb6401]? = some (.cells #[.bool a0_0, .int .i64 a0_1, .int .i64 a0_2] 23 (0, 0))) := ⟨h0_⟩
                                      have n1_ : Aside0 (w61.heap[gb6402]? = some (.cells #[.bool a1_0, .int .i64 a1_1, .int .i64 a1_2] 23 (0, 0))) := ⟨h1_⟩
                                      have n2_ : Aside0 (w61.heap[gb6409]? = some (.cells #[.bool t6406, .int .i64 t6407, .int .i64 t6408] 23 (0, 0))) := ⟨h2_⟩
                                      have n3_ : Aside0 (Below w.heap.size w w61) := ⟨h3_⟩
                                      clear BK6401
                                      clear BK6402
                                      clear BK6409
                                      clear HB
                                      clear h0_ h1_ h2_ h3_
                                      have BK6401 := n0_
                                      have BK6402 := n1_
                                      have BK6409 := n2_
                                      have HB := n3_
                                      clear n0_ n1_ n2_ n3_
                                      have hHeld : w61.cell? ⟨gb6401, 0, none⟩ = some (.bool a0_0) ∧ w61.cell? ⟨gb6401, 1, none⟩ = some (.int .i64 a0_1) ∧ w61.cell? ⟨gb6401, 2, none⟩ = some (.int .i64 a0_2) := hS_
                                      refine norm_ (a' := ?_) ?_ ?_
                                      rotate_left
                                      · simp only [putAll, Act.put, List.setIfInBounds_toArray, List.set_cons_zero, List.set_cons_succ]
                                        rfl
                                      refine two_ (i := 6) (j := 9) (Ni := some 35) (Nj := some 8) #[true, true, true, true, true, true, true, false, false, false, false] #[true, true, true, true, true, true, false, false, false, true, false] rfl rfl rfl rfl (two_of HT_.out (by kernel_rfl)) (by decide) (by decide) (fun K hK => ?_) (fun K hK => ?_)
                                      · skip
                                        refine gc Try.func45 #[.agg #[.bool t6425, .int .i64 t6426, .int .i64 t6427], .agg #[.bool t6428, .int .i64 t6429, .int .i64 t6430]] (ints_Meet.calls kj4 t6425 t6426 t6427 t6428 t6429 t6430 t6431 t6432 t6433 _ A29.out) ?_
                                        intro w62 hb
                                        replace BK6401 := kb BK6401 hb
                                        replace BK6402 := kb BK6402 hb
                                        replace BK6409 := kb BK6409 hb
                                        replace HB := kh HB hb
                                        (try clear hb)
                                        (try clear hb2)
                                        (try clear hk)
                                        (try clear hi)
                                        refine hK.out _ _ ⟨bc BK6401 0, bc BK6401 1, bc BK6401 2⟩ (fun hHeld => ?_)
                                        clear hK K
                                        refine nrm (some 35) ?_
                                        exact norm_ (by first | (simp only [putAll, Act.put, List.setIfInBounds_toArray, List.set_cons_zero, List.set_cons_succ]; done) | (simp only [putAll, Act.put, List.setIfInBounds_toArray, List.set_cons_zero, List.set_cons_succ]; rfl)) (hJ1_2_4_5_6 () _ ⟨hHeld, (pk BK6401), (pk BK6402), (pk BK6409), (pl HB)⟩)
                                      · skip
                                        refine box_step ?hg (N := 8) ?hd (cs := #[.bool false, .int .i64 0, .int .i64 0]) (t := 23) ?hr ?_; (case hd => rfl); (case hg => rfl); (case hr => first | (go_simp; done) | (go_simp; rfl))
                                        intro gb6440 hg w62 hbox hb
                                        have BK6440 := Aside0.mk (hbox)
                                        have GW6440 := kg HB hg
                                        have GE6440 := kg HB hg
                                        have NB6401_6440 := kn BK6401 hg
                                        have NB6440_6401 := km BK6401 hg
                                        have NB6402_6440 := kn BK6402 hg
                                        have NB6440_6402 := km BK6402 hg
                                        have NB6409_6440 := kn BK6409 hg
                                        have NB6440_6409 := km BK6409 hg
                                        replace BK6401 := kb BK6401 hb
                                        replace BK6402 := kb BK6402 hb
                                        replace BK6409 := kb BK6409 hb
                                        replace HB := kh HB hb
                                        clear hb hbox hg
                                        refine hK.out _ _ ⟨bc BK6401 0, bc BK6401 1, bc BK6401 2⟩ (fun hHeld => ?_)
                                        clear hK K
                                        refine nrm (some 8) ?_
                                        exact norm_ (by first | (simp only [putAll, Act.put, List.setIfInBounds_toArray, List.set_cons_zero, List.set_cons_succ]; done) | (simp only [putAll, Act.put, List.setIfInBounds_toArray, List.set_cons_zero, List.set_cons_succ]; rfl)) (hJ1_2_4_5_9 (gb6440) _ ⟨hHeld, (pk BK6401), (pk BK6402), (pk BK6409), (pk BK6440), GW6440.out, GE6440.out, NB6401_6440.out, NB6440_6401.out, NB6402_6440.out, NB6440_6402.out, NB6409_6440.out, NB6440_6409.out, (pl HB)⟩)
                                  · skip
                                    rintro gb6440 w62 ⟨hS_, h0_, h1_, h2_, h3_, h4_, h5_, h6_, h7_, h8_, h9_, h10_, h11_, h12_⟩
                                    have n0_ : Aside0 (w62.heap[gb6401]? = some (.cells #[.bool a0_0, .int .i64 a0_1, .int .i64 a0_2] 23 (0, 0))) := ⟨h0_⟩
                                    have n1_ : Aside0 (w62.heap[gb6402]? = some (.cells #[.bool a1_0, .int .i64 a1_1, .int .i64 a1_2] 23 (0, 0))) := ⟨h1_⟩
                                    have n2_ : Aside0 (w62.heap[gb6409]? = some (.cells #[.bool t6406, .int .i64 t6407, .int .i64 t6408] 23 (0, 0))) := ⟨h2_⟩
                                    have n3_ : Aside0 (w62.heap[gb6440]? = some (.cells #[.bool false, .int .i64 0, .int .i64 0] 23 (0, 0))) := ⟨h3_⟩
                                    have n4_ : Aside0 (w.heap.size ≤ gb6440) := ⟨h4_⟩
                                    have n5_ : Aside0 (w.heap.size ≤ gb6440) := ⟨h5_⟩
                                    have n6_ : Aside0 (gb6401 ≠ gb6440) := ⟨h6_⟩
                                    have n7_ : Aside0 (gb6440 ≠ gb6401) := ⟨h7_⟩
                                    have n8_ : Aside0 (gb6402 ≠ gb6440) := ⟨h8_⟩
                                    have n9_ : Aside0 (gb6440 ≠ gb6402) := ⟨h9_⟩
                                    have n10_ : Aside0 (gb6409 ≠ gb6440) := ⟨h10_⟩
                                    have n11_ : Aside0 (gb6440 ≠ gb6409) := ⟨h11_⟩
                                    have n12_ : Aside0 (Below w.heap.size w w62) := ⟨h12_⟩
                                    clear BK6401
                                    clear BK6402
                                    clear BK6409
                                    clear HB
                                    clear h0_ h1_ h2_ h3_ h4_ h5_ h6_ h7_ h8_ h9_ h10_ h11_ h12_
                                    have BK6401 := n0_
                                    have BK6402 := n1_
                                    have BK6409 := n2_
                                    have BK6440 := n3_
                                    have GW6440 := n4_
                                    have GE6440 := n5_
                                    have NB6401_6440 := n6_
                                    have NB6440_6401 := n7_
                                    have NB6402_6440 := n8_
                                    have NB6440_6402 := n9_
                                    have NB6409_6440 := n10_
                                    have NB6440_6409 := n11_
                                    have HB := n12_
                                    clear n0_ n1_ n2_ n3_ n4_ n5_ n6_ n7_ n8_ n9_ n10_ n11_ n12_
                                    have hHeld : w62.cell? ⟨gb6401, 0, none⟩ = some (.bool a0_0) ∧ w62.cell? ⟨gb6401, 1, none⟩ = some (.int .i64 a0_1) ∧ w62.cell? ⟨gb6401, 2, none⟩ = some (.int .i64 a0_2) := hS_
                                    refine norm_ (a' := ?_) ?_ ?_
                                    rotate_left
                                    · simp only [putAll, Act.put, List.setIfInBounds_toArray, List.set_cons_zero, List.set_cons_succ]
                                      rfl
                                    refine one_ (i := 6) (N := some 35) #[true, true, true, true, true, true, true, false, false, true, false] rfl rfl (one_of HT_.out (by kernel_rfl)) (by decide) (fun K hK => ?_)
                                    refine gc Try.func45 #[.agg #[.bool t6425, .int .i64 t6426, .int .i64 t6427], .agg #[.bool t6428, .int .i64 t6429, .int .i64 t6430]] (ints_Meet.calls kj4 t6425 t6426 t6427 t6428 t6429 t6430 t6431 t6432 t6433 _ A29.out) ?_
                                    intro w63 hb
                                    replace BK6401 := kb BK6401 hb
                                    replace BK6402 := kb BK6402 hb
                                    replace BK6409 := kb BK6409 hb
                                    replace BK6440 := kb BK6440 hb
                                    replace HB := kh HB hb
                                    (try clear hb)
                                    (try clear hb2)
                                    (try clear hk)
                                    (try clear hi)
                                    refine hK.out _ _ ⟨bc BK6401 0, bc BK6401 1, bc BK6401 2⟩ (fun hHeld => ?_)
                                    clear hK K
                                    refine nrm (some 35) ?_
                                    exact norm_ (by first | (simp only [putAll, Act.put, List.setIfInBounds_toArray, List.set_cons_zero, List.set_cons_succ]; done) | (simp only [putAll, Act.put, List.setIfInBounds_toArray, List.set_cons_zero, List.set_cons_succ]; rfl)) (hJ1_2_4_5_6_9 (gb6440) _ ⟨hHeld, (pk BK6401), (pk BK6402), (pk BK6409), (pk BK6440), GW6440.out, GE6440.out, NB6401_6440.out, NB6440_6401.out, NB6402_6440.out, NB6440_6402.out, NB6409_6440.out, NB6440_6409.out, (pl HB)⟩)
                                · skip
                                  rintro _ w62 ⟨hS_, h0_, h1_, h2_, h3_⟩
                                  have n0_ : Aside0 (w62.heap[gb6401]? = some (.cells #[.bool a0_0, .int .i64 a0_1, .int .i64 a0_2] 23 (0, 0))) := ⟨h0_⟩
                                  have n1_ : Aside0 (w62.heap[gb6402]? = some (.cells #[.bool a1_0, .int .i64 a1_1, .int .i64 a1_2] 23 (0, 0))) := ⟨h1_⟩
                                  have n2_ : Aside0 (w62.heap[gb6409]? = some (.cells #[.bool t6406, .int .i64 t6407, .int .i64 t6408] 23 (0, 0))) := ⟨h2_⟩
                                  have n3_ : Aside0 (Below w.heap.size w w62) := ⟨h3_⟩
                                  clear BK6401
                                  clear BK6402
                                  clear BK6409
                                  clear HB
                                  clear h0_ h1_ h2_ h3_
                                  have BK6401 := n0_
                                  have BK6402 := n1_
                                  have BK6409 := n2_
                                  have HB := n3_
                                  clear n0_ n1_ n2_ n3_
                                  have hHeld : w62.cell? ⟨gb6401, 0, none⟩ = some (.bool a0_0) ∧ w62.cell? ⟨gb6401, 1, none⟩ = some (.int .i64 a0_1) ∧ w62.cell? ⟨gb6401, 2, none⟩ = some (.int .i64 a0_2) := hS_
                                  refine norm_ (a' := ?_) ?_ ?_
                                  rotate_left
                                  · simp only [putAll, Act.put, List.setIfInBounds_toArray, List.set_cons_zero, List.set_cons_succ]
                                    rfl
                                  refine two_ (i := 7) (j := 9) (Ni := some 36) (Nj := some 8) #[true, true, true, true, true, true, true, true, false, false, false] #[true, true, true, true, true, true, true, false, false, true, false] rfl rfl rfl rfl (two_of HT_.out (by kernel_rfl)) (by decide) (by decide) (fun K hK => ?_) (fun K hK => ?_)
                                  · skip
                                    refine Kd.R_lit_step k23 _ 23 ?hg (N := 36) ?hd (xs := ([(⟨t6422, t6423, t6424⟩ : S23), (⟨t6431, t6432, t6433⟩ : S23)] : List (S23))) (inner := [.bool t6422, .int .i64 t6423, .int .i64 t6424, .bool t6431, .int .i64 t6432, .int .i64 t6433]) (ok := fun _ => True) (okp := fun _ => True) ?hr ?hp (fun _ hk => hk) trivial (Below.refl _ _) (Nat.le_refl _) (by simp) ?_; (case hd => rfl); (case hg => rfl); (case hr => first | (go_simp; done) | (go_simp; rfl)); (case hp => exact (Reps.c3 (show Kd.M k23 _ _ _ (⟨t6422, t6423, t6424⟩ : S23) [.bool t6422, .int .i64 t6423, .int .i64 t6424] from (k23_mkM _ _ _ (⟨t6422, t6423, t6424⟩ : S23) )) (Reps.c3 (show Kd.M k23 _ _ _ (⟨t6431, t6432, t6433⟩ : S23) [.bool t6431, .int .i64 t6432, .int .i64 t6433] from (k23_mkM _ _ _ (⟨t6431, t6432, t6433⟩ : S23) )) (Reps.none _ _))))
                                    intro v6435 w63 ho64 hb hg_ hnew_
                                    clear hg_ hnew_
                                    (first | rw [← Ny6434.out] at ho64 | (simp only [Int.reduceToNat] at ho64; rw [← Ny6434.out] at ho64))
                                    have HO6436 := Aside0.mk (Kd.R_lower (Kd.R_newB (Kd.R_newB (Kd.R_newB ho64 (g := gb6401) (o := .cells #[.bool a0_0, .int .i64 a0_1, .int .i64 a0_2] 23 (0, 0)) (pk BK6401)) (g := gb6402) (o := .cells #[.bool a1_0, .int .i64 a1_1, .int .i64 a1_2] 23 (0, 0)) (pk BK6402)) (g := gb6409) (o := .cells #[.bool t6406, .int .i64 t6407, .int .i64 t6408] 23 (0, 0)) (pk BK6409)) (below_size (pl HB)))
                                    replace BK6401 := kb BK6401 hb
                                    replace BK6402 := kb BK6402 hb
                                    replace BK6409 := kb BK6409 hb
                                    replace HB := kh HB hb
                                    clear hb ho64
                                    refine hK.out _ _ ⟨bc BK6401 0, bc BK6401 1, bc BK6401 2⟩ (fun hHeld => ?_)
                                    clear hK K
                                    refine nrm (some 36) ?_
                                    exact norm_ (by first | (simp only [putAll, Act.put, List.setIfInBounds_toArray, List.set_cons_zero, List.set_cons_succ]; done) | (simp only [putAll, Act.put, List.setIfInBounds_toArray, List.set_cons_zero, List.set_cons_succ]; rfl)) (hJ1_2_4_5_6_7 (v6435) _ ⟨hHeld, (by (with_reducible repeat (first | apply Kd.R_alloc | apply Kd.R_drewN | apply Kd.R_drew)); exact Kd.R_mono HO6436.out (fun _ hk => ⟨hk.1.1.2, ⟨hk.1.2, hk.2⟩⟩)), (pk BK6401), (pk BK6402), (pk BK6409), (pl HB)⟩)
                                  · skip
                                    refine box_step ?hg (N := 8) ?hd (cs := #[.bool false, .int .i64 0, .int .i64 0]) (t := 23) ?hr ?_; (case hd => rfl); (case hg => rfl); (case hr => first | (go_simp; done) | (go_simp; rfl))
                                    intro gb6440 hg w63 hbox hb
                                    have BK6440 := Aside0.mk (hbox)
                                    have GW6440 := kg HB hg
                                    have GE6440 := kg HB hg
                                    have NB6401_6440 := kn BK6401 hg
                                    have NB6440_6401 := km BK6401 hg
                                    have NB6402_6440 := kn BK6402 hg
                                    have NB6440_6402 := km BK6402 hg
                                    have NB6409_6440 := kn BK6409 hg
                                    have NB6440_6409 := km BK6409 hg
                                    replace BK6401 := kb BK6401 hb
                                    replace BK6402 := kb BK6402 hb
                                    replace BK6409 := kb BK6409 hb
                                    replace HB := kh HB hb
                                    clear hb hbox hg
                                    refine hK.out _ _ ⟨bc BK6401 0, bc BK6401 1, bc BK6401 2⟩ (fun hHeld => ?_)
                                    clear hK K
                                    refine nrm (some 8) ?_
                                    exact norm_ (by first | (simp only [putAll, Act.put, List.setIfInBounds_toArray, List.set_cons_zero, List.set_cons_succ]; done) | (simp only [putAll, Act.put, List.setIfInBounds_toArray, List.set_cons_zero, List.set_cons_succ]; rfl)) (hJ1_2_4_5_6_9 (gb6440) _ ⟨hHeld, (pk BK6401), (pk BK6402), (pk BK6409), (pk BK6440), GW6440.out, GE6440.out, NB6401_6440.out, NB6440_6401.out, NB6402_6440.out, NB6440_6402.out, NB6409_6440.out, NB6440_6409.out, (pl HB)⟩)
                              · skip
                                rintro gb6440 w63 ⟨hS_, h0_, h1_, h2_, h3_, h4_, h5_, h6_, h7_, h8_, h9_, h10_, h11_, h12_⟩
                                have n0_ : Aside0 (w63.heap[gb6401]? = some (.cells #[.bool a0_0, .int .i64 a0_1, .int .i64 a0_2] 23 (0, 0))) := ⟨h0_⟩
                                have n1_ : Aside0 (w63.heap[gb6402]? = some (.cells #[.bool a1_0, .int .i64 a1_1, .int .i64 a1_2] 23 (0, 0))) := ⟨h1_⟩
                                have n2_ : Aside0 (w63.heap[gb6409]? = some (.cells #[.bool t6406, .int .i64 t6407, .int .i64 t6408] 23 (0, 0))) := ⟨h2_⟩
                                have n3_ : Aside0 (w63.heap[gb6440]? = some (.cells #[.bool false, .int .i64 0, .int .i64 0] 23 (0, 0))) := ⟨h3_⟩
                                have n4_ : Aside0 (w.heap.size ≤ gb6440) := ⟨h4_⟩
                                have n5_ : Aside0 (w.heap.size ≤ gb6440) := ⟨h5_⟩
                                have n6_ : Aside0 (gb6401 ≠ gb6440) := ⟨h6_⟩
                                have n7_ : Aside0 (gb6440 ≠ gb6401) := ⟨h7_⟩
                                have n8_ : Aside0 (gb6402 ≠ gb6440) := ⟨h8_⟩
                                have n9_ : Aside0 (gb6440 ≠ gb6402) := ⟨h9_⟩
                                have n10_ : Aside0 (gb6409 ≠ gb6440) := ⟨h10_⟩
                                have n11_ : Aside0 (gb6440 ≠ gb6409) := ⟨h11_⟩
                                have n12_ : Aside0 (Below w.heap.size w w63) := ⟨h12_⟩
                                clear BK6401
                                clear BK6402
                                clear BK6409
                                clear HB
                                clear h0_ h1_ h2_ h3_ h4_ h5_ h6_ h7_ h8_ h9_ h10_ h11_ h12_
                                have BK6401 := n0_
                                have BK6402 := n1_
                                have BK6409 := n2_
                                have BK6440 := n3_
                                have GW6440 := n4_
                                have GE6440 := n5_
                                have NB6401_6440 := n6_
                                have NB6440_6401 := n7_
                                have NB6402_6440 := n8_
                                have NB6440_6402 := n9_
                                have NB6409_6440 := n10_
                                have NB6440_6409 := n11_
                                have HB := n12_
                                clear n0_ n1_ n2_ n3_ n4_ n5_ n6_ n7_ n8_ n9_ n10_ n11_ n12_
                                have hHeld : w63.cell? ⟨gb6401, 0, none⟩ = some (.bool a0_0) ∧ w63.cell? ⟨gb6401, 1, none⟩ = some (.int .i64 a0_1) ∧ w63.cell? ⟨gb6401, 2, none⟩ = some (.int .i64 a0_2) := hS_
                                refine norm_ (a' := ?_) ?_ ?_
                                rotate_left
                                · simp only [putAll, Act.put, List.setIfInBounds_toArray, List.set_cons_zero, List.set_cons_succ]
                                  rfl
                                refine one_ (i := 7) (N := some 36) #[true, true, true, true, true, true, true, true, false, true, false] rfl rfl (one_of HT_.out (by kernel_rfl)) (by decide) (fun K hK => ?_)
                                refine Kd.R_lit_step k23 _ 23 ?hg (N := 36) ?hd (xs := ([(⟨t6422, t6423, t6424⟩ : S23), (⟨t6431, t6432, t6433⟩ : S23)] : List (S23))) (inner := [.bool t6422, .int .i64 t6423, .int .i64 t6424, .bool t6431, .int .i64 t6432, .int .i64 t6433]) (ok := fun _ => True) (okp := fun _ => True) ?hr ?hp (fun _ hk => hk) trivial (Below.refl _ _) (Nat.le_refl _) (by simp) ?_; (case hd => rfl); (case hg => rfl); (case hr => first | (go_simp; done) | (go_simp; rfl)); (case hp => exact (Reps.c3 (show Kd.M k23 _ _ _ (⟨t6422, t6423, t6424⟩ : S23) [.bool t6422, .int .i64 t6423, .int .i64 t6424] from (k23_mkM _ _ _ (⟨t6422, t6423, t6424⟩ : S23) )) (Reps.c3 (show Kd.M k23 _ _ _ (⟨t6431, t6432, t6433⟩ : S23) [.bool t6431, .int .i64 t6432, .int .i64 t6433] from (k23_mkM _ _ _ (⟨t6431, t6432, t6433⟩ : S23) )) (Reps.none _ _))))
                                intro v6435 w64 ho65 hb hg_ hnew_
                                clear hg_ hnew_
                                (first | rw [← Ny6434.out] at ho65 | (simp only [Int.reduceToNat] at ho65; rw [← Ny6434.out] at ho65))
                                have HO6436 := Aside0.mk (Kd.R_lower (Kd.R_newB (Kd.R_newB (Kd.R_newB (Kd.R_newB ho65 (g := gb6401) (o := .cells #[.bool a0_0, .int .i64 a0_1, .int .i64 a0_2] 23 (0, 0)) (pk BK6401)) (g := gb6402) (o := .cells #[.bool a1_0, .int .i64 a1_1, .int .i64 a1_2] 23 (0, 0)) (pk BK6402)) (g := gb6409) (o := .cells #[.bool t6406, .int .i64 t6407, .int .i64 t6408] 23 (0, 0)) (pk BK6409)) (g := gb6440) (o := .cells #[.bool false, .int .i64 0, .int .i64 0] 23 (0, 0)) (pk BK6440)) (below_size (pl HB)))
                                replace BK6401 := kb BK6401 hb
                                replace BK6402 := kb BK6402 hb
                                replace BK6409 := kb BK6409 hb
                                replace BK6440 := kb BK6440 hb
                                replace HB := kh HB hb
                                clear hb ho65
                                refine hK.out _ _ ⟨bc BK6401 0, bc BK6401 1, bc BK6401 2⟩ (fun hHeld => ?_)
                                clear hK K
                                refine nrm (some 36) ?_
                                exact norm_ (by first | (simp only [putAll, Act.put, List.setIfInBounds_toArray, List.set_cons_zero, List.set_cons_succ]; done) | (simp only [putAll, Act.put, List.setIfInBounds_toArray, List.set_cons_zero, List.set_cons_succ]; rfl)) (hJ1_2_4_5_6_7_9 (v6435, gb6440) _ ⟨hHeld, (by (with_reducible repeat (first | apply Kd.R_alloc | apply Kd.R_drewN | apply Kd.R_drew)); exact Kd.R_mono HO6436.out (fun _ hk => ⟨hk.1.1.1.2, ⟨hk.1.1.2, ⟨hk.1.2, hk.2⟩⟩⟩)), (pk BK6401), (pk BK6402), (pk BK6409), (pk BK6440), GW6440.out, GE6440.out, NB6401_6440.out, NB6440_6401.out, NB6402_6440.out, NB6440_6402.out, NB6409_6440.out, NB6440_6409.out, (pl HB)⟩)
                            · skip
                              rintro v6435 w64 ⟨hS_, h0_, h1_, h2_, h3_, h4_⟩
                              have n0_ : Aside0 (Kd.R k23 23 w64 w.heap.size (fun k_ => k_ ≠ gb6401 ∧ k_ ≠ gb6402 ∧ k_ ≠ gb6409) v6435 y6434) := ⟨h0_⟩
                              have n1_ : Aside0 (w64.heap[gb6401]? = some (.cells #[.bool a0_0, .int .i64 a0_1, .int .i64 a0_2] 23 (0, 0))) := ⟨h1_⟩
                              have n2_ : Aside0 (w64.heap[gb6402]? = some (.cells #[.bool a1_0, .int .i64 a1_1, .int .i64 a1_2] 23 (0, 0))) := ⟨h2_⟩
                              have n3_ : Aside0 (w64.heap[gb6409]? = some (.cells #[.bool t6406, .int .i64 t6407, .int .i64 t6408] 23 (0, 0))) := ⟨h3_⟩
                              have n4_ : Aside0 (Below w.heap.size w w64) := ⟨h4_⟩
                              clear BK6401
                              clear BK6402
                              clear BK6409
                              clear HB
                              clear h0_ h1_ h2_ h3_ h4_
                              have HO6436 := n0_
                              have BK6401 := n1_
                              have BK6402 := n2_
                              have BK6409 := n3_
                              have HB := n4_
                              clear n0_ n1_ n2_ n3_ n4_
                              have hHeld : w64.cell? ⟨gb6401, 0, none⟩ = some (.bool a0_0) ∧ w64.cell? ⟨gb6401, 1, none⟩ = some (.int .i64 a0_1) ∧ w64.cell? ⟨gb6401, 2, none⟩ = some (.int .i64 a0_2) := hS_
                              obtain ⟨Ao65, co65, eo65⟩ := Kd.R_slice HO6436.out
                              (first | subst eo65 | (injection eo65 with f1_ f2_ f3_; have f4_ := f1_.symm; have f5_ := f3_.symm; clear f1_ f2_ f3_; subst f4_; subst f5_))
                              refine norm_ (a' := ?_) ?_ ?_
                              rotate_left
                              · simp only [putAll, Act.put, List.setIfInBounds_toArray, List.set_cons_zero, List.set_cons_succ]
                                rfl
                              refine two_ (i := 8) (j := 9) (Ni := some 37) (Nj := some 8) #[true, true, true, true, true, true, true, true, true, false, false] #[true, true, true, true, true, true, true, true, false, true, false] rfl rfl rfl rfl (two_of HT_.out (by kernel_rfl)) (by decide) (by decide) (fun K hK => ?_) (fun K hK => ?_)
                              · skip
                                refine goes_ Try.func43 (by kernel_rfl) rfl #[.slice Ao65 y6434.length co65] (by rfl) rfl rfl pa ?_
                                with_reducible refine (ints_Join.calls kj4 _ _ y6434 t6437 t6438 t6439 _ ?side1 ?side2 A30.out).mono ?_
                                (case side1 => repeat (first | exact (Kd.R_reads' HO6436.out).2.2 | (with_reducible refine Kd.C_alloc ?_ _) | (with_reducible refine Kd.C_drewN ?_ _) | (with_reducible refine Kd.C_drew ?_)))
                                (case side2 => exact (Kd.R_reads' HO6436.out).2.1)
                                rintro e w66 ⟨rfl, hb⟩
                                refine ⟨_, rfl, ?_⟩
                                have n0_ := Aside0.mk (Kd.R_below (by (with_reducible repeat (first | apply Kd.R_alloc | apply Kd.R_drewN | apply Kd.R_drew)); exact HO6436.out) hb)
                                have n1_ := kb BK6401 hb
                                have n2_ := kb BK6402 hb
                                have n3_ := kb BK6409 hb
                                have n4_ := kh HB hb
                                clear HO6436
                                clear BK6401
                                clear BK6402
                                clear BK6409
                                clear HB
                                have HO6436 := n0_
                                have BK6401 := n1_
                                have BK6402 := n2_
                                have BK6409 := n3_
                                have HB := n4_
                                clear n0_ n1_ n2_ n3_ n4_
                                (try clear hb)
                                (try clear hb2)
                                (try clear hk)
                                (try clear hi)
                                refine hK.out _ _ ⟨bc BK6401 0, bc BK6401 1, bc BK6401 2⟩ (fun hHeld => ?_)
                                clear hK K
                                refine nrm (some 37) ?_
                                exact norm_ (by first | (simp only [putAll, Act.put, List.setIfInBounds_toArray, List.set_cons_zero, List.set_cons_succ]; done) | (simp only [putAll, Act.put, List.setIfInBounds_toArray, List.set_cons_zero, List.set_cons_succ]; rfl)) (hJ1_2_4_5_6_7_8 (.slice Ao65 y6434.length co65) _ ⟨hHeld, (by (with_reducible repeat (first | apply Kd.R_alloc | apply Kd.R_drewN | apply Kd.R_drew)); exact HO6436.out), (pk BK6401), (pk BK6402), (pk BK6409), (pl HB)⟩)
                              · skip
                                refine box_step ?hg (N := 8) ?hd (cs := #[.bool false, .int .i64 0, .int .i64 0]) (t := 23) ?hr ?_; (case hd => rfl); (case hg => rfl); (case hr => first | (go_simp; done) | (go_simp; rfl))
                                intro gb6440 hg w65 hbox hb
                                have n0_ := Aside0.mk (Kd.R_below (Kd.R_elderB (by (with_reducible repeat (first | apply Kd.R_alloc | apply Kd.R_drewN | apply Kd.R_drew)); exact HO6436.out) gb6440 (Nat.le_of_eq hg.symm)) hb)
                                have n1_ := kb BK6401 hb
                                have n2_ := kb BK6402 hb
                                have n3_ := kb BK6409 hb
                                have n4_ := kh HB hb
                                have n5_ := Aside0.mk (hbox)
                                have n6_ := kg HB hg
                                have n7_ := kg HB hg
                                have n8_ := kn BK6401 hg
                                have n9_ := km BK6401 hg
                                have n10_ := kn BK6402 hg
                                have n11_ := km BK6402 hg
                                have n12_ := kn BK6409 hg
                                have n13_ := km BK6409 hg
                                clear HO6436
                                clear BK6401
                                clear BK6402
                                clear BK6409
                                clear HB
                                have HO6436 := n0_
                                have BK6401 := n1_
                                have BK6402 := n2_
                                have BK6409 := n3_
                                have HB := n4_
                                have BK6440 := n5_
                                have GW6440 := n6_
                                have GE6440 := n7_
                                have NB6401_6440 := n8_
                                have NB6440_6401 := n9_
                                have NB6402_6440 := n10_
                                have NB6440_6402 := n11_
                                have NB6409_6440 := n12_
                                have NB6440_6409 := n13_
                                clear n0_ n1_ n2_ n3_ n4_ n5_ n6_ n7_ n8_ n9_ n10_ n11_ n12_ n13_
                                clear hb hbox hg
                                refine hK.out _ _ ⟨bc BK6401 0, bc BK6401 1, bc BK6401 2⟩ (fun hHeld => ?_)
                                clear hK K
                                refine nrm (some 8) ?_
                                exact norm_ (by first | (simp only [putAll, Act.put, List.setIfInBounds_toArray, List.set_cons_zero, List.set_cons_succ]; done) | (simp only [putAll, Act.put, List.setIfInBounds_toArray, List.set_cons_zero, List.set_cons_succ]; rfl)) (hJ1_2_4_5_6_7_9 ((.slice Ao65 y6434.length co65), gb6440) _ ⟨hHeld, (by (with_reducible repeat (first | apply Kd.R_alloc | apply Kd.R_drewN | apply Kd.R_drew)); exact Kd.R_mono HO6436.out (fun _ hk => ⟨hk.1.1, ⟨hk.1.2.1, ⟨hk.1.2.2, hk.2⟩⟩⟩)), (pk BK6401), (pk BK6402), (pk BK6409), (pk BK6440), GW6440.out, GE6440.out, NB6401_6440.out, NB6440_6401.out, NB6402_6440.out, NB6440_6402.out, NB6409_6440.out, NB6440_6409.out, (pl HB)⟩)
                          · skip
                            rintro ⟨v6435, gb6440⟩ w65 ⟨hS_, h0_, h1_, h2_, h3_, h4_, h5_, h6_, h7_, h8_, h9_, h10_, h11_, h12_, h13_⟩
                            have n0_ : Aside0 (Kd.R k23 23 w65 w.heap.size (fun k_ => k_ ≠ gb6401 ∧ k_ ≠ gb6402 ∧ k_ ≠ gb6409 ∧ k_ ≠ gb6440) v6435 y6434) := ⟨h0_⟩
                            have n1_ : Aside0 (w65.heap[gb6401]? = some (.cells #[.bool a0_0, .int .i64 a0_1, .int .i64 a0_2] 23 (0, 0))) := ⟨h1_⟩
                            have n2_ : Aside0 (w65.heap[gb6402]? = some (.cells #[.bool a1_0, .int .i64 a1_1, .int .i64 a1_2] 23 (0, 0))) := ⟨h2_⟩
                            have n3_ : Aside0 (w65.heap[gb6409]? = some (.cells #[.bool t6406, .int .i64 t6407, .int .i64 t6408] 23 (0, 0))) := ⟨h3_⟩
                            have n4_ : Aside0 (w65.heap[gb6440]? = some (.cells #[.bool false, .int .i64 0, .int .i64 0] 23 (0, 0))) := ⟨h4_⟩
                            have n5_ : Aside0 (w.heap.size ≤ gb6440) := ⟨h5_⟩
                            have n6_ : Aside0 (w.heap.size ≤ gb6440) := ⟨h6_⟩
                            have n7_ : Aside0 (gb6401 ≠ gb6440) := ⟨h7_⟩
                            have n8_ : Aside0 (gb6440 ≠ gb6401) := ⟨h8_⟩
                            have n9_ : Aside0 (gb6402 ≠ gb6440) := ⟨h9_⟩
                            have n10_ : Aside0 (gb6440 ≠ gb6402) := ⟨h10_⟩
                            have n11_ : Aside0 (gb6409 ≠ gb6440) := ⟨h11_⟩
                            have n12_ : Aside0 (gb6440 ≠ gb6409) := ⟨h12_⟩
                            have n13_ : Aside0 (Below w.heap.size w w65) := ⟨h13_⟩
                            clear BK6401
                            clear BK6402
                            clear BK6409
                            clear HB
                            clear h0_ h1_ h2_ h3_ h4_ h5_ h6_ h7_ h8_ h9_ h10_ h11_ h12_ h13_
                            have HO6436 := n0_
                            have BK6401 := n1_
                            have BK6402 := n2_
                            have BK6409 := n3_
                            have BK6440 := n4_
                            have GW6440 := n5_
                            have GE6440 := n6_
                            have NB6401_6440 := n7_
                            have NB6440_6401 := n8_
                            have NB6402_6440 := n9_
                            have NB6440_6402 := n10_
                            have NB6409_6440 := n11_
                            have NB6440_6409 := n12_
                            have HB := n13_
                            clear n0_ n1_ n2_ n3_ n4_ n5_ n6_ n7_ n8_ n9_ n10_ n11_ n12_ n13_
                            have hHeld : w65.cell? ⟨gb6401, 0, none⟩ = some (.bool a0_0) ∧ w65.cell? ⟨gb6401, 1, none⟩ = some (.int .i64 a0_1) ∧ w65.cell? ⟨gb6401, 2, none⟩ = some (.int .i64 a0_2) := hS_
                            obtain ⟨Ao66, co66, eo66⟩ := Kd.R_slice HO6436.out
                            (first | subst eo66 | (injection eo66 with f1_ f2_ f3_; have f4_ := f1_.symm; have f5_ := f3_.symm; clear f1_ f2_ f3_; subst f4_; subst f5_))
                            refine norm_ (a' := ?_) ?_ ?_
                            rotate_left
                            · simp only [putAll, Act.put, List.setIfInBounds_toArray, List.set_cons_zero, List.set_cons_succ]
                              rfl
                            refine one_ (i := 8) (N := some 37) #[true, true, true, true, true, true, true, true, true, true, false] rfl rfl (one_of HT_.out (by kernel_rfl)) (by decide) (fun K hK => ?_)
                            refine goes_ Try.func43 (by kernel_rfl) rfl #[.slice Ao66 y6434.length co66] (by rfl) rfl rfl pa ?_
                            with_reducible refine (ints_Join.calls kj4 _ _ y6434 t6437 t6438 t6439 _ ?side1 ?side2 A30.out).mono ?_
                            (case side1 => repeat (first | exact (Kd.R_reads' HO6436.out).2.2 | (with_reducible refine Kd.C_alloc ?_ _) | (with_reducible refine Kd.C_drewN ?_ _) | (with_reducible refine Kd.C_drew ?_)))
                            (case side2 => exact (Kd.R_reads' HO6436.out).2.1)
                            rintro e w67 ⟨rfl, hb⟩
                            refine ⟨_, rfl, ?_⟩
                            have n0_ := Aside0.mk (Kd.R_below (by (with_reducible repeat (first | apply Kd.R_alloc | apply Kd.R_drewN | apply Kd.R_drew)); exact HO6436.out) hb)
                            have n1_ := kb BK6401 hb
                            have n2_ := kb BK6402 hb
                            have n3_ := kb BK6409 hb
                            have n4_ := kb BK6440 hb
                            have n5_ := kh HB hb
                            clear HO6436
                            clear BK6401
                            clear BK6402
                            clear BK6409
                            clear BK6440
                            clear HB
                            have HO6436 := n0_
                            have BK6401 := n1_
                            have BK6402 := n2_
                            have BK6409 := n3_
                            have BK6440 := n4_
                            have HB := n5_
                            clear n0_ n1_ n2_ n3_ n4_ n5_
                            (try clear hb)
                            (try clear hb2)
                            (try clear hk)
                            (try clear hi)
                            refine hK.out _ _ ⟨bc BK6401 0, bc BK6401 1, bc BK6401 2⟩ (fun hHeld => ?_)
                            clear hK K
                            refine nrm (some 37) ?_
                            exact norm_ (by first | (simp only [putAll, Act.put, List.setIfInBounds_toArray, List.set_cons_zero, List.set_cons_succ]; done) | (simp only [putAll, Act.put, List.setIfInBounds_toArray, List.set_cons_zero, List.set_cons_succ]; rfl)) (hJ1_2_4_5_6_7_8_9 (.slice Ao66 y6434.length co66, gb6440) _ ⟨hHeld, (by (with_reducible repeat (first | apply Kd.R_alloc | apply Kd.R_drewN | apply Kd.R_drew)); exact HO6436.out), (pk BK6401), (pk BK6402), (pk BK6409), (pk BK6440), GW6440.out, GE6440.out, NB6401_6440.out, NB6440_6401.out, NB6402_6440.out, NB6440_6402.out, NB6409_6440.out, NB6440_6409.out, (pl HB)⟩)
                        · skip
                          rintro v6435 w66 ⟨hS_, h0_, h1_, h2_, h3_, h4_⟩
                          have n0_ : Aside0 (Kd.R k23 23 w66 w.heap.size (fun k_ => k_ ≠ gb6401 ∧ k_ ≠ gb6402 ∧ k_ ≠ gb6409) v6435 y6434) := ⟨h0_⟩
                          have n1_ : Aside0 (w66.heap[gb6401]? = some (.cells #[.bool a0_0, .int .i64 a0_1, .int .i64 a0_2] 23 (0, 0))) := ⟨h1_⟩
                          have n2_ : Aside0 (w66.heap[gb6402]? = some (.cells #[.bool a1_0, .int .i64 a1_1, .int .i64 a1_2] 23 (0, 0))) := ⟨h2_⟩
                          have n3_ : Aside0 (w66.heap[gb6409]? = some (.cells #[.bool t6406, .int .i64 t6407, .int .i64 t6408] 23 (0, 0))) := ⟨h3_⟩
                          have n4_ : Aside0 (Below w.heap.size w w66) := ⟨h4_⟩
                          clear BK6401
                          clear BK6402
                          clear BK6409
                          clear HB
                          clear h0_ h1_ h2_ h3_ h4_
                          have HO6436 := n0_
                          have BK6401 := n1_
                          have BK6402 := n2_
                          have BK6409 := n3_
                          have HB := n4_
                          clear n0_ n1_ n2_ n3_ n4_
                          have hHeld : w66.cell? ⟨gb6401, 0, none⟩ = some (.bool a0_0) ∧ w66.cell? ⟨gb6401, 1, none⟩ = some (.int .i64 a0_1) ∧ w66.cell? ⟨gb6401, 2, none⟩ = some (.int .i64 a0_2) := hS_
                          refine norm_ (a' := ?_) ?_ ?_
                          rotate_left
                          · simp only [putAll, Act.put, List.setIfInBounds_toArray, List.set_cons_zero, List.set_cons_succ]
                            rfl
                          refine one_ (i := 9) (N := some 8) #[true, true, true, true, true, true, true, true, true, true, false] rfl rfl (one_of HT_.out (by kernel_rfl)) (by decide) (fun K hK => ?_)
                          refine box_step ?hg (N := 8) ?hd (cs := #[.bool false, .int .i64 0, .int .i64 0]) (t := 23) ?hr ?_; (case hd => rfl); (case hg => rfl); (case hr => first | (go_simp; done) | (go_simp; rfl))
                          intro gb6440 hg w67 hbox hb
                          have n0_ := Aside0.mk (Kd.R_below (Kd.R_elderB (by (with_reducible repeat (first | apply Kd.R_alloc | apply Kd.R_drewN | apply Kd.R_drew)); exact HO6436.out) gb6440 (Nat.le_of_eq hg.symm)) hb)
                          have n1_ := kb BK6401 hb
                          have n2_ := kb BK6402 hb
                          have n3_ := kb BK6409 hb
                          have n4_ := kh HB hb
                          have n5_ := Aside0.mk (hbox)
                          have n6_ := kg HB hg
                          have n7_ := kg HB hg
                          have n8_ := kn BK6401 hg
                          have n9_ := km BK6401 hg
                          have n10_ := kn BK6402 hg
                          have n11_ := km BK6402 hg
                          have n12_ := kn BK6409 hg
                          have n13_ := km BK6409 hg
                          clear HO6436
                          clear BK6401
                          clear BK6402
                          clear BK6409
                          clear HB
                          have HO6436 := n0_
                          have BK6401 := n1_
                          have BK6402 := n2_
                          have BK6409 := n3_
                          have HB := n4_
                          have BK6440 := n5_
                          have GW6440 := n6_
                          have GE6440 := n7_
                          have NB6401_6440 := n8_
                          have NB6440_6401 := n9_
                          have NB6402_6440 := n10_
                          have NB6440_6402 := n11_
                          have NB6409_6440 := n12_
                          have NB6440_6409 := n13_
                          clear n0_ n1_ n2_ n3_ n4_ n5_ n6_ n7_ n8_ n9_ n10_ n11_ n12_ n13_
                          clear hb hbox hg
                          refine hK.out _ _ ⟨bc BK6401 0, bc BK6401 1, bc BK6401 2⟩ (fun hHeld => ?_)
                          clear hK K
                          refine nrm (some 8) ?_
                          exact norm_ (by first | (simp only [putAll, Act.put, List.setIfInBounds_toArray, List.set_cons_zero, List.set_cons_succ]; done) | (simp only [putAll, Act.put, List.setIfInBounds_toArray, List.set_cons_zero, List.set_cons_succ]; rfl)) (hJ1_2_4_5_6_7_8_9 (v6435, gb6440) _ ⟨hHeld, (by (with_reducible repeat (first | apply Kd.R_alloc | apply Kd.R_drewN | apply Kd.R_drew)); exact Kd.R_mono HO6436.out (fun _ hk => ⟨hk.1.1, ⟨hk.1.2.1, ⟨hk.1.2.2, hk.2⟩⟩⟩)), (pk BK6401), (pk BK6402), (pk BK6409), (pk BK6440), GW6440.out, GE6440.out, NB6401_6440.out, NB6440_6401.out, NB6402_6440.out, NB6440_6402.out, NB6409_6440.out, NB6440_6409.out, (pl HB)⟩)
                      rintro ⟨v6435, gb6440⟩ w67 ⟨hS_, h0_, h1_, h2_, h3_, h4_, h5_, h6_, h7_, h8_, h9_, h10_, h11_, h12_, h13_⟩
                      have n0_ : Aside0 (Kd.R k23 23 w67 w.heap.size (fun k_ => k_ ≠ gb6401 ∧ k_ ≠ gb6402 ∧ k_ ≠ gb6409 ∧ k_ ≠ gb6440) v6435 y6434) := ⟨h0_⟩
                      have n1_ : Aside0 (w67.heap[gb6401]? = some (.cells #[.bool a0_0, .int .i64 a0_1, .int .i64 a0_2] 23 (0, 0))) := ⟨h1_⟩
                      have n2_ : Aside0 (w67.heap[gb6402]? = some (.cells #[.bool a1_0, .int .i64 a1_1, .int .i64 a1_2] 23 (0, 0))) := ⟨h2_⟩
                      have n3_ : Aside0 (w67.heap[gb6409]? = some (.cells #[.bool t6406, .int .i64 t6407, .int .i64 t6408] 23 (0, 0))) := ⟨h3_⟩
                      have n4_ : Aside0 (w67.heap[gb6440]? = some (.cells #[.bool false, .int .i64 0, .int .i64 0] 23 (0, 0))) := ⟨h4_⟩
                      have n5_ : Aside0 (w.heap.size ≤ gb6440) := ⟨h5_⟩
                      have n6_ : Aside0 (w.heap.size ≤ gb6440) := ⟨h6_⟩
                      have n7_ : Aside0 (gb6401 ≠ gb6440) := ⟨h7_⟩
                      have n8_ : Aside0 (gb6440 ≠ gb6401) := ⟨h8_⟩
                      have n9_ : Aside0 (gb6402 ≠ gb6440) := ⟨h9_⟩
                      have n10_ : Aside0 (gb6440 ≠ gb6402) := ⟨h10_⟩
                      have n11_ : Aside0 (gb6409 ≠ gb6440) := ⟨h11_⟩
                      have n12_ : Aside0 (gb6440 ≠ gb6409) := ⟨h12_⟩
                      have n13_ : Aside0 (Below w.heap.size w w67) := ⟨h13_⟩
                      clear BK6401
                      clear BK6402
                      clear BK6409
                      clear HB
                      clear h0_ h1_ h2_ h3_ h4_ h5_ h6_ h7_ h8_ h9_ h10_ h11_ h12_ h13_
                      have HO6436 := n0_
                      have BK6401 := n1_
                      have BK6402 := n2_
                      have BK6409 := n3_
                      have BK6440 := n4_
                      have GW6440 := n5_
                      have GE6440 := n6_
                      have NB6401_6440 := n7_
                      have NB6440_6401 := n8_
                      have NB6402_6440 := n9_
                      have NB6440_6402 := n10_
                      have NB6409_6440 := n11_
                      have NB6440_6409 := n12_
                      have HB := n13_
                      clear n0_ n1_ n2_ n3_ n4_ n5_ n6_ n7_ n8_ n9_ n10_ n11_ n12_ n13_
                      have hHeld : w67.cell? ⟨gb6401, 0, none⟩ = some (.bool a0_0) ∧ w67.cell? ⟨gb6401, 1, none⟩ = some (.int .i64 a0_1) ∧ w67.cell? ⟨gb6401, 2, none⟩ = some (.int .i64 a0_2) := hS_
                      refine norm_ (a' := ?_) ?_ ?_
                      rotate_left
                      · simp only [putAll, Act.put, List.setIfInBounds_toArray, List.set_cons_zero, List.set_cons_succ]
                        rfl
                      refine one_ (i := 10) (N := none) #[true, true, true, true, true, true, true, true, true, true, true] rfl rfl (one_of HT_.out (by kernel_rfl)) (by decide) (fun K hK => ?_)
                      have hs68 : w67.cell? ⟨gb6440, 0, none⟩ = some (.bool false) := bc BK6440 0
                      have hfs68 := blk_frozen BK6440.out 0
                      have hns68_0 := NB6401_6440.out
                      have hns68_1 := NB6402_6440.out
                      have hns68_2 := NB6409_6440.out
                      have hms68_0 := NB6440_6401.out
                      have hms68_1 := NB6440_6402.out
                      have hms68_2 := NB6440_6409.out
                      have hs69 : w67.cell? ⟨gb6440, 1, none⟩ = some (.int .i64 0) := bc BK6440 1
                      have hfs69 := blk_frozen BK6440.out 1
                      have hs70 : w67.cell? ⟨gb6440, 2, none⟩ = some (.int .i64 0) := bc BK6440 2
                      have hfs70 := blk_frozen BK6440.out 2
                      refine skip_ (w1 := ?_) (by rfl) rfl ?_ ?_
                      rotate_left
                      · go_simp
                        rfl
                      refine hK.out _ _ ⟨cf hHeld.1, cf hHeld.2.1, cf hHeld.2.2⟩ (fun hHeld => ?_)
                      clear hK K
                      refine done_ (done_of HT_.out (by kernel_rfl)) ?_
                      try go_wp2
                      have n0_ : Aside0 (Kd.R k23 23 (((w67.setCell ⟨gb6440, 0, none⟩ (.bool t6437)).setCell ⟨gb6440, 1, none⟩ (.int .i64 t6438)).setCell ⟨gb6440, 2, none⟩ (.int .i64 t6439)) w.heap.size (fun k_ => k_ ≠ gb6401 ∧ k_ ≠ gb6402 ∧ k_ ≠ gb6409 ∧ k_ ≠ gb6440) v6435 y6434) := ⟨by (with_reducible repeat (first | apply Kd.R_alloc | apply Kd.R_drewN | apply Kd.R_drew)); exact Kd.R_mono (Kd.R_far (p := ⟨gb6440, 2, none⟩) (Kd.R_far (p := ⟨gb6440, 1, none⟩) (Kd.R_far (p := ⟨gb6440, 0, none⟩) (Kd.R_mono HO6436.out (fun k_ hk => (⟨hk, hk.2.2.2⟩ : _ ∧ k_ ≠ gb6440))) (fun _ hk => hk.2) (.bool t6437)) (fun _ hk => hk.2) (.int .i64 t6438)) (fun _ hk => hk.2) (.int .i64 t6439)) (fun _ hk => ⟨hk.1.1, ⟨hk.1.2.1, ⟨hk.1.2.2.1, hk.1.2.2.2⟩⟩⟩)⟩
                      have n1_ : Aside0 ((((w67.setCell ⟨gb6440, 0, none⟩ (.bool t6437)).setCell ⟨gb6440, 1, none⟩ (.int .i64 t6438)).setCell ⟨gb6440, 2, none⟩ (.int .i64 t6439)).heap[gb6401]? = some (.cells #[.bool a0_0, .int .i64 a0_1, .int .i64 a0_2] 23 (0, 0))) := ⟨pk BK6401⟩
                      have n2_ : Aside0 ((((w67.setCell ⟨gb6440, 0, none⟩ (.bool t6437)).setCell ⟨gb6440, 1, none⟩ (.int .i64 t6438)).setCell ⟨gb6440, 2, none⟩ (.int .i64 t6439)).heap[gb6402]? = some (.cells #[.bool a1_0, .int .i64 a1_1, .int .i64 a1_2] 23 (0, 0))) := ⟨pk BK6402⟩
                      have n3_ : Aside0 ((((w67.setCell ⟨gb6440, 0, none⟩ (.bool t6437)).setCell ⟨gb6440, 1, none⟩ (.int .i64 t6438)).setCell ⟨gb6440, 2, none⟩ (.int .i64 t6439)).heap[gb6409]? = some (.cells #[.bool t6406, .int .i64 t6407, .int .i64 t6408] 23 (0, 0))) := ⟨pk BK6409⟩
                      have n4_ : Aside0 ((((w67.setCell ⟨gb6440, 0, none⟩ (.bool t6437)).setCell ⟨gb6440, 1, none⟩ (.int .i64 t6438)).setCell ⟨gb6440, 2, none⟩ (.int .i64 t6439)).heap[gb6440]? = some (.cells #[.bool t6437, .int .i64 t6438, .int .i64 t6439] 23 (0, 0))) := ⟨pK BK6440⟩
                      have n5_ : Aside0 (Below w.heap.size w (((w67.setCell ⟨gb6440, 0, none⟩ (.bool t6437)).setCell ⟨gb6440, 1, none⟩ (.int .i64 t6438)).setCell ⟨gb6440, 2, none⟩ (.int .i64 t6439))) := ⟨pl HB⟩
                      (try clear HO6436)
                      (try clear BK6401)
                      (try clear BK6402)
                      (try clear BK6409)
                      (try clear BK6440)
                      (try clear HB)
                      generalize (((w67.setCell ⟨gb6440, 0, none⟩ (.bool t6437)).setCell ⟨gb6440, 1, none⟩ (.int .i64 t6438)).setCell ⟨gb6440, 2, none⟩ (.int .i64 t6439)) = w71 at n0_ n1_ n2_ n3_ n4_ n5_ ⊢
                      have HO6436 := n0_
                      have BK6401 := n1_
                      have BK6402 := n2_
                      have BK6409 := n3_
                      have BK6440 := n4_
                      have HB := n5_
                      clear n0_ n1_ n2_ n3_ n4_ n5_
                      replace HO6436 := Aside0.mk (Kd.R_drew HO6436.out)
                      replace BK6401 := Aside0.mk (blk_drew BK6401.out)
                      replace BK6402 := Aside0.mk (blk_drew BK6402.out)
                      replace BK6409 := Aside0.mk (blk_drew BK6409.out)
                      replace BK6440 := Aside0.mk (blk_drew BK6440.out)
                      replace HB := Aside0.mk (below_drew1 HB.out)
                      refine start_ (n := 47) (S := fun w' => w'.cell? ⟨gb6401, 0, none⟩ = some (.bool a0_0) ∧ w'.cell? ⟨gb6401, 1, none⟩ = some (.int .i64 a0_1) ∧ w'.cell? ⟨gb6401, 2, none⟩ = some (.int .i64 a0_2) ∧ w'.cell? ⟨gb6440, 0, none⟩ = some (.bool t6437) ∧ w'.cell? ⟨gb6440, 1, none⟩ = some (.int .i64 t6438) ∧ w'.cell? ⟨gb6440, 2, none⟩ = some (.int .i64 t6439) ∧ w'.cell? ⟨gb6402, 0, none⟩ = some (.bool a1_0) ∧ w'.cell? ⟨gb6402, 1, none⟩ = some (.int .i64 a1_1) ∧ w'.cell? ⟨gb6402, 2, none⟩ = some (.int .i64 a1_2)) (ds := []) #[false, false, false, false, false, false, false, false, false, false, false, false, false, false, false, false, false, false, false, false, false, false, false, false, false, false, false, false, false, false, false, false, false, false, false, false, false, false, false, false, false, false, false, false, false, false, false] (by kernel_rfl) rfl rfl ⟨bc BK6401 0, bc BK6401 1, bc BK6401 2, bc BK6440 0, bc BK6440 1, bc BK6440 2, bc BK6402 0, bc BK6402 1, bc BK6402 2⟩ (fun hHeld => ?_); refine with_tabW flyballlaw17_IntsHulls.tab9 flyballlaw17_IntsHulls.bits9 (fun HT_ HW_ => ?_)
                      generalize w71.drew = w72 at HO6436 BK6401 BK6402 BK6409 BK6440 HB hHeld ⊢
                      refine pur 0 (some 38) #[true, false, false, false, false, false, false, false, false, false, false, false, false, false, false, false, false, false, false, false, false, false, false, false, false, false, false, false, false, false, false, false, false, false, false, false, false, false, false, false, false, false, false, false, false, false, false] (any_of HT_.out (by kernel_rfl)) ?_
                      refine pur 1 (some 39) #[true, true, false, false, false, false, false, false, false, false, false, false, false, false, false, false, false, false, false, false, false, false, false, false, false, false, false, false, false, false, false, false, false, false, false, false, false, false, false, false, false, false, false, false, false, false, false] (any_of HT_.out (by kernel_rfl)) ?_
                      refine pur 2 (some 40) #[true, true, true, false, false, false, false, false, false, false, false, false, false, false, false, false, false, false, false, false, false, false, false, false, false, false, false, false, false, false, false, false, false, false, false, false, false, false, false, false, false, false, false, false, false, false, false] (any_of HT_.out (by kernel_rfl)) ?_
                      refine pur 3 (some 41) #[true, true, true, true, false, false, false, false, false, false, false, false, false, false, false, false, false, false, false, false, false, false, false, false, false, false, false, false, false, false, false, false, false, false, false, false, false, false, false, false, false, false, false, false, false, false, false] (any_of HT_.out (by kernel_rfl)) ?_
                      refine pur 4 (some 42) #[true, true, true, true, true, false, false, false, false, false, false, false, false, false, false, false, false, false, false, false, false, false, false, false, false, false, false, false, false, false, false, false, false, false, false, false, false, false, false, false, false, false, false, false, false, false, false] (any_of HT_.out (by kernel_rfl)) ?_
                      refine tak 5 (some 43) #[true, true, true, true, true, true, false, false, false, false, false, false, false, false, false, false, false, false, false, false, false, false, false, false, false, false, false, false, false, false, false, false, false, false, false, false, false, false, false, false, false, false, false, false, false, false, false] (take_ofW HT_.out HW_.out (by kernel_rfl)) hHeld ?_
                      refine tak 7 (some 45) #[true, true, true, true, true, true, false, true, false, false, false, false, false, false, false, false, false, false, false, false, false, false, false, false, false, false, false, false, false, false, false, false, false, false, false, false, false, false, false, false, false, false, false, false, false, false, false] (take_ofW HT_.out HW_.out (by kernel_rfl)) hHeld ?_
                      refine one_ (i := 6) (N := some 44) #[true, true, true, true, true, true, true, true, false, false, false, false, false, false, false, false, false, false, false, false, false, false, false, false, false, false, false, false, false, false, false, false, false, false, false, false, false, false, false, false, false, false, false, false, false, false, false] rfl rfl (one_of HT_.out (by kernel_rfl)) (by decide) (fun K hK => ?_)
                      refine gc Try.func50 #[.agg #[.bool a0_0, .int .i64 a0_1, .int .i64 a0_2]] (ints_Abs.calls kj4 a0_0 a0_1 a0_2 t6441 t6442 t6443 _ A33.out) ?_
                      intro w73 hb
                      have n0_ := Aside0.mk (Kd.R_below (by (with_reducible repeat (first | apply Kd.R_alloc | apply Kd.R_drewN | apply Kd.R_drew)); exact HO6436.out) hb)
                      have n1_ := kb BK6401 hb
                      have n2_ := kb BK6402 hb
                      have n3_ := kb BK6409 hb
                      have n4_ := kb BK6440 hb
                      have n5_ := kh HB hb
                      clear HO6436
                      clear BK6401
                      clear BK6402
                      clear BK6409
                      clear BK6440
                      clear HB
                      have HO6436 := n0_
                      have BK6401 := n1_
                      have BK6402 := n2_
                      have BK6409 := n3_
                      have BK6440 := n4_
                      have HB := n5_
                      clear n0_ n1_ n2_ n3_ n4_ n5_
                      (try clear hb)
                      (try clear hb2)
                      (try clear hk)
                      (try clear hi)
                      refine hK.out _ _ ⟨bc BK6401 0, bc BK6401 1, bc BK6401 2, bc BK6440 0, bc BK6440 1, bc BK6440 2, bc BK6402 0, bc BK6402 1, bc BK6402 2⟩ (fun hHeld => ?_)
                      clear hK K
                      refine nrm (some 44) ?_
                      refine pur 8 (some 46) #[true, true, true, true, true, true, true, true, true, false, false, false, false, false, false, false, false, false, false, false, false, false, false, false, false, false, false, false, false, false, false, false, false, false, false, false, false, false, false, false, false, false, false, false, false, false, false] (any_of HT_.out (by kernel_rfl)) ?_
                      refine pur 9 (some 47) #[true, true, true, true, true, true, true, true, true, true, false, false, false, false, false, false, false, false, false, false, false, false, false, false, false, false, false, false, false, false, false, false, false, false, false, false, false, false, false, false, false, false, false, false, false, false, false] (any_of HT_.out (by kernel_rfl)) ?_
                      refine pur 10 (some 48) #[true, true, true, true, true, true, true, true, true, true, true, false, false, false, false, false, false, false, false, false, false, false, false, false, false, false, false, false, false, false, false, false, false, false, false, false, false, false, false, false, false, false, false, false, false, false, false] (any_of HT_.out (by kernel_rfl)) ?_
                      refine tak 11 (some 49) #[true, true, true, true, true, true, true, true, true, true, true, true, false, false, false, false, false, false, false, false, false, false, false, false, false, false, false, false, false, false, false, false, false, false, false, false, false, false, false, false, false, false, false, false, false, false, false] (take_ofW HT_.out HW_.out (by kernel_rfl)) hHeld ?_
                      refine tak 12 (some 50) #[true, true, true, true, true, true, true, true, true, true, true, true, true, false, false, false, false, false, false, false, false, false, false, false, false, false, false, false, false, false, false, false, false, false, false, false, false, false, false, false, false, false, false, false, false, false, false] (take_ofW HT_.out HW_.out (by kernel_rfl)) hHeld ?_
                      refine tak 14 (some 52) #[true, true, true, true, true, true, true, true, true, true, true, true, true, false, true, false, false, false, false, false, false, false, false, false, false, false, false, false, false, false, false, false, false, false, false, false, false, false, false, false, false, false, false, false, false, false, false] (take_ofW HT_.out HW_.out (by kernel_rfl)) hHeld ?_
                      refine tak 15 (some 53) #[true, true, true, true, true, true, true, true, true, true, true, true, true, false, true, true, false, false, false, false, false, false, false, false, false, false, false, false, false, false, false, false, false, false, false, false, false, false, false, false, false, false, false, false, false, false, false] (take_ofW HT_.out HW_.out (by kernel_rfl)) hHeld ?_
                      refine one_ (i := 13) (N := some 51) #[true, true, true, true, true, true, true, true, true, true, true, true, true, true, true, true, false, false, false, false, false, false, false, false, false, false, false, false, false, false, false, false, false, false, false, false, false, false, false, false, false, false, false, false, false, false, false] rfl rfl (one_of HT_.out (by kernel_rfl)) (by decide) (fun K hK => ?_)
                      refine gc Try.func51 #[.agg #[.bool a0_0, .int .i64 a0_1, .int .i64 a0_2], .agg #[.bool a1_0, .int .i64 a1_1, .int .i64 a1_2]] (ints_Add.calls kj4 a0_0 a0_1 a0_2 a1_0 a1_1 a1_2 t6444 t6445 t6446 _ A35.out) ?_
                      intro w74 hb
                      have n0_ := Aside0.mk (Kd.R_below (by (with_reducible repeat (first | apply Kd.R_alloc | apply Kd.R_drewN | apply Kd.R_drew)); exact HO6436.out) hb)
                      have n1_ := kb BK6401 hb
                      have n2_ := kb BK6402 hb
                      have n3_ := kb BK6409 hb
                      have n4_ := kb BK6440 hb
                      have n5_ := kh HB hb
                      clear HO6436
                      clear BK6401
                      clear BK6402
                      clear BK6409
                      clear BK6440
                      clear HB
                      have HO6436 := n0_
                      have BK6401 := n1_
                      have BK6402 := n2_
                      have BK6409 := n3_
                      have BK6440 := n4_
                      have HB := n5_
                      clear n0_ n1_ n2_ n3_ n4_ n5_
                      (try clear hb)
                      (try clear hb2)
                      (try clear hk)
                      (try clear hi)
                      refine hK.out _ _ ⟨bc BK6401 0, bc BK6401 1, bc BK6401 2, bc BK6440 0, bc BK6440 1, bc BK6440 2, bc BK6402 0, bc BK6402 1, bc BK6402 2⟩ (fun hHeld => ?_)
                      clear hK K
                      refine nrm (some 51) ?_
                      refine one_ (i := 16) (N := some 54) #[true, true, true, true, true, true, true, true, true, true, true, true, true, true, true, true, true, false, false, false, false, false, false, false, false, false, false, false, false, false, false, false, false, false, false, false, false, false, false, false, false, false, false, false, false, false, false] rfl rfl (one_of HT_.out (by kernel_rfl)) (by decide) (fun K hK => ?_)
                      refine gc Try.func49 #[.int .i64 0, .agg #[.bool a0_0, .int .i64 a0_1, .int .i64 a0_2], .agg #[.bool a1_0, .int .i64 a1_1, .int .i64 a1_2]] (flyballref17_Hull.calls kj4 0 a0_0 a0_1 a0_2 a1_0 a1_1 a1_2 t6447 t6448 t6449 _ A36.out) ?_
                      intro w75 hb
                      have n0_ := Aside0.mk (Kd.R_below (by (with_reducible repeat (first | apply Kd.R_alloc | apply Kd.R_drewN | apply Kd.R_drew)); exact HO6436.out) hb)
                      have n1_ := kb BK6401 hb
                      have n2_ := kb BK6402 hb
                      have n3_ := kb BK6409 hb
                      have n4_ := kb BK6440 hb
                      have n5_ := kh HB hb
                      clear HO6436
                      clear BK6401
                      clear BK6402
                      clear BK6409
                      clear BK6440
                      clear HB
                      have HO6436 := n0_
                      have BK6401 := n1_
                      have BK6402 := n2_
                      have BK6409 := n3_
                      have BK6440 := n4_
                      have HB := n5_
                      clear n0_ n1_ n2_ n3_ n4_ n5_
                      (try clear hb)
                      (try clear hb2)
                      (try clear hk)
                      (try clear hi)
                      refine hK.out _ _ ⟨bc BK6401 0, bc BK6401 1, bc BK6401 2, bc BK6440 0, bc BK6440 1, bc BK6440 2, bc BK6402 0, bc BK6402 1, bc BK6402 2⟩ (fun hHeld => ?_)
                      clear hK K
                      refine nrm (some 54) ?_
                      refine pur 17 (some 55) #[true, true, true, true, true, true, true, true, true, true, true, true, true, true, true, true, true, true, false, false, false, false, false, false, false, false, false, false, false, false, false, false, false, false, false, false, false, false, false, false, false, false, false, false, false, false, false] (any_of HT_.out (by kernel_rfl)) ?_
                      refine pur 18 (some 56) #[true, true, true, true, true, true, true, true, true, true, true, true, true, true, true, true, true, true, true, false, false, false, false, false, false, false, false, false, false, false, false, false, false, false, false, false, false, false, false, false, false, false, false, false, false, false, false] (any_of HT_.out (by kernel_rfl)) ?_
                      refine pur 19 (some 57) #[true, true, true, true, true, true, true, true, true, true, true, true, true, true, true, true, true, true, true, true, false, false, false, false, false, false, false, false, false, false, false, false, false, false, false, false, false, false, false, false, false, false, false, false, false, false, false] (any_of HT_.out (by kernel_rfl)) ?_
                      refine tak 20 (some 58) #[true, true, true, true, true, true, true, true, true, true, true, true, true, true, true, true, true, true, true, true, true, false, false, false, false, false, false, false, false, false, false, false, false, false, false, false, false, false, false, false, false, false, false, false, false, false, false] (take_ofW HT_.out HW_.out (by kernel_rfl)) hHeld ?_
                      refine tak 21 (some 59) #[true, true, true, true, true, true, true, true, true, true, true, true, true, true, true, true, true, true, true, true, true, true, false, false, false, false, false, false, false, false, false, false, false, false, false, false, false, false, false, false, false, false, false, false, false, false, false] (take_ofW HT_.out HW_.out (by kernel_rfl)) hHeld ?_
                      refine tak 23 (some 61) #[true, true, true, true, true, true, true, true, true, true, true, true, true, true, true, true, true, true, true, true, true, true, false, true, false, false, false, false, false, false, false, false, false, false, false, false, false, false, false, false, false, false, false, false, false, false, false] (take_ofW HT_.out HW_.out (by kernel_rfl)) hHeld ?_
                      refine tak 24 (some 62) #[true, true, true, true, true, true, true, true, true, true, true, true, true, true, true, true, true, true, true, true, true, true, false, true, true, false, false, false, false, false, false, false, false, false, false, false, false, false, false, false, false, false, false, false, false, false, false] (take_ofW HT_.out HW_.out (by kernel_rfl)) hHeld ?_
                      refine one_ (i := 22) (N := some 60) #[true, true, true, true, true, true, true, true, true, true, true, true, true, true, true, true, true, true, true, true, true, true, true, true, true, false, false, false, false, false, false, false, false, false, false, false, false, false, false, false, false, false, false, false, false, false, false] rfl rfl (one_of HT_.out (by kernel_rfl)) (by decide) (fun K hK => ?_)
                      refine gc Try.func52 #[.agg #[.bool a0_0, .int .i64 a0_1, .int .i64 a0_2], .agg #[.bool a1_0, .int .i64 a1_1, .int .i64 a1_2]] (ints_Sub.calls kj4 a0_0 a0_1 a0_2 a1_0 a1_1 a1_2 t6450 t6451 t6452 _ A38.out) ?_
                      intro w76 hb
                      have n0_ := Aside0.mk (Kd.R_below (by (with_reducible repeat (first | apply Kd.R_alloc | apply Kd.R_drewN | apply Kd.R_drew)); exact HO6436.out) hb)
                      have n1_ := kb BK6401 hb
                      have n2_ := kb BK6402 hb
                      have n3_ := kb BK6409 hb
                      have n4_ := kb BK6440 hb
                      have n5_ := kh HB hb
                      clear HO6436
                      clear BK6401
                      clear BK6402
                      clear BK6409
                      clear BK6440
                      clear HB
                      have HO6436 := n0_
                      have BK6401 := n1_
                      have BK6402 := n2_
                      have BK6409 := n3_
                      have BK6440 := n4_
                      have HB := n5_
                      clear n0_ n1_ n2_ n3_ n4_ n5_
                      (try clear hb)
                      (try clear hb2)
                      (try clear hk)
                      (try clear hi)
                      refine hK.out _ _ ⟨bc BK6401 0, bc BK6401 1, bc BK6401 2, bc BK6440 0, bc BK6440 1, bc BK6440 2, bc BK6402 0, bc BK6402 1, bc BK6402 2⟩ (fun hHeld => ?_)
                      clear hK K
                      refine nrm (some 60) ?_
                      refine one_ (i := 25) (N := some 63) #[true, true, true, true, true, true, true, true, true, true, true, true, true, true, true, true, true, true, true, true, true, true, true, true, true, true, false, false, false, false, false, false, false, false, false, false, false, false, false, false, false, false, false, false, false, false, false] rfl rfl (one_of HT_.out (by kernel_rfl)) (by decide) (fun K hK => ?_)
                      refine gc Try.func49 #[.int .i64 1, .agg #[.bool a0_0, .int .i64 a0_1, .int .i64 a0_2], .agg #[.bool a1_0, .int .i64 a1_1, .int .i64 a1_2]] (flyballref17_Hull.calls kj4 1 a0_0 a0_1 a0_2 a1_0 a1_1 a1_2 t6453 t6454 t6455 _ A39.out) ?_
                      intro w77 hb
                      have n0_ := Aside0.mk (Kd.R_below (by (with_reducible repeat (first | apply Kd.R_alloc | apply Kd.R_drewN | apply Kd.R_drew)); exact HO6436.out) hb)
                      have n1_ := kb BK6401 hb
                      have n2_ := kb BK6402 hb
                      have n3_ := kb BK6409 hb
                      have n4_ := kb BK6440 hb
                      have n5_ := kh HB hb
                      clear HO6436
                      clear BK6401
                      clear BK6402
                      clear BK6409
                      clear BK6440
                      clear HB
                      have HO6436 := n0_
                      have BK6401 := n1_
                      have BK6402 := n2_
                      have BK6409 := n3_
                      have BK6440 := n4_
                      have HB := n5_
                      clear n0_ n1_ n2_ n3_ n4_ n5_
                      (try clear hb)
                      (try clear hb2)
                      (try clear hk)
                      (try clear hi)
                      refine hK.out _ _ ⟨bc BK6401 0, bc BK6401 1, bc BK6401 2, bc BK6440 0, bc BK6440 1, bc BK6440 2, bc BK6402 0, bc BK6402 1, bc BK6402 2⟩ (fun hHeld => ?_)
                      clear hK K
                      refine nrm (some 63) ?_
                      refine pur 26 (some 64) #[true, true, true, true, true, true, true, true, true, true, true, true, true, true, true, true, true, true, true, true, true, true, true, true, true, true, true, false, false, false, false, false, false, false, false, false, false, false, false, false, false, false, false, false, false, false, false] (any_of HT_.out (by kernel_rfl)) ?_
                      refine pur 27 (some 65) #[true, true, true, true, true, true, true, true, true, true, true, true, true, true, true, true, true, true, true, true, true, true, true, true, true, true, true, true, false, false, false, false, false, false, false, false, false, false, false, false, false, false, false, false, false, false, false] (any_of HT_.out (by kernel_rfl)) ?_
                      refine pur 28 (some 66) #[true, true, true, true, true, true, true, true, true, true, true, true, true, true, true, true, true, true, true, true, true, true, true, true, true, true, true, true, true, false, false, false, false, false, false, false, false, false, false, false, false, false, false, false, false, false, false] (any_of HT_.out (by kernel_rfl)) ?_
                      refine tak 29 (some 67) #[true, true, true, true, true, true, true, true, true, true, true, true, true, true, true, true, true, true, true, true, true, true, true, true, true, true, true, true, true, true, false, false, false, false, false, false, false, false, false, false, false, false, false, false, false, false, false] (take_ofW HT_.out HW_.out (by kernel_rfl)) hHeld ?_
                      refine tak 30 (some 68) #[true, true, true, true, true, true, true, true, true, true, true, true, true, true, true, true, true, true, true, true, true, true, true, true, true, true, true, true, true, true, true, false, false, false, false, false, false, false, false, false, false, false, false, false, false, false, false] (take_ofW HT_.out HW_.out (by kernel_rfl)) hHeld ?_
                      refine tak 32 (some 70) #[true, true, true, true, true, true, true, true, true, true, true, true, true, true, true, true, true, true, true, true, true, true, true, true, true, true, true, true, true, true, true, false, true, false, false, false, false, false, false, false, false, false, false, false, false, false, false] (take_ofW HT_.out HW_.out (by kernel_rfl)) hHeld ?_
                      refine tak 33 (some 71) #[true, true, true, true, true, true, true, true, true, true, true, true, true, true, true, true, true, true, true, true, true, true, true, true, true, true, true, true, true, true, true, false, true, true, false, false, false, false, false, false, false, false, false, false, false, false, false] (take_ofW HT_.out HW_.out (by kernel_rfl)) hHeld ?_
                      refine one_ (i := 31) (N := some 69) #[true, true, true, true, true, true, true, true, true, true, true, true, true, true, true, true, true, true, true, true, true, true, true, true, true, true, true, true, true, true, true, true, true, true, false, false, false, false, false, false, false, false, false, false, false, false, false] rfl rfl (one_of HT_.out (by kernel_rfl)) (by decide) (fun K hK => ?_)
                      refine gc Try.func53 #[.agg #[.bool a0_0, .int .i64 a0_1, .int .i64 a0_2], .agg #[.bool a1_0, .int .i64 a1_1, .int .i64 a1_2]] (ints_Mul.calls kj4 a0_0 a0_1 a0_2 a1_0 a1_1 a1_2 t6456 t6457 t6458 _ A41.out) ?_
                      intro w78 hb
                      have n0_ := Aside0.mk (Kd.R_below (by (with_reducible repeat (first | apply Kd.R_alloc | apply Kd.R_drewN | apply Kd.R_drew)); exact HO6436.out) hb)
                      have n1_ := kb BK6401 hb
                      have n2_ := kb BK6402 hb
                      have n3_ := kb BK6409 hb
                      have n4_ := kb BK6440 hb
                      have n5_ := kh HB hb
                      clear HO6436
                      clear BK6401
                      clear BK6402
                      clear BK6409
                      clear BK6440
                      clear HB
                      have HO6436 := n0_
                      have BK6401 := n1_
                      have BK6402 := n2_
                      have BK6409 := n3_
                      have BK6440 := n4_
                      have HB := n5_
                      clear n0_ n1_ n2_ n3_ n4_ n5_
                      (try clear hb)
                      (try clear hb2)
                      (try clear hk)
                      (try clear hi)
                      refine hK.out _ _ ⟨bc BK6401 0, bc BK6401 1, bc BK6401 2, bc BK6440 0, bc BK6440 1, bc BK6440 2, bc BK6402 0, bc BK6402 1, bc BK6402 2⟩ (fun hHeld => ?_)
                      clear hK K
                      refine nrm (some 69) ?_
                      refine one_ (i := 34) (N := some 72) #[true, true, true, true, true, true, true, true, true, true, true, true, true, true, true, true, true, true, true, true, true, true, true, true, true, true, true, true, true, true, true, true, true, true, true, false, false, false, false, false, false, false, false, false, false, false, false] rfl rfl (one_of HT_.out (by kernel_rfl)) (by decide) (fun K hK => ?_)
                      refine gc Try.func49 #[.int .i64 2, .agg #[.bool a0_0, .int .i64 a0_1, .int .i64 a0_2], .agg #[.bool a1_0, .int .i64 a1_1, .int .i64 a1_2]] (flyballref17_Hull.calls kj4 2 a0_0 a0_1 a0_2 a1_0 a1_1 a1_2 t6459 t6460 t6461 _ A42.out) ?_
                      intro w79 hb
                      have n0_ := Aside0.mk (Kd.R_below (by (with_reducible repeat (first | apply Kd.R_alloc | apply Kd.R_drewN | apply Kd.R_drew)); exact HO6436.out) hb)
                      have n1_ := kb BK6401 hb
                      have n2_ := kb BK6402 hb
                      have n3_ := kb BK6409 hb
                      have n4_ := kb BK6440 hb
                      have n5_ := kh HB hb
                      clear HO6436
                      clear BK6401
                      clear BK6402
                      clear BK6409
                      clear BK6440
                      clear HB
                      have HO6436 := n0_
                      have BK6401 := n1_
                      have BK6402 := n2_
                      have BK6409 := n3_
                      have BK6440 := n4_
                      have HB := n5_
                      clear n0_ n1_ n2_ n3_ n4_ n5_
                      (try clear hb)
                      (try clear hb2)
                      (try clear hk)
                      (try clear hi)
                      refine hK.out _ _ ⟨bc BK6401 0, bc BK6401 1, bc BK6401 2, bc BK6440 0, bc BK6440 1, bc BK6440 2, bc BK6402 0, bc BK6402 1, bc BK6402 2⟩ (fun hHeld => ?_)
                      clear hK K
                      refine nrm (some 72) ?_
                      refine pur 35 (some 73) #[true, true, true, true, true, true, true, true, true, true, true, true, true, true, true, true, true, true, true, true, true, true, true, true, true, true, true, true, true, true, true, true, true, true, true, true, false, false, false, false, false, false, false, false, false, false, false] (any_of HT_.out (by kernel_rfl)) ?_
                      refine pur 36 (some 74) #[true, true, true, true, true, true, true, true, true, true, true, true, true, true, true, true, true, true, true, true, true, true, true, true, true, true, true, true, true, true, true, true, true, true, true, true, true, false, false, false, false, false, false, false, false, false, false] (any_of HT_.out (by kernel_rfl)) ?_
                      refine pur 37 (some 75) #[true, true, true, true, true, true, true, true, true, true, true, true, true, true, true, true, true, true, true, true, true, true, true, true, true, true, true, true, true, true, true, true, true, true, true, true, true, true, false, false, false, false, false, false, false, false, false] (any_of HT_.out (by kernel_rfl)) ?_
                      refine tak 38 (some 76) #[true, true, true, true, true, true, true, true, true, true, true, true, true, true, true, true, true, true, true, true, true, true, true, true, true, true, true, true, true, true, true, true, true, true, true, true, true, true, true, false, false, false, false, false, false, false, false] (take_ofW HT_.out HW_.out (by kernel_rfl)) hHeld ?_
                      refine tak 39 (some 77) #[true, true, true, true, true, true, true, true, true, true, true, true, true, true, true, true, true, true, true, true, true, true, true, true, true, true, true, true, true, true, true, true, true, true, true, true, true, true, true, true, false, false, false, false, false, false, false] (take_ofW HT_.out HW_.out (by kernel_rfl)) hHeld ?_
                      refine tak 41 (some 79) #[true, true, true, true, true, true, true, true, true, true, true, true, true, true, true, true, true, true, true, true, true, true, true, true, true, true, true, true, true, true, true, true, true, true, true, true, true, true, true, true, false, true, false, false, false, false, false] (take_ofW HT_.out HW_.out (by kernel_rfl)) hHeld ?_
                      refine tak 42 (some 80) #[true, true, true, true, true, true, true, true, true, true, true, true, true, true, true, true, true, true, true, true, true, true, true, true, true, true, true, true, true, true, true, true, true, true, true, true, true, true, true, true, false, true, true, false, false, false, false] (take_ofW HT_.out HW_.out (by kernel_rfl)) hHeld ?_
                      refine one_ (i := 40) (N := some 78) #[true, true, true, true, true, true, true, true, true, true, true, true, true, true, true, true, true, true, true, true, true, true, true, true, true, true, true, true, true, true, true, true, true, true, true, true, true, true, true, true, true, true, true, false, false, false, false] rfl rfl (one_of HT_.out (by kernel_rfl)) (by decide) (fun K hK => ?_)
                      refine gc Try.func54 #[.agg #[.bool a0_0, .int .i64 a0_1, .int .i64 a0_2], .agg #[.bool a1_0, .int .i64 a1_1, .int .i64 a1_2]] (ints_Div.calls kj4 a0_0 a0_1 a0_2 a1_0 a1_1 a1_2 t6462 t6463 t6464 _ A44.out) ?_
                      intro w80 hb
                      have n0_ := Aside0.mk (Kd.R_below (by (with_reducible repeat (first | apply Kd.R_alloc | apply Kd.R_drewN | apply Kd.R_drew)); exact HO6436.out) hb)
                      have n1_ := kb BK6401 hb
                      have n2_ := kb BK6402 hb
                      have n3_ := kb BK6409 hb
                      have n4_ := kb BK6440 hb
                      have n5_ := kh HB hb
                      clear HO6436
                      clear BK6401
                      clear BK6402
                      clear BK6409
                      clear BK6440
                      clear HB
                      have HO6436 := n0_
                      have BK6401 := n1_
                      have BK6402 := n2_
                      have BK6409 := n3_
                      have BK6440 := n4_
                      have HB := n5_
                      clear n0_ n1_ n2_ n3_ n4_ n5_
                      (try clear hb)
                      (try clear hb2)
                      (try clear hk)
                      (try clear hi)
                      refine hK.out _ _ ⟨bc BK6401 0, bc BK6401 1, bc BK6401 2, bc BK6440 0, bc BK6440 1, bc BK6440 2, bc BK6402 0, bc BK6402 1, bc BK6402 2⟩ (fun hHeld => ?_)
                      clear hK K
                      refine nrm (some 78) ?_
                      refine one_ (i := 43) (N := some 81) #[true, true, true, true, true, true, true, true, true, true, true, true, true, true, true, true, true, true, true, true, true, true, true, true, true, true, true, true, true, true, true, true, true, true, true, true, true, true, true, true, true, true, true, true, false, false, false] rfl rfl (one_of HT_.out (by kernel_rfl)) (by decide) (fun K hK => ?_)
                      refine gc Try.func49 #[.int .i64 3, .agg #[.bool a0_0, .int .i64 a0_1, .int .i64 a0_2], .agg #[.bool a1_0, .int .i64 a1_1, .int .i64 a1_2]] (flyballref17_Hull.calls kj4 3 a0_0 a0_1 a0_2 a1_0 a1_1 a1_2 t6465 t6466 t6467 _ A45.out) ?_
                      intro w81 hb
                      have n0_ := Aside0.mk (Kd.R_below (by (with_reducible repeat (first | apply Kd.R_alloc | apply Kd.R_drewN | apply Kd.R_drew)); exact HO6436.out) hb)
                      have n1_ := kb BK6401 hb
                      have n2_ := kb BK6402 hb
                      have n3_ := kb BK6409 hb
                      have n4_ := kb BK6440 hb
                      have n5_ := kh HB hb
                      clear HO6436
                      clear BK6401
                      clear BK6402
                      clear BK6409
                      clear BK6440
                      clear HB
                      have HO6436 := n0_
                      have BK6401 := n1_
                      have BK6402 := n2_
                      have BK6409 := n3_
                      have BK6440 := n4_
                      have HB := n5_
                      clear n0_ n1_ n2_ n3_ n4_ n5_
                      (try clear hb)
                      (try clear hb2)
                      (try clear hk)
                      (try clear hi)
                      refine hK.out _ _ ⟨bc BK6401 0, bc BK6401 1, bc BK6401 2, bc BK6440 0, bc BK6440 1, bc BK6440 2, bc BK6402 0, bc BK6402 1, bc BK6402 2⟩ (fun hHeld => ?_)
                      clear hK K
                      refine nrm (some 81) ?_
                      refine pur 44 (some 82) #[true, true, true, true, true, true, true, true, true, true, true, true, true, true, true, true, true, true, true, true, true, true, true, true, true, true, true, true, true, true, true, true, true, true, true, true, true, true, true, true, true, true, true, true, true, false, false] (any_of HT_.out (by kernel_rfl)) ?_
                      refine pur 45 (some 83) #[true, true, true, true, true, true, true, true, true, true, true, true, true, true, true, true, true, true, true, true, true, true, true, true, true, true, true, true, true, true, true, true, true, true, true, true, true, true, true, true, true, true, true, true, true, true, false] (any_of HT_.out (by kernel_rfl)) ?_
                      refine pur 46 (some 4) #[true, true, true, true, true, true, true, true, true, true, true, true, true, true, true, true, true, true, true, true, true, true, true, true, true, true, true, true, true, true, true, true, true, true, true, true, true, true, true, true, true, true, true, true, true, true, true] (any_of HT_.out (by kernel_rfl)) ?_
                      refine done_ (done_of HT_.out (by kernel_rfl)) ?_
                      try go_wp2
                      go_ret
                      exact ⟨pe, pl HB⟩
                    · rw [if_neg c43] at H
                      exact absurd H (by simp)
                  · rw [if_neg c40] at H
                    exact absurd H (by simp)
                · rw [if_neg c37] at H
                  exact absurd H (by simp)
              · rw [if_neg c34] at H
                exact absurd H (by simp)
            · rw [if_neg c32] at H
              exact absurd H (by simp)
          · exact absurd rfl c31
  · replace c4 := Bool.eq_false_iff.mpr c4
    subst c4
    rw [if_neg (show ¬ (false = true) by decide)] at H
    obtain rfl := Option.some.inj H
    go_enter Try.func8, Try.ntmps8
    go_wp2_with (first | ((with_reducible refine gate_dst (N := 2) rfl ?_); refine kx 2 #[.bool a0_0, .int .i64 a0_1, .int .i64 a0_2] 23 ?_; intro gb6401 hg w82 hbox hb; have BK6401 := Aside0.mk (hbox); have GW6401 := kg HB hg; have GE6401 := kg HB hg; replace HB := kh HB hb; clear hb hbox hg) | ((with_reducible refine gate_dst (N := 3) rfl ?_); refine kx 3 #[.bool a1_0, .int .i64 a1_1, .int .i64 a1_2] 23 ?_; intro gb6402 hg w83 hbox hb; have BK6402 := Aside0.mk (hbox); have GW6402 := kg HB hg; have GE6402 := kg HB hg; have NB6401_6402 := kn BK6401 hg; have NB6402_6401 := km BK6401 hg; replace BK6401 := kb BK6401 hb; replace HB := kh HB hb; clear hb hbox hg) | ((with_reducible refine gate_callee (f := 38) rfl ?_); refine kc (some 9) Try.func38 #[] (flyballlaw17_works.calls k  false _ A3.out) ?_; intro w84 hb; replace BK6401 := kb BK6401 hb; replace BK6402 := kb BK6402 hb; replace HB := kh HB hb; (try clear hb); (try clear hb2); (try clear hk); (try clear hi)))
    go_ret
    exact ⟨pe, pl HB⟩
end Go.Proofs.Ytinmgnlofininaa.PAll
end
