/- Functions of the print, turned to this claim. -/
import Derived.Test.YtinmgnlofininaaZKW
import Derived.Test.YtinmgnlofininaaZKx0
import Derived.Test.YtinmgnlofininaaZKx1
import Derived.Test.YtinmgnlofininaaZKx2
import Derived.Test.YtinmgnlofininaaZKx3
import Derived.Test.YtinmgnlofininaaZKx8
import Derived.Test.YtinmgnlofininaaZKx26
import Derived.Test.YtinmgnlofininaaZKx27
import Derived.Test.YtinmgnlofininaaZKx28
import Derived.Test.YtinmgnlofininaaZKx29
import Derived.Test.YtinmgnlofininaaZKx30
section
namespace Go.Proofs.Ytinmgnlofininaa.PAll
open Go.RowKit Go.Proofs.YtinmgnlofininaaW.PrintWords Go.Proofs.YtinmgnlofininaaW.PrintLast Go.Proofs.YtinmgnlofininaaW.PrintMore
attribute [local go_sem] max2_int min2_int max_two min_two max_three min_three max_four min_four   -- for this text's walks alone
set_option linter.unusedVariables false
set_option linter.unusedSimpArgs false
attribute [local go_sem high] eqA23 eqA25
/-! ### flyballlaw21_works: function 13 -/
def flyballlaw21_works.f (k : Nat)  : Option (Bool) := (ints_Point.f 0).bind fun bt9701 => ((ints_Point.f 0).bind fun bt9704 => ((clock_Of.f k bt9701.1 bt9701.2.1 bt9701.2.2 bt9704.1 bt9704.2.1 bt9704.2.2).bind fun bt9707 => ((ints_Point.f 1).bind fun bt9714 => ((clock_Move.f k bt9707.1 bt9707.2.1 bt9707.2.2.1 bt9707.2.2.2.1 bt9707.2.2.2.2.1 bt9707.2.2.2.2.2 bt9714.1 bt9714.2.1 bt9714.2.2).bind fun bt9717 => ((clock_Tick.f k bt9717.1 bt9717.2.1 bt9717.2.2.1 bt9717.2.2.2.1 bt9717.2.2.2.2.1 bt9717.2.2.2.2.2).bind fun bt9723 => ((clock_All.f).bind fun bt9730 => ((ints_Full.f).bind fun bt9737 => ((ints_Point.f 0).bind fun bt9740 => ((ints_Make.f 0 99).bind fun bt9743 => ((clock_Reduce.f k bt9737.1 bt9737.2.1 bt9737.2.2 bt9740.1 bt9740.2.1 bt9740.2.2 bt9730.2.2.2.1 bt9730.2.2.2.2.1 bt9730.2.2.2.2.2 bt9743.1 bt9743.2.1 bt9743.2.2).bind fun bt9746 => ((ints_Point.f 0).bind fun bt9750 => ((ints_Point.f 0).bind fun bt9753 => (if ((bt9707.1 == bt9750.1 && (bt9707.2.1 == bt9750.2.1 && (bt9707.2.2.1 == bt9750.2.2))) && ((bt9707.2.2.2.1 == bt9753.1 && (bt9707.2.2.2.2.1 == bt9753.2.1 && (bt9707.2.2.2.2.2 == bt9753.2.2))))) = true then ((ints_Point.f 0).bind fun bt9756 => ((ints_Point.f 2).bind fun bt9759 => (if ((bt9723.1 == bt9756.1 && (bt9723.2.1 == bt9756.2.1 && (bt9723.2.2.1 == bt9756.2.2))) && ((bt9723.2.2.2.1 == bt9759.1 && (bt9723.2.2.2.2.1 == bt9759.2.1 && (bt9723.2.2.2.2.2 == bt9759.2.2))))) = true then ((ints_Make.f 0 99).bind fun bt9762 => (if (bt9746.1 == bt9762.1 && (bt9746.2.1 == bt9762.2.1 && (bt9746.2.2 == bt9762.2.2))) = true then ((clock_Has.f k bt9723.1 bt9723.2.1 bt9723.2.2.1 bt9723.2.2.2.1 bt9723.2.2.2.2.1 bt9723.2.2.2.2.2 1 1).bind fun t9765 => (if t9765 = true then ((clock_Has.f k bt9723.1 bt9723.2.1 bt9723.2.2.1 bt9723.2.2.2.1 bt9723.2.2.2.2.1 bt9723.2.2.2.2.2 1 0).bind fun t9766 => (if t9766 = true then (none) else ((clock_Inside.f k bt9723.1 bt9723.2.1 bt9723.2.2.1 bt9723.2.2.2.1 bt9723.2.2.2.2.1 bt9723.2.2.2.2.2 bt9730.1 bt9730.2.1 bt9730.2.2.1 bt9730.2.2.2.1 bt9730.2.2.2.2.1 bt9730.2.2.2.2.2).bind fun t9767 => (if t9767 = true then ((clock_Join.f k bt9707.1 bt9707.2.1 bt9707.2.2.1 bt9707.2.2.2.1 bt9707.2.2.2.2.1 bt9707.2.2.2.2.2 bt9723.1 bt9723.2.1 bt9723.2.2.1 bt9723.2.2.2.1 bt9723.2.2.2.2.1 bt9723.2.2.2.2.2).bind fun bt9768 => ((ints_Make.f 0 2).bind fun bt9774 => (if (bt9768.2.2.2.1 == bt9774.1 && (bt9768.2.2.2.2.1 == bt9774.2.1 && (bt9768.2.2.2.2.2 == bt9774.2.2))) = true then ((clock_Meet.f k bt9707.1 bt9707.2.1 bt9707.2.2.1 bt9707.2.2.2.1 bt9707.2.2.2.2.1 bt9707.2.2.2.2.2 bt9723.1 bt9723.2.1 bt9723.2.2.1 bt9723.2.2.2.1 bt9723.2.2.2.2.1 bt9723.2.2.2.2.2).bind fun bt9777 => (if bt9777.1 = true then ((ints_Point.f 3).bind fun bt9783 => ((ints_Point.f 1).bind fun bt9786 => ((clock_Tight.f k bt9730.1 bt9730.2.1 bt9730.2.2.1 bt9730.2.2.2.1 bt9730.2.2.2.2.1 bt9730.2.2.2.2.2 bt9783.1 bt9783.2.1 bt9783.2.2 bt9786.1 bt9786.2.1 bt9786.2.2).bind fun bt9789 => ((ints_Point.f 2).bind fun bt9795 => (if (bt9789.1 == bt9795.1 && (bt9789.2.1 == bt9795.2.1 && (bt9789.2.2.1 == bt9795.2.2))) = true then ((clock_Widen.f k bt9707.1 bt9707.2.1 bt9707.2.2.1 bt9707.2.2.2.1 bt9707.2.2.2.2.1 bt9707.2.2.2.2.2 bt9723.1 bt9723.2.1 bt9723.2.2.1 bt9723.2.2.2.1 bt9723.2.2.2.2.1 bt9723.2.2.2.2.2 ([] : List Int)).bind fun bt9798 => (some (bt9798.2.2.2.2.2 == 1099511627776))) else (none)))))) else (none))) else (none)))) else (none))))) else (none))) else (none))) else (none)))) else (none))))))))))))))
theorem flyballlaw21_works.mono : ∀ k, LeO (flyballlaw21_works.f k ) (flyballlaw21_works.f (k + 1) ) := by
  intro  k
  unfold flyballlaw21_works.f
  repeat' first
      | (with_reducible exact clock_Has.mono _ _ _ _ _ _ _ _ _)
      | (with_reducible exact clock_Inside.mono _ _ _ _ _ _ _ _ _ _ _ _ _)
      | (with_reducible exact clock_Join.mono _ _ _ _ _ _ _ _ _ _ _ _ _)
      | (with_reducible exact clock_Meet.mono _ _ _ _ _ _ _ _ _ _ _ _ _)
      | (with_reducible exact clock_Move.mono _ _ _ _ _ _ _ _ _ _)
      | (with_reducible exact clock_Of.mono _ _ _ _ _ _ _)
      | (with_reducible exact clock_Reduce.mono _ _ _ _ _ _ _ _ _ _ _ _ _)
      | (with_reducible exact clock_Tick.mono _ _ _ _ _ _ _)
      | (with_reducible exact clock_Tight.mono _ _ _ _ _ _ _ _ _ _ _ _ _)
      | (with_reducible exact clock_Widen.mono _ _ _ _ _ _ _ _ _ _ _ _ _ _)
      | (with_reducible exact LeO.refl _)
      | (with_reducible exact LeO.none _)
      | (with_reducible refine LeO.ite ?_ ?_)
      | (with_reducible refine LeO.bind ?_ (fun _ => ?_))
      | exact clock_Has.mono _ _ _ _ _ _ _ _ _
      | exact clock_Inside.mono _ _ _ _ _ _ _ _ _ _ _ _ _
      | exact clock_Join.mono _ _ _ _ _ _ _ _ _ _ _ _ _
      | exact clock_Meet.mono _ _ _ _ _ _ _ _ _ _ _ _ _
      | exact clock_Move.mono _ _ _ _ _ _ _ _ _ _
      | exact clock_Of.mono _ _ _ _ _ _ _
      | exact clock_Reduce.mono _ _ _ _ _ _ _ _ _ _ _ _ _
      | exact clock_Tick.mono _ _ _ _ _ _ _
      | exact clock_Tight.mono _ _ _ _ _ _ _ _ _ _ _ _ _
      | exact clock_Widen.mono _ _ _ _ _ _ _ _ _ _ _ _ _ _
      | exact LeO.none _
      | refine LeO.ite ?_ ?_
      | refine LeO.bind ?_ (fun _ => ?_)
def flyballlaw21_works.T4 : Bool × List (List Nat × List Nat) := (true, [([], []), ([0], []), ([], []), ([2], [2]), ([1, 3], [1, 3]), ([1], []), ([0, 4, 5, 5], [0, 4, 5]), ([], []), ([7, 6, 6, 0, 1, 2, 3, 4, 5, 6, 7], [6, 7])])
def flyballlaw21_works.B4 : List Nat := [0, 1, 0, 4, 15, 3, 63, 0, 255]
theorem flyballlaw21_works.tab4 : rtab .any (opsOf Try.f13 4) = flyballlaw21_works.T4 := by kernel_rfl
theorem flyballlaw21_works.bits4 : waitsOk flyballlaw21_works.T4.2 flyballlaw21_works.B4 = true := by kernel_rfl
def flyballlaw21_works.T5 : Bool × List (List Nat × List Nat) := (true, [([], []), ([], []), ([1], []), ([1, 2], [1, 2]), ([0, 3], [0, 3]), ([4, 2], [4]), ([5], [5]), ([5, 5], [5]), ([7, 5], [5]), ([7, 8, 5], [5, 7, 8]), ([6, 9, 5], [5, 6, 9]), ([5, 10], [5, 10]), ([11, 8], [11]), ([12], [12]), ([12, 12], [12]), ([13, 14, 12], [12, 13, 14]), ([12, 15], [12, 15]), ([16, 14], [16]), ([17], [17]), ([18, 17, 17], [17, 18]), ([17, 19], [17, 19]), ([20, 19], [20]), ([21], [21]), ([22, 21, 21], [21, 22]), ([23, 21], [21, 23]), ([21, 24], [21, 24]), ([25, 23], [25]), ([26], [26]), ([26], [26]), ([27, 28, 26, 26], [26, 27, 28]), ([26, 29], [26, 29]), ([30, 29], [30]), ([31], [31]), ([31], [31]), ([32, 33, 31, 31], [31, 32, 33]), ([34, 31], [31, 34]), ([34, 31], [31]), ([35, 36, 31], [31, 35, 36]), ([31, 37], [31, 37]), ([38, 36], [38]), ([39], [39]), ([39], [39]), ([40, 41, 39, 39], [39, 40, 41]), ([42, 39], [39, 42]), ([43, 39], [39, 43]), ([39, 44], [39, 44]), ([45, 42], [45]), ([46], [46]), ([46, 46], [46]), ([48, 46], [46]), ([47, 48, 49, 49, 46], [46, 47, 48, 49]), ([50, 46], [46, 50]), ([50, 46], [46]), ([51, 52, 46], [46, 51, 52]), ([46, 53], [46, 53]), ([54, 52], [54]), ([55], [55]), ([55], [55]), ([56, 57, 55, 55], [55, 56, 57]), ([58, 55], [55, 58]), ([59, 55], [55, 59]), ([60, 55], [55, 60]), ([55, 61], [55, 61]), ([62, 58, 0, 1, 2, 3, 4, 5, 6, 7, 8, 9, 10, 11, 12, 13, 14, 15, 16, 17, 18, 19, 20, 21, 22, 23, 24, 25, 26, 27, 28, 29, 30, 31, 32, 33, 34, 35, 36, 37, 38, 39, 40, 41, 42, 43, 44, 45, 46, 47, 48, 49, 50, 51, 52, 53, 54, 55, 56, 57, 58, 59, 60, 61, 62], [62])])
def flyballlaw21_works.B5 : List Nat := [0, 0, 2, 6, 15, 31, 63, 63, 191, 447, 1023, 2047, 4095, 8191, 8191, 32767, 65535, 131071, 262143, 524287, 1048575, 2097151, 4194303, 8388607, 16777215, 33554431, 67108863, 134217727, 134217727, 536870911, 1073741823, 2147483647, 4294967295, 4294967295, 17179869183, 34359738367, 34359738367, 137438953471, 274877906943, 549755813887, 1099511627775, 1099511627775, 4398046511103, 8796093022207, 17592186044415, 35184372088831, 70368744177663, 140737488355327, 140737488355327, 422212465065983, 1125899906842623, 2251799813685247, 2251799813685247, 9007199254740991, 18014398509481983, 36028797018963967, 72057594037927935, 72057594037927935, 288230376151711743, 576460752303423487, 1152921504606846975, 2305843009213693951, 4611686018427387903, 9223372036854775807]
theorem flyballlaw21_works.tab5 : rtab .any (opsOf Try.f13 5) = flyballlaw21_works.T5 := by kernel_rfl
theorem flyballlaw21_works.bits5 : waitsOk flyballlaw21_works.T5.2 flyballlaw21_works.B5 = true := by kernel_rfl
theorem fd25_0 (a b c d e f : Value) (W : World) : Sem.run Try.prog (Instr.field 25 (.agg #[a, b, c, d, e, f]) 0) W = .ok (.agg #[a, b, c]) W := by rfl
theorem fd25_1 (a b c d e f : Value) (W : World) : Sem.run Try.prog (Instr.field 25 (.agg #[a, b, c, d, e, f]) 1) W = .ok (.agg #[d, e, f]) W := by rfl
theorem fd23_0 (a b c : Value) (W : World) : Sem.run Try.prog (Instr.field 23 (.agg #[a, b, c]) 0) W = .ok a W := by rfl
theorem fd23_1 (a b c : Value) (W : World) : Sem.run Try.prog (Instr.field 23 (.agg #[a, b, c]) 1) W = .ok b W := by rfl
theorem fd23_2 (a b c : Value) (W : World) : Sem.run Try.prog (Instr.field 23 (.agg #[a, b, c]) 2) W = .ok c W := by rfl
set_option maxHeartbeats 8000000 in
set_option maxRecDepth 100000 in
theorem flyballlaw21_works.calls (k : Nat)  (r : Bool) (w : World) (h : flyballlaw21_works.f k  = some r) :
    Calls Try.prog 13 #[] w fun e w' => e = .returned (.bool r) ∧ Below w.heap.size w w' := by
  have hu25 := Try.underlying25
  have hu23 := Try.underlying23
  have hfd0 := fd25_0
  have hfd1 := fd25_1
  have hfd2 := fd23_0
  have hfd3 := fd23_1
  have hfd4 := fd23_2
  have HB := Aside0.mk (Below.refl w.heap.size w)
  have H := h
  clear h
  unfold flyballlaw21_works.f at H
  obtain ⟨⟨t9701, t9702, t9703⟩, A10, H⟩ := Option.bind_eq_some_iff.mp H
  have A1 := Aside0.mk A10
  clear A10
  (try dsimp only at H)
  obtain ⟨⟨t9704, t9705, t9706⟩, A20, H⟩ := Option.bind_eq_some_iff.mp H
  have A2 := Aside0.mk A20
  clear A20
  (try dsimp only at H)
  obtain ⟨⟨t9707, t9708, t9709, t9710, t9711, t9712⟩, A30, H⟩ := Option.bind_eq_some_iff.mp H
  have A3 := Aside0.mk A30
  clear A30
  (try dsimp only at H)
  obtain ⟨⟨t9714, t9715, t9716⟩, A40, H⟩ := Option.bind_eq_some_iff.mp H
  have A4 := Aside0.mk A40
  clear A40
  (try dsimp only at H)
  obtain ⟨⟨t9717, t9718, t9719, t9720, t9721, t9722⟩, A50, H⟩ := Option.bind_eq_some_iff.mp H
  have A5 := Aside0.mk A50
  clear A50
  (try dsimp only at H)
  obtain ⟨⟨t9723, t9724, t9725, t9726, t9727, t9728⟩, A60, H⟩ := Option.bind_eq_some_iff.mp H
  have A6 := Aside0.mk A60
  clear A60
  (try dsimp only at H)
  obtain ⟨⟨t9730, t9731, t9732, t9733, t9734, t9735⟩, A70, H⟩ := Option.bind_eq_some_iff.mp H
  have A7 := Aside0.mk A70
  clear A70
  (try dsimp only at H)
  obtain ⟨⟨t9737, t9738, t9739⟩, A80, H⟩ := Option.bind_eq_some_iff.mp H
  have A8 := Aside0.mk A80
  clear A80
  (try dsimp only at H)
  obtain ⟨⟨t9740, t9741, t9742⟩, A90, H⟩ := Option.bind_eq_some_iff.mp H
  have A9 := Aside0.mk A90
  clear A90
  (try dsimp only at H)
  obtain ⟨⟨t9743, t9744, t9745⟩, A100, H⟩ := Option.bind_eq_some_iff.mp H
  have A10 := Aside0.mk A100
  clear A100
  (try dsimp only at H)
  obtain ⟨⟨t9746, t9747, t9748⟩, A110, H⟩ := Option.bind_eq_some_iff.mp H
  have A11 := Aside0.mk A110
  clear A110
  (try dsimp only at H)
  obtain ⟨⟨t9750, t9751, t9752⟩, A120, H⟩ := Option.bind_eq_some_iff.mp H
  have A12 := Aside0.mk A120
  clear A120
  (try dsimp only at H)
  obtain ⟨⟨t9753, t9754, t9755⟩, A130, H⟩ := Option.bind_eq_some_iff.mp H
  have A13 := Aside0.mk A130
  clear A130
  (try dsimp only at H)
  by_cases c14 : ((t9707 == t9750 && (t9708 == t9751 && (t9709 == t9752))) && ((t9710 == t9753 && (t9711 == t9754 && (t9712 == t9755))))) = true
  · rw [if_pos c14] at H
    have c14b0 : ((t9707 == t9750 && (t9708 == t9751 && (t9709 == t9752))) && ((t9710 == t9753 && (t9711 == t9754 && (t9712 == t9755))))) = true := c14
    clear c14
    obtain ⟨⟨t9756, t9757, t9758⟩, A150, H⟩ := Option.bind_eq_some_iff.mp H
    have A15 := Aside0.mk A150
    clear A150
    (try dsimp only at H)
    obtain ⟨⟨t9759, t9760, t9761⟩, A160, H⟩ := Option.bind_eq_some_iff.mp H
    have A16 := Aside0.mk A160
    clear A160
    (try dsimp only at H)
    by_cases c17 : ((t9723 == t9756 && (t9724 == t9757 && (t9725 == t9758))) && ((t9726 == t9759 && (t9727 == t9760 && (t9728 == t9761))))) = true
    · rw [if_pos c17] at H
      have c17b0 : ((t9723 == t9756 && (t9724 == t9757 && (t9725 == t9758))) && ((t9726 == t9759 && (t9727 == t9760 && (t9728 == t9761))))) = true := c17
      clear c17
      obtain ⟨⟨t9762, t9763, t9764⟩, A180, H⟩ := Option.bind_eq_some_iff.mp H
      have A18 := Aside0.mk A180
      clear A180
      (try dsimp only at H)
      by_cases c19 : (t9746 == t9762 && (t9747 == t9763 && (t9748 == t9764))) = true
      · rw [if_pos c19] at H
        have c19b0 : (t9746 == t9762 && (t9747 == t9763 && (t9748 == t9764))) = true := c19
        (try (have c19b1 : decide (t9746 = t9762 && (t9747 == t9763 && (t9748 == t9764))) = true := by simpa using c19))
        (try (have c19b2 : (t9746 == t9762 && (t9747 == t9763 && (t9748 == t9764))) = true := by simpa using c19))
        clear c19
        obtain ⟨t9765, A200, H⟩ := Option.bind_eq_some_iff.mp H
        have A20 := Aside0.mk A200
        clear A200
        (try dsimp only at H)
        by_cases c21 : t9765 = true
        · subst c21
          rw [if_pos rfl] at H
          obtain ⟨t9766, A220, H⟩ := Option.bind_eq_some_iff.mp H
          have A22 := Aside0.mk A220
          clear A220
          (try dsimp only at H)
          by_cases c23 : t9766 = true
          · subst c23
            rw [if_pos rfl] at H
            exact absurd H (by simp)
          · replace c23 := Bool.eq_false_iff.mpr c23
            subst c23
            rw [if_neg (show ¬ (false = true) by decide)] at H
            obtain ⟨t9767, A240, H⟩ := Option.bind_eq_some_iff.mp H
            have A24 := Aside0.mk A240
            clear A240
            (try dsimp only at H)
            by_cases c25 : t9767 = true
            · subst c25
              rw [if_pos rfl] at H
              obtain ⟨⟨t9768, t9769, t9770, t9771, t9772, t9773⟩, A260, H⟩ := Option.bind_eq_some_iff.mp H
              have A26 := Aside0.mk A260
              clear A260
              (try dsimp only at H)
              obtain ⟨⟨t9774, t9775, t9776⟩, A270, H⟩ := Option.bind_eq_some_iff.mp H
              have A27 := Aside0.mk A270
              clear A270
              (try dsimp only at H)
              by_cases c28 : (t9771 == t9774 && (t9772 == t9775 && (t9773 == t9776))) = true
              · rw [if_pos c28] at H
                have c28b0 : (t9771 == t9774 && (t9772 == t9775 && (t9773 == t9776))) = true := c28
                (try (have c28b1 : decide (t9771 = t9774 && (t9772 == t9775 && (t9773 == t9776))) = true := by simpa using c28))
                (try (have c28b2 : (t9771 == t9774 && (t9772 == t9775 && (t9773 == t9776))) = true := by simpa using c28))
                clear c28
                obtain ⟨⟨t9777, t9778, t9779, t9780, t9781, t9782⟩, A290, H⟩ := Option.bind_eq_some_iff.mp H
                have A29 := Aside0.mk A290
                clear A290
                (try dsimp only at H)
                by_cases c30 : t9777 = true
                · subst c30
                  rw [if_pos rfl] at H
                  obtain ⟨⟨t9783, t9784, t9785⟩, A310, H⟩ := Option.bind_eq_some_iff.mp H
                  have A31 := Aside0.mk A310
                  clear A310
                  (try dsimp only at H)
                  obtain ⟨⟨t9786, t9787, t9788⟩, A320, H⟩ := Option.bind_eq_some_iff.mp H
                  have A32 := Aside0.mk A320
                  clear A320
                  (try dsimp only at H)
                  obtain ⟨⟨t9789, t9790, t9791, t9792, t9793, t9794⟩, A330, H⟩ := Option.bind_eq_some_iff.mp H
                  have A33 := Aside0.mk A330
                  clear A330
                  (try dsimp only at H)
                  obtain ⟨⟨t9795, t9796, t9797⟩, A340, H⟩ := Option.bind_eq_some_iff.mp H
                  have A34 := Aside0.mk A340
                  clear A340
                  (try dsimp only at H)
                  by_cases c35 : (t9789 == t9795 && (t9790 == t9796 && (t9791 == t9797))) = true
                  · rw [if_pos c35] at H
                    have c35b0 : (t9789 == t9795 && (t9790 == t9796 && (t9791 == t9797))) = true := c35
                    (try (have c35b1 : decide (t9789 = t9795 && (t9790 == t9796 && (t9791 == t9797))) = true := by simpa using c35))
                    (try (have c35b2 : (t9789 == t9795 && (t9790 == t9796 && (t9791 == t9797))) = true := by simpa using c35))
                    clear c35
                    obtain ⟨⟨t9798, t9799, t9800, t9801, t9802, t9803⟩, A360, H⟩ := Option.bind_eq_some_iff.mp H
                    have A36 := Aside0.mk A360
                    clear A360
                    (try dsimp only at H)
                    obtain rfl := Option.some.inj H
                    go_enter Try.func13, Try.ntmps13
                    try go_wp2_with (first | ((with_reducible refine gate_callee (f := 35) rfl ?_); refine kc (some 5) Try.func35 #[.int .i64 0] (ints_Point.calls 0 t9701 t9702 t9703 _ A1.out) ?_; intro w37 hb; replace HB := kh HB hb; (try clear hb)) | ((with_reducible refine gate_callee (f := 35) rfl ?_); refine kc (some 6) Try.func35 #[.int .i64 0] (ints_Point.calls 0 t9704 t9705 t9706 _ A2.out) ?_; intro w38 hb; replace HB := kh HB hb; (try clear hb)) | ((with_reducible refine gate_callee (f := 15) rfl ?_); refine kc (some 7) Try.func15 #[.agg #[.bool t9701, .int .i64 t9702, .int .i64 t9703], .agg #[.bool t9704, .int .i64 t9705, .int .i64 t9706]] (clock_Of.calls k t9701 t9702 t9703 t9704 t9705 t9706 t9707 t9708 t9709 t9710 t9711 t9712 _ A3.out) ?_; intro w39 hb; replace HB := kh HB hb; (try clear hb)) | ((with_reducible refine gate_dst (N := 1) rfl ?_); refine kx 1 #[.bool false, .int .i64 0, .int .i64 0, .bool false, .int .i64 0, .int .i64 0] 25 ?_; intro gb9713 hg w40 hbox hb; have BK9713 := Aside0.mk (hbox); have GW9713 := kg HB hg; have GE9713 := kg HB hg; replace HB := kh HB hb; clear hb hbox hg; have ⟨hcz41_0, hcz41_1, hcz41_2, hcz41_3, hcz41_4, hcz41_5, hfz41_0, hfz41_1, hfz41_2, hfz41_3, hfz41_4, hfz41_5⟩ := kz6f BK9713))
                    generalize hW_ : ((((((w40.setCell ⟨gb9713, 0, none⟩ (.bool t9707)).setCell ⟨gb9713, 1, none⟩ (.int .i64 t9708)).setCell ⟨gb9713, 2, none⟩ (.int .i64 t9709)).setCell ⟨gb9713, 3, none⟩ (.bool t9710)).setCell ⟨gb9713, 4, none⟩ (.int .i64 t9711)).setCell ⟨gb9713, 5, none⟩ (.int .i64 t9712)) = w42
                    replace BK9713 := kr (o' := .cells #[.bool t9707, .int .i64 t9708, .int .i64 t9709, .bool t9710, .int .i64 t9711, .int .i64 t9712] 25 (0, 0)) BK9713 hW_
                    replace HB := kq HB hW_
                    clear hW_
                    replace BK9713 := Aside0.mk (blk_drew BK9713.out)
                    replace HB := Aside0.mk (below_drew1 HB.out)
                    refine start_ (n := 6) (S := fun w' => w'.cell? ⟨gb9713, 0, none⟩ = some (.bool t9707) ∧ w'.cell? ⟨gb9713, 1, none⟩ = some (.int .i64 t9708) ∧ w'.cell? ⟨gb9713, 2, none⟩ = some (.int .i64 t9709) ∧ w'.cell? ⟨gb9713, 3, none⟩ = some (.bool t9710) ∧ w'.cell? ⟨gb9713, 4, none⟩ = some (.int .i64 t9711) ∧ w'.cell? ⟨gb9713, 5, none⟩ = some (.int .i64 t9712)) (ds := []) #[false, false, false, false, false, false] (by kernel_rfl) rfl rfl ⟨bc BK9713 0, bc BK9713 1, bc BK9713 2, bc BK9713 3, bc BK9713 4, bc BK9713 5⟩ (fun hHeld => ?_)
                    generalize w42.drew = w43 at BK9713 HB hHeld ⊢
                    refine tak 0 (some 8) #[true, false, false, false, false, false] (by kernel_rfl) hHeld ?_
                    refine join_ (σ := Nat) 1 #[true, true, true, true, true, false] (fun s_ => [(9, .agg #[.bool t9714, .int .i64 t9715, .int .i64 t9716]), (10, .agg #[.bool t9717, .int .i64 t9718, .int .i64 t9719, .bool t9720, .int .i64 t9721, .int .i64 t9722]), (11, .agg #[.bool t9723, .int .i64 t9724, .int .i64 t9725, .bool t9726, .int .i64 t9727, .int .i64 t9728]), (2, .pointer (some ⟨s_, 0, none⟩))]) (fun s_ w' => (w'.cell? ⟨gb9713, 0, none⟩ = some (.bool t9707) ∧ w'.cell? ⟨gb9713, 1, none⟩ = some (.int .i64 t9708) ∧ w'.cell? ⟨gb9713, 2, none⟩ = some (.int .i64 t9709) ∧ w'.cell? ⟨gb9713, 3, none⟩ = some (.bool t9710) ∧ w'.cell? ⟨gb9713, 4, none⟩ = some (.int .i64 t9711) ∧ w'.cell? ⟨gb9713, 5, none⟩ = some (.int .i64 t9712)) ∧ (w'.heap[gb9713]? = some (.cells #[.bool t9707, .int .i64 t9708, .int .i64 t9709, .bool t9710, .int .i64 t9711, .int .i64 t9712] 25 (0, 0))) ∧ (w'.heap[s_]? = some (.cells #[.bool false, .int .i64 0, .int .i64 0, .bool false, .int .i64 0, .int .i64 0] 25 (0, 0))) ∧ (w.heap.size ≤ s_) ∧ (w.heap.size ≤ s_) ∧ (gb9713 ≠ s_) ∧ (s_ ≠ gb9713) ∧ (Below w.heap.size w w')) ?_ ?_
                    rotate_left
                    · intro hCont
                      refine two_ (i := 1) (j := 4) (Ni := some 9) (Nj := some 2) #[true, true, false, false, false, false] #[true, false, false, false, true, false] rfl rfl rfl rfl (by kernel_rfl) (by decide) (by decide) (fun K hK => ?_) (fun K hK => ?_)
                      · skip
                        refine gc Try.func35 #[.int .i64 1] (ints_Point.calls 1 t9714 t9715 t9716 _ A4.out) ?_
                        intro w44 hb
                        replace BK9713 := kb BK9713 hb
                        replace HB := kh HB hb
                        (try clear hb)
                        refine hK.out _ _ ⟨bc BK9713 0, bc BK9713 1, bc BK9713 2, bc BK9713 3, bc BK9713 4, bc BK9713 5⟩ (fun hHeld => ?_)
                        clear hK K
                        refine nrm (some 9) ?_
                        refine two_ (i := 2) (j := 4) (Ni := some 10) (Nj := some 2) #[true, true, true, false, false, false] #[true, true, false, false, true, false] rfl rfl rfl rfl (by kernel_rfl) (by decide) (by decide) (fun K hK => ?_) (fun K hK => ?_)
                        · skip
                          refine gc Try.func17 #[.agg #[.bool t9707, .int .i64 t9708, .int .i64 t9709, .bool t9710, .int .i64 t9711, .int .i64 t9712], .agg #[.bool t9714, .int .i64 t9715, .int .i64 t9716]] (clock_Move.calls k t9707 t9708 t9709 t9710 t9711 t9712 t9714 t9715 t9716 t9717 t9718 t9719 t9720 t9721 t9722 _ A5.out) ?_
                          intro w45 hb
                          replace BK9713 := kb BK9713 hb
                          replace HB := kh HB hb
                          (try clear hb)
                          refine hK.out _ _ ⟨bc BK9713 0, bc BK9713 1, bc BK9713 2, bc BK9713 3, bc BK9713 4, bc BK9713 5⟩ (fun hHeld => ?_)
                          clear hK K
                          refine nrm (some 10) ?_
                          refine two_ (i := 3) (j := 4) (Ni := some 11) (Nj := some 2) #[true, true, true, true, false, false] #[true, true, true, false, true, false] rfl rfl rfl rfl (by kernel_rfl) (by decide) (by decide) (fun K hK => ?_) (fun K hK => ?_)
                          · skip
                            refine gc Try.func20 #[.agg #[.bool t9717, .int .i64 t9718, .int .i64 t9719, .bool t9720, .int .i64 t9721, .int .i64 t9722]] (clock_Tick.calls k t9717 t9718 t9719 t9720 t9721 t9722 t9723 t9724 t9725 t9726 t9727 t9728 _ A6.out) ?_
                            intro w46 hb
                            replace BK9713 := kb BK9713 hb
                            replace HB := kh HB hb
                            (try clear hb)
                            refine hK.out _ _ ⟨bc BK9713 0, bc BK9713 1, bc BK9713 2, bc BK9713 3, bc BK9713 4, bc BK9713 5⟩ (fun hHeld => ?_)
                            clear hK K
                            refine nrm (some 11) ?_
                            refine one_ (i := 4) (N := some 2) #[true, true, true, true, true, false] rfl rfl (by kernel_rfl) (by decide) (fun K hK => ?_)
                            refine box_step ?hg (N := 2) ?hd (cs := #[.bool false, .int .i64 0, .int .i64 0, .bool false, .int .i64 0, .int .i64 0]) (t := 25) ?hr ?_; (case hd => rfl); (case hg => rfl); (case hr => first | (go_simp; done) | (go_simp; rfl))
                            intro gb9729 hg w47 hbox hb
                            have BK9729 := Aside0.mk (hbox)
                            have GW9729 := kg HB hg
                            have GE9729 := kg HB hg
                            have NB9713_9729 := kn BK9713 hg
                            have NB9729_9713 := km BK9713 hg
                            replace BK9713 := kb BK9713 hb
                            replace HB := kh HB hb
                            clear hb hbox hg
                            refine hK.out _ _ ⟨bc BK9713 0, bc BK9713 1, bc BK9713 2, bc BK9713 3, bc BK9713 4, bc BK9713 5⟩ (fun hHeld => ?_)
                            clear hK K
                            refine nrm (some 2) ?_
                            exact norm_ (by simp only [putAll, Act.put, List.setIfInBounds_toArray, List.set_cons_zero, List.set_cons_succ]) (hCont (gb9729) _ ⟨hHeld, (pk BK9713), (pk BK9729), GW9729.out, GE9729.out, NB9713_9729.out, NB9729_9713.out, (pl HB)⟩)
                          · skip
                            refine box_step ?hg (N := 2) ?hd (cs := #[.bool false, .int .i64 0, .int .i64 0, .bool false, .int .i64 0, .int .i64 0]) (t := 25) ?hr ?_; (case hd => rfl); (case hg => rfl); (case hr => first | (go_simp; done) | (go_simp; rfl))
                            intro gb9729 hg w46 hbox hb
                            have BK9729 := Aside0.mk (hbox)
                            have GW9729 := kg HB hg
                            have GE9729 := kg HB hg
                            have NB9713_9729 := kn BK9713 hg
                            have NB9729_9713 := km BK9713 hg
                            replace BK9713 := kb BK9713 hb
                            replace HB := kh HB hb
                            clear hb hbox hg
                            refine hK.out _ _ ⟨bc BK9713 0, bc BK9713 1, bc BK9713 2, bc BK9713 3, bc BK9713 4, bc BK9713 5⟩ (fun hHeld => ?_)
                            clear hK K
                            refine nrm (some 2) ?_
                            refine one_ (i := 3) (N := some 11) #[true, true, true, true, true, false] rfl rfl (by kernel_rfl) (by decide) (fun K hK => ?_)
                            refine gc Try.func20 #[.agg #[.bool t9717, .int .i64 t9718, .int .i64 t9719, .bool t9720, .int .i64 t9721, .int .i64 t9722]] (clock_Tick.calls k t9717 t9718 t9719 t9720 t9721 t9722 t9723 t9724 t9725 t9726 t9727 t9728 _ A6.out) ?_
                            intro w47 hb
                            replace BK9713 := kb BK9713 hb
                            replace BK9729 := kb BK9729 hb
                            replace HB := kh HB hb
                            (try clear hb)
                            refine hK.out _ _ ⟨bc BK9713 0, bc BK9713 1, bc BK9713 2, bc BK9713 3, bc BK9713 4, bc BK9713 5⟩ (fun hHeld => ?_)
                            clear hK K
                            refine nrm (some 11) ?_
                            exact norm_ (by simp only [putAll, Act.put, List.setIfInBounds_toArray, List.set_cons_zero, List.set_cons_succ]) (hCont (gb9729) _ ⟨hHeld, (pk BK9713), (pk BK9729), GW9729.out, GE9729.out, NB9713_9729.out, NB9729_9713.out, (pl HB)⟩)
                        · skip
                          refine box_step ?hg (N := 2) ?hd (cs := #[.bool false, .int .i64 0, .int .i64 0, .bool false, .int .i64 0, .int .i64 0]) (t := 25) ?hr ?_; (case hd => rfl); (case hg => rfl); (case hr => first | (go_simp; done) | (go_simp; rfl))
                          intro gb9729 hg w45 hbox hb
                          have BK9729 := Aside0.mk (hbox)
                          have GW9729 := kg HB hg
                          have GE9729 := kg HB hg
                          have NB9713_9729 := kn BK9713 hg
                          have NB9729_9713 := km BK9713 hg
                          replace BK9713 := kb BK9713 hb
                          replace HB := kh HB hb
                          clear hb hbox hg
                          refine hK.out _ _ ⟨bc BK9713 0, bc BK9713 1, bc BK9713 2, bc BK9713 3, bc BK9713 4, bc BK9713 5⟩ (fun hHeld => ?_)
                          clear hK K
                          refine nrm (some 2) ?_
                          refine one_ (i := 2) (N := some 10) #[true, true, true, false, true, false] rfl rfl (by kernel_rfl) (by decide) (fun K hK => ?_)
                          refine gc Try.func17 #[.agg #[.bool t9707, .int .i64 t9708, .int .i64 t9709, .bool t9710, .int .i64 t9711, .int .i64 t9712], .agg #[.bool t9714, .int .i64 t9715, .int .i64 t9716]] (clock_Move.calls k t9707 t9708 t9709 t9710 t9711 t9712 t9714 t9715 t9716 t9717 t9718 t9719 t9720 t9721 t9722 _ A5.out) ?_
                          intro w46 hb
                          replace BK9713 := kb BK9713 hb
                          replace BK9729 := kb BK9729 hb
                          replace HB := kh HB hb
                          (try clear hb)
                          refine hK.out _ _ ⟨bc BK9713 0, bc BK9713 1, bc BK9713 2, bc BK9713 3, bc BK9713 4, bc BK9713 5⟩ (fun hHeld => ?_)
                          clear hK K
                          refine nrm (some 10) ?_
                          refine one_ (i := 3) (N := some 11) #[true, true, true, true, true, false] rfl rfl (by kernel_rfl) (by decide) (fun K hK => ?_)
                          refine gc Try.func20 #[.agg #[.bool t9717, .int .i64 t9718, .int .i64 t9719, .bool t9720, .int .i64 t9721, .int .i64 t9722]] (clock_Tick.calls k t9717 t9718 t9719 t9720 t9721 t9722 t9723 t9724 t9725 t9726 t9727 t9728 _ A6.out) ?_
                          intro w47 hb
                          replace BK9713 := kb BK9713 hb
                          replace BK9729 := kb BK9729 hb
                          replace HB := kh HB hb
                          (try clear hb)
                          refine hK.out _ _ ⟨bc BK9713 0, bc BK9713 1, bc BK9713 2, bc BK9713 3, bc BK9713 4, bc BK9713 5⟩ (fun hHeld => ?_)
                          clear hK K
                          refine nrm (some 11) ?_
                          exact norm_ (by simp only [putAll, Act.put, List.setIfInBounds_toArray, List.set_cons_zero, List.set_cons_succ]) (hCont (gb9729) _ ⟨hHeld, (pk BK9713), (pk BK9729), GW9729.out, GE9729.out, NB9713_9729.out, NB9729_9713.out, (pl HB)⟩)
                      · skip
                        refine box_step ?hg (N := 2) ?hd (cs := #[.bool false, .int .i64 0, .int .i64 0, .bool false, .int .i64 0, .int .i64 0]) (t := 25) ?hr ?_; (case hd => rfl); (case hg => rfl); (case hr => first | (go_simp; done) | (go_simp; rfl))
                        intro gb9729 hg w44 hbox hb
                        have BK9729 := Aside0.mk (hbox)
                        have GW9729 := kg HB hg
                        have GE9729 := kg HB hg
                        have NB9713_9729 := kn BK9713 hg
                        have NB9729_9713 := km BK9713 hg
                        replace BK9713 := kb BK9713 hb
                        replace HB := kh HB hb
                        clear hb hbox hg
                        refine hK.out _ _ ⟨bc BK9713 0, bc BK9713 1, bc BK9713 2, bc BK9713 3, bc BK9713 4, bc BK9713 5⟩ (fun hHeld => ?_)
                        clear hK K
                        refine nrm (some 2) ?_
                        refine one_ (i := 1) (N := some 9) #[true, true, false, false, true, false] rfl rfl (by kernel_rfl) (by decide) (fun K hK => ?_)
                        refine gc Try.func35 #[.int .i64 1] (ints_Point.calls 1 t9714 t9715 t9716 _ A4.out) ?_
                        intro w45 hb
                        replace BK9713 := kb BK9713 hb
                        replace BK9729 := kb BK9729 hb
                        replace HB := kh HB hb
                        (try clear hb)
                        refine hK.out _ _ ⟨bc BK9713 0, bc BK9713 1, bc BK9713 2, bc BK9713 3, bc BK9713 4, bc BK9713 5⟩ (fun hHeld => ?_)
                        clear hK K
                        refine nrm (some 9) ?_
                        refine one_ (i := 2) (N := some 10) #[true, true, true, false, true, false] rfl rfl (by kernel_rfl) (by decide) (fun K hK => ?_)
                        refine gc Try.func17 #[.agg #[.bool t9707, .int .i64 t9708, .int .i64 t9709, .bool t9710, .int .i64 t9711, .int .i64 t9712], .agg #[.bool t9714, .int .i64 t9715, .int .i64 t9716]] (clock_Move.calls k t9707 t9708 t9709 t9710 t9711 t9712 t9714 t9715 t9716 t9717 t9718 t9719 t9720 t9721 t9722 _ A5.out) ?_
                        intro w46 hb
                        replace BK9713 := kb BK9713 hb
                        replace BK9729 := kb BK9729 hb
                        replace HB := kh HB hb
                        (try clear hb)
                        refine hK.out _ _ ⟨bc BK9713 0, bc BK9713 1, bc BK9713 2, bc BK9713 3, bc BK9713 4, bc BK9713 5⟩ (fun hHeld => ?_)
                        clear hK K
                        refine nrm (some 10) ?_
                        refine one_ (i := 3) (N := some 11) #[true, true, true, true, true, false] rfl rfl (by kernel_rfl) (by decide) (fun K hK => ?_)
                        refine gc Try.func20 #[.agg #[.bool t9717, .int .i64 t9718, .int .i64 t9719, .bool t9720, .int .i64 t9721, .int .i64 t9722]] (clock_Tick.calls k t9717 t9718 t9719 t9720 t9721 t9722 t9723 t9724 t9725 t9726 t9727 t9728 _ A6.out) ?_
                        intro w47 hb
                        replace BK9713 := kb BK9713 hb
                        replace BK9729 := kb BK9729 hb
                        replace HB := kh HB hb
                        (try clear hb)
                        refine hK.out _ _ ⟨bc BK9713 0, bc BK9713 1, bc BK9713 2, bc BK9713 3, bc BK9713 4, bc BK9713 5⟩ (fun hHeld => ?_)
                        clear hK K
                        refine nrm (some 11) ?_
                        exact norm_ (by simp only [putAll, Act.put, List.setIfInBounds_toArray, List.set_cons_zero, List.set_cons_succ]) (hCont (gb9729) _ ⟨hHeld, (pk BK9713), (pk BK9729), GW9729.out, GE9729.out, NB9713_9729.out, NB9729_9713.out, (pl HB)⟩)
                    rintro gb9729 w48 ⟨hS_, h0_, h1_, h2_, h3_, h4_, h5_, h6_⟩
                    have n0_ : Aside0 (w48.heap[gb9713]? = some (.cells #[.bool t9707, .int .i64 t9708, .int .i64 t9709, .bool t9710, .int .i64 t9711, .int .i64 t9712] 25 (0, 0))) := ⟨h0_⟩
                    have n1_ : Aside0 (w48.heap[gb9729]? = some (.cells #[.bool false, .int .i64 0, .int .i64 0, .bool false, .int .i64 0, .int .i64 0] 25 (0, 0))) := ⟨h1_⟩
                    have n2_ : Aside0 (w.heap.size ≤ gb9729) := ⟨h2_⟩
                    have n3_ : Aside0 (w.heap.size ≤ gb9729) := ⟨h3_⟩
                    have n4_ : Aside0 (gb9713 ≠ gb9729) := ⟨h4_⟩
                    have n5_ : Aside0 (gb9729 ≠ gb9713) := ⟨h5_⟩
                    have n6_ : Aside0 (Below w.heap.size w w48) := ⟨h6_⟩
                    clear BK9713
                    clear HB
                    clear h0_ h1_ h2_ h3_ h4_ h5_ h6_
                    have BK9713 := n0_
                    have BK9729 := n1_
                    have GW9729 := n2_
                    have GE9729 := n3_
                    have NB9713_9729 := n4_
                    have NB9729_9713 := n5_
                    have HB := n6_
                    clear n0_ n1_ n2_ n3_ n4_ n5_ n6_
                    have hHeld : w48.cell? ⟨gb9713, 0, none⟩ = some (.bool t9707) ∧ w48.cell? ⟨gb9713, 1, none⟩ = some (.int .i64 t9708) ∧ w48.cell? ⟨gb9713, 2, none⟩ = some (.int .i64 t9709) ∧ w48.cell? ⟨gb9713, 3, none⟩ = some (.bool t9710) ∧ w48.cell? ⟨gb9713, 4, none⟩ = some (.int .i64 t9711) ∧ w48.cell? ⟨gb9713, 5, none⟩ = some (.int .i64 t9712) := hS_
                    refine norm_ (a' := ?_) ?_ ?_
                    rotate_left
                    · simp only [putAll, Act.put, List.setIfInBounds_toArray, List.set_cons_zero, List.set_cons_succ]
                      rfl
                    refine one_ (i := 5) (N := none) #[true, true, true, true, true, true] rfl rfl (by kernel_rfl) (by decide) (fun K hK => ?_)
                    have hs49 : w48.cell? ⟨gb9729, 0, none⟩ = some (.bool false) := bc BK9729 0
                    have hfs49 := blk_frozen BK9729.out 0
                    have hns49_0 := NB9713_9729.out
                    have hms49_0 := NB9729_9713.out
                    have hs50 : w48.cell? ⟨gb9729, 1, none⟩ = some (.int .i64 0) := bc BK9729 1
                    have hfs50 := blk_frozen BK9729.out 1
                    have hs51 : w48.cell? ⟨gb9729, 2, none⟩ = some (.int .i64 0) := bc BK9729 2
                    have hfs51 := blk_frozen BK9729.out 2
                    have hs52 : w48.cell? ⟨gb9729, 3, none⟩ = some (.bool false) := bc BK9729 3
                    have hfs52 := blk_frozen BK9729.out 3
                    have hs53 : w48.cell? ⟨gb9729, 4, none⟩ = some (.int .i64 0) := bc BK9729 4
                    have hfs53 := blk_frozen BK9729.out 4
                    have hs54 : w48.cell? ⟨gb9729, 5, none⟩ = some (.int .i64 0) := bc BK9729 5
                    have hfs54 := blk_frozen BK9729.out 5
                    refine skip_ (w1 := ?_) (by rfl) rfl ?_ ?_
                    rotate_left
                    · go_simp
                      rfl
                    refine hK.out _ _ ⟨cf hHeld.1, cf hHeld.2.1, cf hHeld.2.2.1, cf hHeld.2.2.2.1, cf hHeld.2.2.2.2.1, cf hHeld.2.2.2.2.2⟩ (fun hHeld => ?_)
                    clear hK K
                    refine done_ (by kernel_rfl) ?_
                    try go_wp2_with (first | ((with_reducible refine gate_callee (f := 59) rfl ?_); refine kc (some 12) Try.func59 #[] (clock_All.calls  t9730 t9731 t9732 t9733 t9734 t9735 _ A7.out) ?_; intro w55 hb; replace BK9713 := kb BK9713 hb; replace BK9729 := kb (o' := .cells #[.bool t9723, .int .i64 t9724, .int .i64 t9725, .bool t9726, .int .i64 t9727, .int .i64 t9728] 25 (0, 0)) BK9729 hb; replace HB := kh HB hb; (try clear hb)) | ((with_reducible refine gate_dst (N := 3) rfl ?_); refine kx 3 #[.bool false, .int .i64 0, .int .i64 0, .bool false, .int .i64 0, .int .i64 0] 25 ?_; intro gb9736 hg w56 hbox hb; have BK9736 := Aside0.mk (hbox); have GW9736 := kg HB hg; have GE9736 := kg HB hg; have NB9713_9736 := kn BK9713 hg; have NB9736_9713 := km BK9713 hg; have NB9729_9736 := kn BK9729 hg; have NB9736_9729 := km BK9729 hg; replace BK9713 := kb BK9713 hb; replace BK9729 := kb BK9729 hb; replace HB := kh HB hb; clear hb hbox hg; have hnb57 := NB9736_9713.out; have hnc57 := NB9713_9736.out; have hnb58 := NB9736_9729.out; have hnc58 := NB9729_9736.out; have ⟨hcz59_0, hcz59_1, hcz59_2, hcz59_3, hcz59_4, hcz59_5, hfz59_0, hfz59_1, hfz59_2, hfz59_3, hfz59_4, hfz59_5⟩ := kz6f BK9736))
                    generalize hW_ : ((((((w56.setCell ⟨gb9736, 0, none⟩ (.bool t9730)).setCell ⟨gb9736, 1, none⟩ (.int .i64 t9731)).setCell ⟨gb9736, 2, none⟩ (.int .i64 t9732)).setCell ⟨gb9736, 3, none⟩ (.bool t9733)).setCell ⟨gb9736, 4, none⟩ (.int .i64 t9734)).setCell ⟨gb9736, 5, none⟩ (.int .i64 t9735)) = w60
                    replace BK9713 := kr BK9713 hW_
                    replace BK9729 := kr BK9729 hW_
                    replace BK9736 := kr (o' := .cells #[.bool t9730, .int .i64 t9731, .int .i64 t9732, .bool t9733, .int .i64 t9734, .int .i64 t9735] 25 (0, 0)) BK9736 hW_
                    replace HB := kq HB hW_
                    clear hW_
                    replace BK9713 := Aside0.mk (blk_drew BK9713.out)
                    replace BK9729 := Aside0.mk (blk_drew BK9729.out)
                    replace BK9736 := Aside0.mk (blk_drew BK9736.out)
                    replace HB := Aside0.mk (below_drew1 HB.out)
                    refine start_ (n := 9) (S := fun w' => w'.cell? ⟨gb9736, 0, none⟩ = some (.bool t9730) ∧ w'.cell? ⟨gb9736, 1, none⟩ = some (.int .i64 t9731) ∧ w'.cell? ⟨gb9736, 2, none⟩ = some (.int .i64 t9732) ∧ w'.cell? ⟨gb9736, 3, none⟩ = some (.bool t9733) ∧ w'.cell? ⟨gb9736, 4, none⟩ = some (.int .i64 t9734) ∧ w'.cell? ⟨gb9736, 5, none⟩ = some (.int .i64 t9735)) (ds := []) #[false, false, false, false, false, false, false, false, false] (by kernel_rfl) rfl rfl ⟨bc BK9736 0, bc BK9736 1, bc BK9736 2, bc BK9736 3, bc BK9736 4, bc BK9736 5⟩ (fun hHeld => ?_); refine with_tabW flyballlaw21_works.tab4 flyballlaw21_works.bits4 (fun HT_ HW_ => ?_)
                    generalize w60.drew = w61 at BK9713 BK9729 BK9736 HB hHeld ⊢
                    refine pur 2 (some 15) #[false, false, true, false, false, false, false, false, false] (any_of HT_.out (by kernel_rfl)) ?_
                    refine tak 3 (some 16) #[false, false, true, true, false, false, false, false, false] (take_ofW HT_.out HW_.out (by kernel_rfl)) hHeld ?_
                    refine join_ (σ := Nat) 1 #[true, true, true, true, true, true, true, true, false] (fun s_ => [(13, .agg #[.bool t9737, .int .i64 t9738, .int .i64 t9739]), (14, .agg #[.bool t9740, .int .i64 t9741, .int .i64 t9742]), (18, .agg #[.bool t9743, .int .i64 t9744, .int .i64 t9745]), (19, .agg #[.bool t9746, .int .i64 t9747, .int .i64 t9748]), (4, .pointer (some ⟨s_, 0, none⟩)), (17, .agg #[.bool t9740, .int .i64 t9741, .int .i64 t9742, .bool t9733, .int .i64 t9734, .int .i64 t9735])]) (fun s_ w' => (w'.cell? ⟨gb9736, 0, none⟩ = some (.bool t9730) ∧ w'.cell? ⟨gb9736, 1, none⟩ = some (.int .i64 t9731) ∧ w'.cell? ⟨gb9736, 2, none⟩ = some (.int .i64 t9732) ∧ w'.cell? ⟨gb9736, 3, none⟩ = some (.bool t9733) ∧ w'.cell? ⟨gb9736, 4, none⟩ = some (.int .i64 t9734) ∧ w'.cell? ⟨gb9736, 5, none⟩ = some (.int .i64 t9735)) ∧ (w'.heap[gb9713]? = some (.cells #[.bool t9707, .int .i64 t9708, .int .i64 t9709, .bool t9710, .int .i64 t9711, .int .i64 t9712] 25 (0, 0))) ∧ (w'.heap[gb9729]? = some (.cells #[.bool t9723, .int .i64 t9724, .int .i64 t9725, .bool t9726, .int .i64 t9727, .int .i64 t9728] 25 (0, 0))) ∧ (w'.heap[gb9736]? = some (.cells #[.bool t9730, .int .i64 t9731, .int .i64 t9732, .bool t9733, .int .i64 t9734, .int .i64 t9735] 25 (0, 0))) ∧ (w'.heap[s_]? = some (.cells #[.bool false, .int .i64 0, .int .i64 0] 23 (0, 0))) ∧ (w.heap.size ≤ s_) ∧ (w.heap.size ≤ s_) ∧ (gb9713 ≠ s_) ∧ (s_ ≠ gb9713) ∧ (gb9729 ≠ s_) ∧ (s_ ≠ gb9729) ∧ (gb9736 ≠ s_) ∧ (s_ ≠ gb9736) ∧ (Below w.heap.size w w')) ?_ ?_
                    rotate_left
                    · intro hJ0_1_5_6_7
                      refine join_ (σ := Unit) 2 #[true, true, true, true, true, true, true, false, false] (fun s_ => [(13, .agg #[.bool t9737, .int .i64 t9738, .int .i64 t9739]), (14, .agg #[.bool t9740, .int .i64 t9741, .int .i64 t9742]), (18, .agg #[.bool t9743, .int .i64 t9744, .int .i64 t9745]), (19, .agg #[.bool t9746, .int .i64 t9747, .int .i64 t9748]), (17, .agg #[.bool t9740, .int .i64 t9741, .int .i64 t9742, .bool t9733, .int .i64 t9734, .int .i64 t9735])]) (fun s_ w' => (w'.cell? ⟨gb9736, 0, none⟩ = some (.bool t9730) ∧ w'.cell? ⟨gb9736, 1, none⟩ = some (.int .i64 t9731) ∧ w'.cell? ⟨gb9736, 2, none⟩ = some (.int .i64 t9732) ∧ w'.cell? ⟨gb9736, 3, none⟩ = some (.bool t9733) ∧ w'.cell? ⟨gb9736, 4, none⟩ = some (.int .i64 t9734) ∧ w'.cell? ⟨gb9736, 5, none⟩ = some (.int .i64 t9735)) ∧ (w'.heap[gb9713]? = some (.cells #[.bool t9707, .int .i64 t9708, .int .i64 t9709, .bool t9710, .int .i64 t9711, .int .i64 t9712] 25 (0, 0))) ∧ (w'.heap[gb9729]? = some (.cells #[.bool t9723, .int .i64 t9724, .int .i64 t9725, .bool t9726, .int .i64 t9727, .int .i64 t9728] 25 (0, 0))) ∧ (w'.heap[gb9736]? = some (.cells #[.bool t9730, .int .i64 t9731, .int .i64 t9732, .bool t9733, .int .i64 t9734, .int .i64 t9735] 25 (0, 0))) ∧ (Below w.heap.size w w')) ?_ ?_
                      rotate_left
                      · intro hJ0_1_5_6
                        refine join_ (σ := Nat) 2 #[true, true, true, true, true, true, false, true, false] (fun s_ => [(13, .agg #[.bool t9737, .int .i64 t9738, .int .i64 t9739]), (14, .agg #[.bool t9740, .int .i64 t9741, .int .i64 t9742]), (18, .agg #[.bool t9743, .int .i64 t9744, .int .i64 t9745]), (4, .pointer (some ⟨s_, 0, none⟩)), (17, .agg #[.bool t9740, .int .i64 t9741, .int .i64 t9742, .bool t9733, .int .i64 t9734, .int .i64 t9735])]) (fun s_ w' => (w'.cell? ⟨gb9736, 0, none⟩ = some (.bool t9730) ∧ w'.cell? ⟨gb9736, 1, none⟩ = some (.int .i64 t9731) ∧ w'.cell? ⟨gb9736, 2, none⟩ = some (.int .i64 t9732) ∧ w'.cell? ⟨gb9736, 3, none⟩ = some (.bool t9733) ∧ w'.cell? ⟨gb9736, 4, none⟩ = some (.int .i64 t9734) ∧ w'.cell? ⟨gb9736, 5, none⟩ = some (.int .i64 t9735)) ∧ (w'.heap[gb9713]? = some (.cells #[.bool t9707, .int .i64 t9708, .int .i64 t9709, .bool t9710, .int .i64 t9711, .int .i64 t9712] 25 (0, 0))) ∧ (w'.heap[gb9729]? = some (.cells #[.bool t9723, .int .i64 t9724, .int .i64 t9725, .bool t9726, .int .i64 t9727, .int .i64 t9728] 25 (0, 0))) ∧ (w'.heap[gb9736]? = some (.cells #[.bool t9730, .int .i64 t9731, .int .i64 t9732, .bool t9733, .int .i64 t9734, .int .i64 t9735] 25 (0, 0))) ∧ (w'.heap[s_]? = some (.cells #[.bool false, .int .i64 0, .int .i64 0] 23 (0, 0))) ∧ (w.heap.size ≤ s_) ∧ (w.heap.size ≤ s_) ∧ (gb9713 ≠ s_) ∧ (s_ ≠ gb9713) ∧ (gb9729 ≠ s_) ∧ (s_ ≠ gb9729) ∧ (gb9736 ≠ s_) ∧ (s_ ≠ gb9736) ∧ (Below w.heap.size w w')) ?_ ?_
                        rotate_left
                        · intro hJ0_1_5_7
                          refine join_ (σ := Unit) 3 #[true, true, true, true, true, true, false, false, false] (fun s_ => [(13, .agg #[.bool t9737, .int .i64 t9738, .int .i64 t9739]), (14, .agg #[.bool t9740, .int .i64 t9741, .int .i64 t9742]), (18, .agg #[.bool t9743, .int .i64 t9744, .int .i64 t9745]), (17, .agg #[.bool t9740, .int .i64 t9741, .int .i64 t9742, .bool t9733, .int .i64 t9734, .int .i64 t9735])]) (fun s_ w' => (w'.cell? ⟨gb9736, 0, none⟩ = some (.bool t9730) ∧ w'.cell? ⟨gb9736, 1, none⟩ = some (.int .i64 t9731) ∧ w'.cell? ⟨gb9736, 2, none⟩ = some (.int .i64 t9732) ∧ w'.cell? ⟨gb9736, 3, none⟩ = some (.bool t9733) ∧ w'.cell? ⟨gb9736, 4, none⟩ = some (.int .i64 t9734) ∧ w'.cell? ⟨gb9736, 5, none⟩ = some (.int .i64 t9735)) ∧ (w'.heap[gb9713]? = some (.cells #[.bool t9707, .int .i64 t9708, .int .i64 t9709, .bool t9710, .int .i64 t9711, .int .i64 t9712] 25 (0, 0))) ∧ (w'.heap[gb9729]? = some (.cells #[.bool t9723, .int .i64 t9724, .int .i64 t9725, .bool t9726, .int .i64 t9727, .int .i64 t9728] 25 (0, 0))) ∧ (w'.heap[gb9736]? = some (.cells #[.bool t9730, .int .i64 t9731, .int .i64 t9732, .bool t9733, .int .i64 t9734, .int .i64 t9735] 25 (0, 0))) ∧ (Below w.heap.size w w')) ?_ ?_
                          rotate_left
                          · intro hJ0_1_5
                            refine join_ (σ := Nat) 3 #[true, true, true, true, true, false, false, true, false] (fun s_ => [(13, .agg #[.bool t9737, .int .i64 t9738, .int .i64 t9739]), (14, .agg #[.bool t9740, .int .i64 t9741, .int .i64 t9742]), (4, .pointer (some ⟨s_, 0, none⟩)), (17, .agg #[.bool t9740, .int .i64 t9741, .int .i64 t9742, .bool t9733, .int .i64 t9734, .int .i64 t9735])]) (fun s_ w' => (w'.cell? ⟨gb9736, 0, none⟩ = some (.bool t9730) ∧ w'.cell? ⟨gb9736, 1, none⟩ = some (.int .i64 t9731) ∧ w'.cell? ⟨gb9736, 2, none⟩ = some (.int .i64 t9732) ∧ w'.cell? ⟨gb9736, 3, none⟩ = some (.bool t9733) ∧ w'.cell? ⟨gb9736, 4, none⟩ = some (.int .i64 t9734) ∧ w'.cell? ⟨gb9736, 5, none⟩ = some (.int .i64 t9735)) ∧ (w'.heap[gb9713]? = some (.cells #[.bool t9707, .int .i64 t9708, .int .i64 t9709, .bool t9710, .int .i64 t9711, .int .i64 t9712] 25 (0, 0))) ∧ (w'.heap[gb9729]? = some (.cells #[.bool t9723, .int .i64 t9724, .int .i64 t9725, .bool t9726, .int .i64 t9727, .int .i64 t9728] 25 (0, 0))) ∧ (w'.heap[gb9736]? = some (.cells #[.bool t9730, .int .i64 t9731, .int .i64 t9732, .bool t9733, .int .i64 t9734, .int .i64 t9735] 25 (0, 0))) ∧ (w'.heap[s_]? = some (.cells #[.bool false, .int .i64 0, .int .i64 0] 23 (0, 0))) ∧ (w.heap.size ≤ s_) ∧ (w.heap.size ≤ s_) ∧ (gb9713 ≠ s_) ∧ (s_ ≠ gb9713) ∧ (gb9729 ≠ s_) ∧ (s_ ≠ gb9729) ∧ (gb9736 ≠ s_) ∧ (s_ ≠ gb9736) ∧ (Below w.heap.size w w')) ?_ ?_
                            rotate_left
                            · intro hJ0_1_7
                              refine join_ (σ := Unit) 4 #[true, true, true, true, true, false, false, false, false] (fun s_ => [(13, .agg #[.bool t9737, .int .i64 t9738, .int .i64 t9739]), (14, .agg #[.bool t9740, .int .i64 t9741, .int .i64 t9742]), (17, .agg #[.bool t9740, .int .i64 t9741, .int .i64 t9742, .bool t9733, .int .i64 t9734, .int .i64 t9735])]) (fun s_ w' => (w'.cell? ⟨gb9736, 0, none⟩ = some (.bool t9730) ∧ w'.cell? ⟨gb9736, 1, none⟩ = some (.int .i64 t9731) ∧ w'.cell? ⟨gb9736, 2, none⟩ = some (.int .i64 t9732) ∧ w'.cell? ⟨gb9736, 3, none⟩ = some (.bool t9733) ∧ w'.cell? ⟨gb9736, 4, none⟩ = some (.int .i64 t9734) ∧ w'.cell? ⟨gb9736, 5, none⟩ = some (.int .i64 t9735)) ∧ (w'.heap[gb9713]? = some (.cells #[.bool t9707, .int .i64 t9708, .int .i64 t9709, .bool t9710, .int .i64 t9711, .int .i64 t9712] 25 (0, 0))) ∧ (w'.heap[gb9729]? = some (.cells #[.bool t9723, .int .i64 t9724, .int .i64 t9725, .bool t9726, .int .i64 t9727, .int .i64 t9728] 25 (0, 0))) ∧ (w'.heap[gb9736]? = some (.cells #[.bool t9730, .int .i64 t9731, .int .i64 t9732, .bool t9733, .int .i64 t9734, .int .i64 t9735] 25 (0, 0))) ∧ (Below w.heap.size w w')) ?_ ?_
                              rotate_left
                              · intro hJ0_1
                                refine join_ (σ := Nat) 5 #[true, false, true, true, false, false, false, true, false] (fun s_ => [(13, .agg #[.bool t9737, .int .i64 t9738, .int .i64 t9739]), (4, .pointer (some ⟨s_, 0, none⟩))]) (fun s_ w' => (w'.cell? ⟨gb9736, 0, none⟩ = some (.bool t9730) ∧ w'.cell? ⟨gb9736, 1, none⟩ = some (.int .i64 t9731) ∧ w'.cell? ⟨gb9736, 2, none⟩ = some (.int .i64 t9732) ∧ w'.cell? ⟨gb9736, 3, none⟩ = some (.bool t9733) ∧ w'.cell? ⟨gb9736, 4, none⟩ = some (.int .i64 t9734) ∧ w'.cell? ⟨gb9736, 5, none⟩ = some (.int .i64 t9735)) ∧ (w'.heap[gb9713]? = some (.cells #[.bool t9707, .int .i64 t9708, .int .i64 t9709, .bool t9710, .int .i64 t9711, .int .i64 t9712] 25 (0, 0))) ∧ (w'.heap[gb9729]? = some (.cells #[.bool t9723, .int .i64 t9724, .int .i64 t9725, .bool t9726, .int .i64 t9727, .int .i64 t9728] 25 (0, 0))) ∧ (w'.heap[gb9736]? = some (.cells #[.bool t9730, .int .i64 t9731, .int .i64 t9732, .bool t9733, .int .i64 t9734, .int .i64 t9735] 25 (0, 0))) ∧ (w'.heap[s_]? = some (.cells #[.bool false, .int .i64 0, .int .i64 0] 23 (0, 0))) ∧ (w.heap.size ≤ s_) ∧ (w.heap.size ≤ s_) ∧ (gb9713 ≠ s_) ∧ (s_ ≠ gb9713) ∧ (gb9729 ≠ s_) ∧ (s_ ≠ gb9729) ∧ (gb9736 ≠ s_) ∧ (s_ ≠ gb9736) ∧ (Below w.heap.size w w')) ?_ ?_
                                rotate_left
                                · intro hJ0_7
                                  refine join_ (σ := Unit) 6 #[true, false, true, true, false, false, false, false, false] (fun s_ => [(13, .agg #[.bool t9737, .int .i64 t9738, .int .i64 t9739])]) (fun s_ w' => (w'.cell? ⟨gb9736, 0, none⟩ = some (.bool t9730) ∧ w'.cell? ⟨gb9736, 1, none⟩ = some (.int .i64 t9731) ∧ w'.cell? ⟨gb9736, 2, none⟩ = some (.int .i64 t9732) ∧ w'.cell? ⟨gb9736, 3, none⟩ = some (.bool t9733) ∧ w'.cell? ⟨gb9736, 4, none⟩ = some (.int .i64 t9734) ∧ w'.cell? ⟨gb9736, 5, none⟩ = some (.int .i64 t9735)) ∧ (w'.heap[gb9713]? = some (.cells #[.bool t9707, .int .i64 t9708, .int .i64 t9709, .bool t9710, .int .i64 t9711, .int .i64 t9712] 25 (0, 0))) ∧ (w'.heap[gb9729]? = some (.cells #[.bool t9723, .int .i64 t9724, .int .i64 t9725, .bool t9726, .int .i64 t9727, .int .i64 t9728] 25 (0, 0))) ∧ (w'.heap[gb9736]? = some (.cells #[.bool t9730, .int .i64 t9731, .int .i64 t9732, .bool t9733, .int .i64 t9734, .int .i64 t9735] 25 (0, 0))) ∧ (Below w.heap.size w w')) ?_ ?_
                                  rotate_left
                                  · intro hJ0
                                    refine join_ (σ := Nat) 6 #[false, false, true, true, false, false, false, true, false] (fun s_ => [(4, .pointer (some ⟨s_, 0, none⟩))]) (fun s_ w' => (w'.cell? ⟨gb9736, 0, none⟩ = some (.bool t9730) ∧ w'.cell? ⟨gb9736, 1, none⟩ = some (.int .i64 t9731) ∧ w'.cell? ⟨gb9736, 2, none⟩ = some (.int .i64 t9732) ∧ w'.cell? ⟨gb9736, 3, none⟩ = some (.bool t9733) ∧ w'.cell? ⟨gb9736, 4, none⟩ = some (.int .i64 t9734) ∧ w'.cell? ⟨gb9736, 5, none⟩ = some (.int .i64 t9735)) ∧ (w'.heap[gb9713]? = some (.cells #[.bool t9707, .int .i64 t9708, .int .i64 t9709, .bool t9710, .int .i64 t9711, .int .i64 t9712] 25 (0, 0))) ∧ (w'.heap[gb9729]? = some (.cells #[.bool t9723, .int .i64 t9724, .int .i64 t9725, .bool t9726, .int .i64 t9727, .int .i64 t9728] 25 (0, 0))) ∧ (w'.heap[gb9736]? = some (.cells #[.bool t9730, .int .i64 t9731, .int .i64 t9732, .bool t9733, .int .i64 t9734, .int .i64 t9735] 25 (0, 0))) ∧ (w'.heap[s_]? = some (.cells #[.bool false, .int .i64 0, .int .i64 0] 23 (0, 0))) ∧ (w.heap.size ≤ s_) ∧ (w.heap.size ≤ s_) ∧ (gb9713 ≠ s_) ∧ (s_ ≠ gb9713) ∧ (gb9729 ≠ s_) ∧ (s_ ≠ gb9729) ∧ (gb9736 ≠ s_) ∧ (s_ ≠ gb9736) ∧ (Below w.heap.size w w')) ?_ ?_
                                    rotate_left
                                    · intro hJ7
                                      refine two_ (i := 0) (j := 7) (Ni := some 13) (Nj := some 4) #[true, false, true, true, false, false, false, false, false] #[false, false, true, true, false, false, false, true, false] rfl rfl rfl rfl (two_of HT_.out (by kernel_rfl)) (by decide) (by decide) (fun K hK => ?_) (fun K hK => ?_)
                                      · skip
                                        refine gc Try.func60 #[] (ints_Full.calls  t9737 t9738 t9739 _ A8.out) ?_
                                        intro w62 hb
                                        replace BK9713 := kb BK9713 hb
                                        replace BK9729 := kb BK9729 hb
                                        replace BK9736 := kb BK9736 hb
                                        replace HB := kh HB hb
                                        (try clear hb)
                                        refine hK.out _ _ ⟨bc BK9736 0, bc BK9736 1, bc BK9736 2, bc BK9736 3, bc BK9736 4, bc BK9736 5⟩ (fun hHeld => ?_)
                                        clear hK K
                                        refine nrm (some 13) ?_
                                        exact norm_ (by first | (simp only [putAll, Act.put, List.setIfInBounds_toArray, List.set_cons_zero, List.set_cons_succ]; done) | (simp only [putAll, Act.put, List.setIfInBounds_toArray, List.set_cons_zero, List.set_cons_succ]; rfl)) (hJ0 () _ ⟨hHeld, (pk BK9713), (pk BK9729), (pk BK9736), (pl HB)⟩)
                                      · skip
                                        refine box_step ?hg (N := 4) ?hd (cs := #[.bool false, .int .i64 0, .int .i64 0]) (t := 23) ?hr ?_; (case hd => rfl); (case hg => rfl); (case hr => first | (go_simp; done) | (go_simp; rfl))
                                        intro gb9749 hg w62 hbox hb
                                        have BK9749 := Aside0.mk (hbox)
                                        have GW9749 := kg HB hg
                                        have GE9749 := kg HB hg
                                        have NB9713_9749 := kn BK9713 hg
                                        have NB9749_9713 := km BK9713 hg
                                        have NB9729_9749 := kn BK9729 hg
                                        have NB9749_9729 := km BK9729 hg
                                        have NB9736_9749 := kn BK9736 hg
                                        have NB9749_9736 := km BK9736 hg
                                        replace BK9713 := kb BK9713 hb
                                        replace BK9729 := kb BK9729 hb
                                        replace BK9736 := kb BK9736 hb
                                        replace HB := kh HB hb
                                        clear hb hbox hg
                                        refine hK.out _ _ ⟨bc BK9736 0, bc BK9736 1, bc BK9736 2, bc BK9736 3, bc BK9736 4, bc BK9736 5⟩ (fun hHeld => ?_)
                                        clear hK K
                                        refine nrm (some 4) ?_
                                        exact norm_ (by first | (simp only [putAll, Act.put, List.setIfInBounds_toArray, List.set_cons_zero, List.set_cons_succ]; done) | (simp only [putAll, Act.put, List.setIfInBounds_toArray, List.set_cons_zero, List.set_cons_succ]; rfl)) (hJ7 (gb9749) _ ⟨hHeld, (pk BK9713), (pk BK9729), (pk BK9736), (pk BK9749), GW9749.out, GE9749.out, NB9713_9749.out, NB9749_9713.out, NB9729_9749.out, NB9749_9729.out, NB9736_9749.out, NB9749_9736.out, (pl HB)⟩)
                                    · skip
                                      rintro gb9749 w63 ⟨hS_, h0_, h1_, h2_, h3_, h4_, h5_, h6_, h7_, h8_, h9_, h10_, h11_, h12_⟩
                                      have n0_ : Aside0 (w63.heap[gb9713]? = some (.cells #[.bool t9707, .int .i64 t9708, .int .i64 t9709, .bool t9710, .int .i64 t9711, .int .i64 t9712] 25 (0, 0))) := ⟨h0_⟩
                                      have n1_ : Aside0 (w63.heap[gb9729]? = some (.cells #[.bool t9723, .int .i64 t9724, .int .i64 t9725, .bool t9726, .int .i64 t9727, .int .i64 t9728] 25 (0, 0))) := ⟨h1_⟩
                                      have n2_ : Aside0 (w63.heap[gb9736]? = some (.cells #[.bool t9730, .int .i64 t9731, .int .i64 t9732, .bool t9733, .int .i64 t9734, .int .i64 t9735] 25 (0, 0))) := ⟨h2_⟩
                                      have n3_ : Aside0 (w63.heap[gb9749]? = some (.cells #[.bool false, .int .i64 0, .int .i64 0] 23 (0, 0))) := ⟨h3_⟩
                                      have n4_ : Aside0 (w.heap.size ≤ gb9749) := ⟨h4_⟩
                                      have n5_ : Aside0 (w.heap.size ≤ gb9749) := ⟨h5_⟩
                                      have n6_ : Aside0 (gb9713 ≠ gb9749) := ⟨h6_⟩
                                      have n7_ : Aside0 (gb9749 ≠ gb9713) := ⟨h7_⟩
                                      have n8_ : Aside0 (gb9729 ≠ gb9749) := ⟨h8_⟩
                                      have n9_ : Aside0 (gb9749 ≠ gb9729) := ⟨h9_⟩
                                      have n10_ : Aside0 (gb9736 ≠ gb9749) := ⟨h10_⟩
                                      have n11_ : Aside0 (gb9749 ≠ gb9736) := ⟨h11_⟩
                                      have n12_ : Aside0 (Below w.heap.size w w63) := ⟨h12_⟩
                                      clear BK9713
                                      clear BK9729
                                      clear BK9736
                                      clear HB
                                      clear h0_ h1_ h2_ h3_ h4_ h5_ h6_ h7_ h8_ h9_ h10_ h11_ h12_
                                      have BK9713 := n0_
                                      have BK9729 := n1_
                                      have BK9736 := n2_
                                      have BK9749 := n3_
                                      have GW9749 := n4_
                                      have GE9749 := n5_
                                      have NB9713_9749 := n6_
                                      have NB9749_9713 := n7_
                                      have NB9729_9749 := n8_
                                      have NB9749_9729 := n9_
                                      have NB9736_9749 := n10_
                                      have NB9749_9736 := n11_
                                      have HB := n12_
                                      clear n0_ n1_ n2_ n3_ n4_ n5_ n6_ n7_ n8_ n9_ n10_ n11_ n12_
                                      have hHeld : w63.cell? ⟨gb9736, 0, none⟩ = some (.bool t9730) ∧ w63.cell? ⟨gb9736, 1, none⟩ = some (.int .i64 t9731) ∧ w63.cell? ⟨gb9736, 2, none⟩ = some (.int .i64 t9732) ∧ w63.cell? ⟨gb9736, 3, none⟩ = some (.bool t9733) ∧ w63.cell? ⟨gb9736, 4, none⟩ = some (.int .i64 t9734) ∧ w63.cell? ⟨gb9736, 5, none⟩ = some (.int .i64 t9735) := hS_
                                      refine norm_ (a' := ?_) ?_ ?_
                                      rotate_left
                                      · simp only [putAll, Act.put, List.setIfInBounds_toArray, List.set_cons_zero, List.set_cons_succ]
                                        rfl
                                      refine one_ (i := 0) (N := some 13) #[true, false, true, true, false, false, false, true, false] rfl rfl (one_of HT_.out (by kernel_rfl)) (by decide) (fun K hK => ?_)
                                      refine gc Try.func60 #[] (ints_Full.calls  t9737 t9738 t9739 _ A8.out) ?_
                                      intro w64 hb
                                      replace BK9713 := kb BK9713 hb
                                      replace BK9729 := kb BK9729 hb
                                      replace BK9736 := kb BK9736 hb
                                      replace BK9749 := kb BK9749 hb
                                      replace HB := kh HB hb
                                      (try clear hb)
                                      refine hK.out _ _ ⟨bc BK9736 0, bc BK9736 1, bc BK9736 2, bc BK9736 3, bc BK9736 4, bc BK9736 5⟩ (fun hHeld => ?_)
                                      clear hK K
                                      refine nrm (some 13) ?_
                                      exact norm_ (by first | (simp only [putAll, Act.put, List.setIfInBounds_toArray, List.set_cons_zero, List.set_cons_succ]; done) | (simp only [putAll, Act.put, List.setIfInBounds_toArray, List.set_cons_zero, List.set_cons_succ]; rfl)) (hJ0_7 (gb9749) _ ⟨hHeld, (pk BK9713), (pk BK9729), (pk BK9736), (pk BK9749), GW9749.out, GE9749.out, NB9713_9749.out, NB9749_9713.out, NB9729_9749.out, NB9749_9729.out, NB9736_9749.out, NB9749_9736.out, (pl HB)⟩)
                                  · skip
                                    rintro _ w63 ⟨hS_, h0_, h1_, h2_, h3_⟩
                                    have n0_ : Aside0 (w63.heap[gb9713]? = some (.cells #[.bool t9707, .int .i64 t9708, .int .i64 t9709, .bool t9710, .int .i64 t9711, .int .i64 t9712] 25 (0, 0))) := ⟨h0_⟩
                                    have n1_ : Aside0 (w63.heap[gb9729]? = some (.cells #[.bool t9723, .int .i64 t9724, .int .i64 t9725, .bool t9726, .int .i64 t9727, .int .i64 t9728] 25 (0, 0))) := ⟨h1_⟩
                                    have n2_ : Aside0 (w63.heap[gb9736]? = some (.cells #[.bool t9730, .int .i64 t9731, .int .i64 t9732, .bool t9733, .int .i64 t9734, .int .i64 t9735] 25 (0, 0))) := ⟨h2_⟩
                                    have n3_ : Aside0 (Below w.heap.size w w63) := ⟨h3_⟩
                                    clear BK9713
                                    clear BK9729
                                    clear BK9736
                                    clear HB
                                    clear h0_ h1_ h2_ h3_
                                    have BK9713 := n0_
                                    have BK9729 := n1_
                                    have BK9736 := n2_
                                    have HB := n3_
                                    clear n0_ n1_ n2_ n3_
                                    have hHeld : w63.cell? ⟨gb9736, 0, none⟩ = some (.bool t9730) ∧ w63.cell? ⟨gb9736, 1, none⟩ = some (.int .i64 t9731) ∧ w63.cell? ⟨gb9736, 2, none⟩ = some (.int .i64 t9732) ∧ w63.cell? ⟨gb9736, 3, none⟩ = some (.bool t9733) ∧ w63.cell? ⟨gb9736, 4, none⟩ = some (.int .i64 t9734) ∧ w63.cell? ⟨gb9736, 5, none⟩ = some (.int .i64 t9735) := hS_
                                    refine norm_ (a' := ?_) ?_ ?_
                                    rotate_left
                                    · simp only [putAll, Act.put, List.setIfInBounds_toArray, List.set_cons_zero, List.set_cons_succ]
                                      rfl
                                    refine two_ (i := 1) (j := 7) (Ni := some 14) (Nj := some 4) #[true, true, true, true, false, false, false, false, false] #[true, false, true, true, false, false, false, true, false] rfl rfl rfl rfl (two_of HT_.out (by kernel_rfl)) (by decide) (by decide) (fun K hK => ?_) (fun K hK => ?_)
                                    · skip
                                      refine gc Try.func35 #[.int .i64 0] (ints_Point.calls 0 t9740 t9741 t9742 _ A9.out) ?_
                                      intro w64 hb
                                      replace BK9713 := kb BK9713 hb
                                      replace BK9729 := kb BK9729 hb
                                      replace BK9736 := kb BK9736 hb
                                      replace HB := kh HB hb
                                      (try clear hb)
                                      refine hK.out _ _ ⟨bc BK9736 0, bc BK9736 1, bc BK9736 2, bc BK9736 3, bc BK9736 4, bc BK9736 5⟩ (fun hHeld => ?_)
                                      clear hK K
                                      refine nrm (some 14) ?_
                                      refine pur 4 (some 17) #[true, true, true, true, true, false, false, false, false] (any_of HT_.out (by kernel_rfl)) ?_
                                      exact norm_ (by first | (simp only [putAll, Act.put, List.setIfInBounds_toArray, List.set_cons_zero, List.set_cons_succ]; done) | (simp only [putAll, Act.put, List.setIfInBounds_toArray, List.set_cons_zero, List.set_cons_succ]; rfl)) (hJ0_1 () _ ⟨hHeld, (pk BK9713), (pk BK9729), (pk BK9736), (pl HB)⟩)
                                    · skip
                                      refine box_step ?hg (N := 4) ?hd (cs := #[.bool false, .int .i64 0, .int .i64 0]) (t := 23) ?hr ?_; (case hd => rfl); (case hg => rfl); (case hr => first | (go_simp; done) | (go_simp; rfl))
                                      intro gb9749 hg w64 hbox hb
                                      have BK9749 := Aside0.mk (hbox)
                                      have GW9749 := kg HB hg
                                      have GE9749 := kg HB hg
                                      have NB9713_9749 := kn BK9713 hg
                                      have NB9749_9713 := km BK9713 hg
                                      have NB9729_9749 := kn BK9729 hg
                                      have NB9749_9729 := km BK9729 hg
                                      have NB9736_9749 := kn BK9736 hg
                                      have NB9749_9736 := km BK9736 hg
                                      replace BK9713 := kb BK9713 hb
                                      replace BK9729 := kb BK9729 hb
                                      replace BK9736 := kb BK9736 hb
                                      replace HB := kh HB hb
                                      clear hb hbox hg
                                      refine hK.out _ _ ⟨bc BK9736 0, bc BK9736 1, bc BK9736 2, bc BK9736 3, bc BK9736 4, bc BK9736 5⟩ (fun hHeld => ?_)
                                      clear hK K
                                      refine nrm (some 4) ?_
                                      exact norm_ (by first | (simp only [putAll, Act.put, List.setIfInBounds_toArray, List.set_cons_zero, List.set_cons_succ]; done) | (simp only [putAll, Act.put, List.setIfInBounds_toArray, List.set_cons_zero, List.set_cons_succ]; rfl)) (hJ0_7 (gb9749) _ ⟨hHeld, (pk BK9713), (pk BK9729), (pk BK9736), (pk BK9749), GW9749.out, GE9749.out, NB9713_9749.out, NB9749_9713.out, NB9729_9749.out, NB9749_9729.out, NB9736_9749.out, NB9749_9736.out, (pl HB)⟩)
                                · skip
                                  rintro gb9749 w64 ⟨hS_, h0_, h1_, h2_, h3_, h4_, h5_, h6_, h7_, h8_, h9_, h10_, h11_, h12_⟩
                                  have n0_ : Aside0 (w64.heap[gb9713]? = some (.cells #[.bool t9707, .int .i64 t9708, .int .i64 t9709, .bool t9710, .int .i64 t9711, .int .i64 t9712] 25 (0, 0))) := ⟨h0_⟩
                                  have n1_ : Aside0 (w64.heap[gb9729]? = some (.cells #[.bool t9723, .int .i64 t9724, .int .i64 t9725, .bool t9726, .int .i64 t9727, .int .i64 t9728] 25 (0, 0))) := ⟨h1_⟩
                                  have n2_ : Aside0 (w64.heap[gb9736]? = some (.cells #[.bool t9730, .int .i64 t9731, .int .i64 t9732, .bool t9733, .int .i64 t9734, .int .i64 t9735] 25 (0, 0))) := ⟨h2_⟩
                                  have n3_ : Aside0 (w64.heap[gb9749]? = some (.cells #[.bool false, .int .i64 0, .int .i64 0] 23 (0, 0))) := ⟨h3_⟩
                                  have n4_ : Aside0 (w.heap.size ≤ gb9749) := ⟨h4_⟩
                                  have n5_ : Aside0 (w.heap.size ≤ gb9749) := ⟨h5_⟩
                                  have n6_ : Aside0 (gb9713 ≠ gb9749) := ⟨h6_⟩
                                  have n7_ : Aside0 (gb9749 ≠ gb9713) := ⟨h7_⟩
                                  have n8_ : Aside0 (gb9729 ≠ gb9749) := ⟨h8_⟩
                                  have n9_ : Aside0 (gb9749 ≠ gb9729) := ⟨h9_⟩
                                  have n10_ : Aside0 (gb9736 ≠ gb9749) := ⟨h10_⟩
                                  have n11_ : Aside0 (gb9749 ≠ gb9736) := ⟨h11_⟩
                                  have n12_ : Aside0 (Below w.heap.size w w64) := ⟨h12_⟩
                                  clear BK9713
                                  clear BK9729
                                  clear BK9736
                                  clear HB
                                  clear h0_ h1_ h2_ h3_ h4_ h5_ h6_ h7_ h8_ h9_ h10_ h11_ h12_
                                  have BK9713 := n0_
                                  have BK9729 := n1_
                                  have BK9736 := n2_
                                  have BK9749 := n3_
                                  have GW9749 := n4_
                                  have GE9749 := n5_
                                  have NB9713_9749 := n6_
                                  have NB9749_9713 := n7_
                                  have NB9729_9749 := n8_
                                  have NB9749_9729 := n9_
                                  have NB9736_9749 := n10_
                                  have NB9749_9736 := n11_
                                  have HB := n12_
                                  clear n0_ n1_ n2_ n3_ n4_ n5_ n6_ n7_ n8_ n9_ n10_ n11_ n12_
                                  have hHeld : w64.cell? ⟨gb9736, 0, none⟩ = some (.bool t9730) ∧ w64.cell? ⟨gb9736, 1, none⟩ = some (.int .i64 t9731) ∧ w64.cell? ⟨gb9736, 2, none⟩ = some (.int .i64 t9732) ∧ w64.cell? ⟨gb9736, 3, none⟩ = some (.bool t9733) ∧ w64.cell? ⟨gb9736, 4, none⟩ = some (.int .i64 t9734) ∧ w64.cell? ⟨gb9736, 5, none⟩ = some (.int .i64 t9735) := hS_
                                  refine norm_ (a' := ?_) ?_ ?_
                                  rotate_left
                                  · simp only [putAll, Act.put, List.setIfInBounds_toArray, List.set_cons_zero, List.set_cons_succ]
                                    rfl
                                  refine one_ (i := 1) (N := some 14) #[true, true, true, true, false, false, false, true, false] rfl rfl (one_of HT_.out (by kernel_rfl)) (by decide) (fun K hK => ?_)
                                  refine gc Try.func35 #[.int .i64 0] (ints_Point.calls 0 t9740 t9741 t9742 _ A9.out) ?_
                                  intro w65 hb
                                  replace BK9713 := kb BK9713 hb
                                  replace BK9729 := kb BK9729 hb
                                  replace BK9736 := kb BK9736 hb
                                  replace BK9749 := kb BK9749 hb
                                  replace HB := kh HB hb
                                  (try clear hb)
                                  refine hK.out _ _ ⟨bc BK9736 0, bc BK9736 1, bc BK9736 2, bc BK9736 3, bc BK9736 4, bc BK9736 5⟩ (fun hHeld => ?_)
                                  clear hK K
                                  refine nrm (some 14) ?_
                                  refine pur 4 (some 17) #[true, true, true, true, true, false, false, true, false] (any_of HT_.out (by kernel_rfl)) ?_
                                  exact norm_ (by first | (simp only [putAll, Act.put, List.setIfInBounds_toArray, List.set_cons_zero, List.set_cons_succ]; done) | (simp only [putAll, Act.put, List.setIfInBounds_toArray, List.set_cons_zero, List.set_cons_succ]; rfl)) (hJ0_1_7 (gb9749) _ ⟨hHeld, (pk BK9713), (pk BK9729), (pk BK9736), (pk BK9749), GW9749.out, GE9749.out, NB9713_9749.out, NB9749_9713.out, NB9729_9749.out, NB9749_9729.out, NB9736_9749.out, NB9749_9736.out, (pl HB)⟩)
                              · skip
                                rintro _ w64 ⟨hS_, h0_, h1_, h2_, h3_⟩
                                have n0_ : Aside0 (w64.heap[gb9713]? = some (.cells #[.bool t9707, .int .i64 t9708, .int .i64 t9709, .bool t9710, .int .i64 t9711, .int .i64 t9712] 25 (0, 0))) := ⟨h0_⟩
                                have n1_ : Aside0 (w64.heap[gb9729]? = some (.cells #[.bool t9723, .int .i64 t9724, .int .i64 t9725, .bool t9726, .int .i64 t9727, .int .i64 t9728] 25 (0, 0))) := ⟨h1_⟩
                                have n2_ : Aside0 (w64.heap[gb9736]? = some (.cells #[.bool t9730, .int .i64 t9731, .int .i64 t9732, .bool t9733, .int .i64 t9734, .int .i64 t9735] 25 (0, 0))) := ⟨h2_⟩
                                have n3_ : Aside0 (Below w.heap.size w w64) := ⟨h3_⟩
                                clear BK9713
                                clear BK9729
                                clear BK9736
                                clear HB
                                clear h0_ h1_ h2_ h3_
                                have BK9713 := n0_
                                have BK9729 := n1_
                                have BK9736 := n2_
                                have HB := n3_
                                clear n0_ n1_ n2_ n3_
                                have hHeld : w64.cell? ⟨gb9736, 0, none⟩ = some (.bool t9730) ∧ w64.cell? ⟨gb9736, 1, none⟩ = some (.int .i64 t9731) ∧ w64.cell? ⟨gb9736, 2, none⟩ = some (.int .i64 t9732) ∧ w64.cell? ⟨gb9736, 3, none⟩ = some (.bool t9733) ∧ w64.cell? ⟨gb9736, 4, none⟩ = some (.int .i64 t9734) ∧ w64.cell? ⟨gb9736, 5, none⟩ = some (.int .i64 t9735) := hS_
                                refine norm_ (a' := ?_) ?_ ?_
                                rotate_left
                                · simp only [putAll, Act.put, List.setIfInBounds_toArray, List.set_cons_zero, List.set_cons_succ]
                                  rfl
                                refine two_ (i := 5) (j := 7) (Ni := some 18) (Nj := some 4) #[true, true, true, true, true, true, false, false, false] #[true, true, true, true, true, false, false, true, false] rfl rfl rfl rfl (two_of HT_.out (by kernel_rfl)) (by decide) (by decide) (fun K hK => ?_) (fun K hK => ?_)
                                · skip
                                  refine gc Try.func37 #[.int .i64 0, .int .i64 99] (ints_Make.calls 0 99 t9743 t9744 t9745 _ A10.out) ?_
                                  intro w65 hb
                                  replace BK9713 := kb BK9713 hb
                                  replace BK9729 := kb BK9729 hb
                                  replace BK9736 := kb BK9736 hb
                                  replace HB := kh HB hb
                                  (try clear hb)
                                  refine hK.out _ _ ⟨bc BK9736 0, bc BK9736 1, bc BK9736 2, bc BK9736 3, bc BK9736 4, bc BK9736 5⟩ (fun hHeld => ?_)
                                  clear hK K
                                  refine nrm (some 18) ?_
                                  exact norm_ (by first | (simp only [putAll, Act.put, List.setIfInBounds_toArray, List.set_cons_zero, List.set_cons_succ]; done) | (simp only [putAll, Act.put, List.setIfInBounds_toArray, List.set_cons_zero, List.set_cons_succ]; rfl)) (hJ0_1_5 () _ ⟨hHeld, (pk BK9713), (pk BK9729), (pk BK9736), (pl HB)⟩)
                                · skip
                                  refine box_step ?hg (N := 4) ?hd (cs := #[.bool false, .int .i64 0, .int .i64 0]) (t := 23) ?hr ?_; (case hd => rfl); (case hg => rfl); (case hr => first | (go_simp; done) | (go_simp; rfl))
                                  intro gb9749 hg w65 hbox hb
                                  have BK9749 := Aside0.mk (hbox)
                                  have GW9749 := kg HB hg
                                  have GE9749 := kg HB hg
                                  have NB9713_9749 := kn BK9713 hg
                                  have NB9749_9713 := km BK9713 hg
                                  have NB9729_9749 := kn BK9729 hg
                                  have NB9749_9729 := km BK9729 hg
                                  have NB9736_9749 := kn BK9736 hg
                                  have NB9749_9736 := km BK9736 hg
                                  replace BK9713 := kb BK9713 hb
                                  replace BK9729 := kb BK9729 hb
                                  replace BK9736 := kb BK9736 hb
                                  replace HB := kh HB hb
                                  clear hb hbox hg
                                  refine hK.out _ _ ⟨bc BK9736 0, bc BK9736 1, bc BK9736 2, bc BK9736 3, bc BK9736 4, bc BK9736 5⟩ (fun hHeld => ?_)
                                  clear hK K
                                  refine nrm (some 4) ?_
                                  exact norm_ (by first | (simp only [putAll, Act.put, List.setIfInBounds_toArray, List.set_cons_zero, List.set_cons_succ]; done) | (simp only [putAll, Act.put, List.setIfInBounds_toArray, List.set_cons_zero, List.set_cons_succ]; rfl)) (hJ0_1_7 (gb9749) _ ⟨hHeld, (pk BK9713), (pk BK9729), (pk BK9736), (pk BK9749), GW9749.out, GE9749.out, NB9713_9749.out, NB9749_9713.out, NB9729_9749.out, NB9749_9729.out, NB9736_9749.out, NB9749_9736.out, (pl HB)⟩)
                            · skip
                              rintro gb9749 w65 ⟨hS_, h0_, h1_, h2_, h3_, h4_, h5_, h6_, h7_, h8_, h9_, h10_, h11_, h12_⟩
                              have n0_ : Aside0 (w65.heap[gb9713]? = some (.cells #[.bool t9707, .int .i64 t9708, .int .i64 t9709, .bool t9710, .int .i64 t9711, .int .i64 t9712] 25 (0, 0))) := ⟨h0_⟩
                              have n1_ : Aside0 (w65.heap[gb9729]? = some (.cells #[.bool t9723, .int .i64 t9724, .int .i64 t9725, .bool t9726, .int .i64 t9727, .int .i64 t9728] 25 (0, 0))) := ⟨h1_⟩
                              have n2_ : Aside0 (w65.heap[gb9736]? = some (.cells #[.bool t9730, .int .i64 t9731, .int .i64 t9732, .bool t9733, .int .i64 t9734, .int .i64 t9735] 25 (0, 0))) := ⟨h2_⟩
                              have n3_ : Aside0 (w65.heap[gb9749]? = some (.cells #[.bool false, .int .i64 0, .int .i64 0] 23 (0, 0))) := ⟨h3_⟩
                              have n4_ : Aside0 (w.heap.size ≤ gb9749) := ⟨h4_⟩
                              have n5_ : Aside0 (w.heap.size ≤ gb9749) := ⟨h5_⟩
                              have n6_ : Aside0 (gb9713 ≠ gb9749) := ⟨h6_⟩
                              have n7_ : Aside0 (gb9749 ≠ gb9713) := ⟨h7_⟩
                              have n8_ : Aside0 (gb9729 ≠ gb9749) := ⟨h8_⟩
                              have n9_ : Aside0 (gb9749 ≠ gb9729) := ⟨h9_⟩
                              have n10_ : Aside0 (gb9736 ≠ gb9749) := ⟨h10_⟩
                              have n11_ : Aside0 (gb9749 ≠ gb9736) := ⟨h11_⟩
                              have n12_ : Aside0 (Below w.heap.size w w65) := ⟨h12_⟩
                              clear BK9713
                              clear BK9729
                              clear BK9736
                              clear HB
                              clear h0_ h1_ h2_ h3_ h4_ h5_ h6_ h7_ h8_ h9_ h10_ h11_ h12_
                              have BK9713 := n0_
                              have BK9729 := n1_
                              have BK9736 := n2_
                              have BK9749 := n3_
                              have GW9749 := n4_
                              have GE9749 := n5_
                              have NB9713_9749 := n6_
                              have NB9749_9713 := n7_
                              have NB9729_9749 := n8_
                              have NB9749_9729 := n9_
                              have NB9736_9749 := n10_
                              have NB9749_9736 := n11_
                              have HB := n12_
                              clear n0_ n1_ n2_ n3_ n4_ n5_ n6_ n7_ n8_ n9_ n10_ n11_ n12_
                              have hHeld : w65.cell? ⟨gb9736, 0, none⟩ = some (.bool t9730) ∧ w65.cell? ⟨gb9736, 1, none⟩ = some (.int .i64 t9731) ∧ w65.cell? ⟨gb9736, 2, none⟩ = some (.int .i64 t9732) ∧ w65.cell? ⟨gb9736, 3, none⟩ = some (.bool t9733) ∧ w65.cell? ⟨gb9736, 4, none⟩ = some (.int .i64 t9734) ∧ w65.cell? ⟨gb9736, 5, none⟩ = some (.int .i64 t9735) := hS_
                              refine norm_ (a' := ?_) ?_ ?_
                              rotate_left
                              · simp only [putAll, Act.put, List.setIfInBounds_toArray, List.set_cons_zero, List.set_cons_succ]
                                rfl
                              refine one_ (i := 5) (N := some 18) #[true, true, true, true, true, true, false, true, false] rfl rfl (one_of HT_.out (by kernel_rfl)) (by decide) (fun K hK => ?_)
                              refine gc Try.func37 #[.int .i64 0, .int .i64 99] (ints_Make.calls 0 99 t9743 t9744 t9745 _ A10.out) ?_
                              intro w66 hb
                              replace BK9713 := kb BK9713 hb
                              replace BK9729 := kb BK9729 hb
                              replace BK9736 := kb BK9736 hb
                              replace BK9749 := kb BK9749 hb
                              replace HB := kh HB hb
                              (try clear hb)
                              refine hK.out _ _ ⟨bc BK9736 0, bc BK9736 1, bc BK9736 2, bc BK9736 3, bc BK9736 4, bc BK9736 5⟩ (fun hHeld => ?_)
                              clear hK K
                              refine nrm (some 18) ?_
                              exact norm_ (by first | (simp only [putAll, Act.put, List.setIfInBounds_toArray, List.set_cons_zero, List.set_cons_succ]; done) | (simp only [putAll, Act.put, List.setIfInBounds_toArray, List.set_cons_zero, List.set_cons_succ]; rfl)) (hJ0_1_5_7 (gb9749) _ ⟨hHeld, (pk BK9713), (pk BK9729), (pk BK9736), (pk BK9749), GW9749.out, GE9749.out, NB9713_9749.out, NB9749_9713.out, NB9729_9749.out, NB9749_9729.out, NB9736_9749.out, NB9749_9736.out, (pl HB)⟩)
                          · skip
                            rintro _ w65 ⟨hS_, h0_, h1_, h2_, h3_⟩
                            have n0_ : Aside0 (w65.heap[gb9713]? = some (.cells #[.bool t9707, .int .i64 t9708, .int .i64 t9709, .bool t9710, .int .i64 t9711, .int .i64 t9712] 25 (0, 0))) := ⟨h0_⟩
                            have n1_ : Aside0 (w65.heap[gb9729]? = some (.cells #[.bool t9723, .int .i64 t9724, .int .i64 t9725, .bool t9726, .int .i64 t9727, .int .i64 t9728] 25 (0, 0))) := ⟨h1_⟩
                            have n2_ : Aside0 (w65.heap[gb9736]? = some (.cells #[.bool t9730, .int .i64 t9731, .int .i64 t9732, .bool t9733, .int .i64 t9734, .int .i64 t9735] 25 (0, 0))) := ⟨h2_⟩
                            have n3_ : Aside0 (Below w.heap.size w w65) := ⟨h3_⟩
                            clear BK9713
                            clear BK9729
                            clear BK9736
                            clear HB
                            clear h0_ h1_ h2_ h3_
                            have BK9713 := n0_
                            have BK9729 := n1_
                            have BK9736 := n2_
                            have HB := n3_
                            clear n0_ n1_ n2_ n3_
                            have hHeld : w65.cell? ⟨gb9736, 0, none⟩ = some (.bool t9730) ∧ w65.cell? ⟨gb9736, 1, none⟩ = some (.int .i64 t9731) ∧ w65.cell? ⟨gb9736, 2, none⟩ = some (.int .i64 t9732) ∧ w65.cell? ⟨gb9736, 3, none⟩ = some (.bool t9733) ∧ w65.cell? ⟨gb9736, 4, none⟩ = some (.int .i64 t9734) ∧ w65.cell? ⟨gb9736, 5, none⟩ = some (.int .i64 t9735) := hS_
                            refine norm_ (a' := ?_) ?_ ?_
                            rotate_left
                            · simp only [putAll, Act.put, List.setIfInBounds_toArray, List.set_cons_zero, List.set_cons_succ]
                              rfl
                            refine two_ (i := 6) (j := 7) (Ni := some 19) (Nj := some 4) #[true, true, true, true, true, true, true, false, false] #[true, true, true, true, true, true, false, true, false] rfl rfl rfl rfl (two_of HT_.out (by kernel_rfl)) (by decide) (by decide) (fun K hK => ?_) (fun K hK => ?_)
                            · skip
                              refine gc Try.func24 #[.agg #[.bool t9737, .int .i64 t9738, .int .i64 t9739], .agg #[.bool t9740, .int .i64 t9741, .int .i64 t9742, .bool t9733, .int .i64 t9734, .int .i64 t9735], .agg #[.bool t9743, .int .i64 t9744, .int .i64 t9745]] (clock_Reduce.calls k t9737 t9738 t9739 t9740 t9741 t9742 t9733 t9734 t9735 t9743 t9744 t9745 t9746 t9747 t9748 _ A11.out) ?_
                              intro w66 hb
                              replace BK9713 := kb BK9713 hb
                              replace BK9729 := kb BK9729 hb
                              replace BK9736 := kb BK9736 hb
                              replace HB := kh HB hb
                              (try clear hb)
                              refine hK.out _ _ ⟨bc BK9736 0, bc BK9736 1, bc BK9736 2, bc BK9736 3, bc BK9736 4, bc BK9736 5⟩ (fun hHeld => ?_)
                              clear hK K
                              refine nrm (some 19) ?_
                              exact norm_ (by first | (simp only [putAll, Act.put, List.setIfInBounds_toArray, List.set_cons_zero, List.set_cons_succ]; done) | (simp only [putAll, Act.put, List.setIfInBounds_toArray, List.set_cons_zero, List.set_cons_succ]; rfl)) (hJ0_1_5_6 () _ ⟨hHeld, (pk BK9713), (pk BK9729), (pk BK9736), (pl HB)⟩)
                            · skip
                              refine box_step ?hg (N := 4) ?hd (cs := #[.bool false, .int .i64 0, .int .i64 0]) (t := 23) ?hr ?_; (case hd => rfl); (case hg => rfl); (case hr => first | (go_simp; done) | (go_simp; rfl))
                              intro gb9749 hg w66 hbox hb
                              have BK9749 := Aside0.mk (hbox)
                              have GW9749 := kg HB hg
                              have GE9749 := kg HB hg
                              have NB9713_9749 := kn BK9713 hg
                              have NB9749_9713 := km BK9713 hg
                              have NB9729_9749 := kn BK9729 hg
                              have NB9749_9729 := km BK9729 hg
                              have NB9736_9749 := kn BK9736 hg
                              have NB9749_9736 := km BK9736 hg
                              replace BK9713 := kb BK9713 hb
                              replace BK9729 := kb BK9729 hb
                              replace BK9736 := kb BK9736 hb
                              replace HB := kh HB hb
                              clear hb hbox hg
                              refine hK.out _ _ ⟨bc BK9736 0, bc BK9736 1, bc BK9736 2, bc BK9736 3, bc BK9736 4, bc BK9736 5⟩ (fun hHeld => ?_)
                              clear hK K
                              refine nrm (some 4) ?_
                              exact norm_ (by first | (simp only [putAll, Act.put, List.setIfInBounds_toArray, List.set_cons_zero, List.set_cons_succ]; done) | (simp only [putAll, Act.put, List.setIfInBounds_toArray, List.set_cons_zero, List.set_cons_succ]; rfl)) (hJ0_1_5_7 (gb9749) _ ⟨hHeld, (pk BK9713), (pk BK9729), (pk BK9736), (pk BK9749), GW9749.out, GE9749.out, NB9713_9749.out, NB9749_9713.out, NB9729_9749.out, NB9749_9729.out, NB9736_9749.out, NB9749_9736.out, (pl HB)⟩)
                        · skip
                          rintro gb9749 w66 ⟨hS_, h0_, h1_, h2_, h3_, h4_, h5_, h6_, h7_, h8_, h9_, h10_, h11_, h12_⟩
                          have n0_ : Aside0 (w66.heap[gb9713]? = some (.cells #[.bool t9707, .int .i64 t9708, .int .i64 t9709, .bool t9710, .int .i64 t9711, .int .i64 t9712] 25 (0, 0))) := ⟨h0_⟩
                          have n1_ : Aside0 (w66.heap[gb9729]? = some (.cells #[.bool t9723, .int .i64 t9724, .int .i64 t9725, .bool t9726, .int .i64 t9727, .int .i64 t9728] 25 (0, 0))) := ⟨h1_⟩
                          have n2_ : Aside0 (w66.heap[gb9736]? = some (.cells #[.bool t9730, .int .i64 t9731, .int .i64 t9732, .bool t9733, .int .i64 t9734, .int .i64 t9735] 25 (0, 0))) := ⟨h2_⟩
                          have n3_ : Aside0 (w66.heap[gb9749]? = some (.cells #[.bool false, .int .i64 0, .int .i64 0] 23 (0, 0))) := ⟨h3_⟩
                          have n4_ : Aside0 (w.heap.size ≤ gb9749) := ⟨h4_⟩
                          have n5_ : Aside0 (w.heap.size ≤ gb9749) := ⟨h5_⟩
                          have n6_ : Aside0 (gb9713 ≠ gb9749) := ⟨h6_⟩
                          have n7_ : Aside0 (gb9749 ≠ gb9713) := ⟨h7_⟩
                          have n8_ : Aside0 (gb9729 ≠ gb9749) := ⟨h8_⟩
                          have n9_ : Aside0 (gb9749 ≠ gb9729) := ⟨h9_⟩
                          have n10_ : Aside0 (gb9736 ≠ gb9749) := ⟨h10_⟩
                          have n11_ : Aside0 (gb9749 ≠ gb9736) := ⟨h11_⟩
                          have n12_ : Aside0 (Below w.heap.size w w66) := ⟨h12_⟩
                          clear BK9713
                          clear BK9729
                          clear BK9736
                          clear HB
                          clear h0_ h1_ h2_ h3_ h4_ h5_ h6_ h7_ h8_ h9_ h10_ h11_ h12_
                          have BK9713 := n0_
                          have BK9729 := n1_
                          have BK9736 := n2_
                          have BK9749 := n3_
                          have GW9749 := n4_
                          have GE9749 := n5_
                          have NB9713_9749 := n6_
                          have NB9749_9713 := n7_
                          have NB9729_9749 := n8_
                          have NB9749_9729 := n9_
                          have NB9736_9749 := n10_
                          have NB9749_9736 := n11_
                          have HB := n12_
                          clear n0_ n1_ n2_ n3_ n4_ n5_ n6_ n7_ n8_ n9_ n10_ n11_ n12_
                          have hHeld : w66.cell? ⟨gb9736, 0, none⟩ = some (.bool t9730) ∧ w66.cell? ⟨gb9736, 1, none⟩ = some (.int .i64 t9731) ∧ w66.cell? ⟨gb9736, 2, none⟩ = some (.int .i64 t9732) ∧ w66.cell? ⟨gb9736, 3, none⟩ = some (.bool t9733) ∧ w66.cell? ⟨gb9736, 4, none⟩ = some (.int .i64 t9734) ∧ w66.cell? ⟨gb9736, 5, none⟩ = some (.int .i64 t9735) := hS_
                          refine norm_ (a' := ?_) ?_ ?_
                          rotate_left
                          · simp only [putAll, Act.put, List.setIfInBounds_toArray, List.set_cons_zero, List.set_cons_succ]
                            rfl
                          refine one_ (i := 6) (N := some 19) #[true, true, true, true, true, true, true, true, false] rfl rfl (one_of HT_.out (by kernel_rfl)) (by decide) (fun K hK => ?_)
                          refine gc Try.func24 #[.agg #[.bool t9737, .int .i64 t9738, .int .i64 t9739], .agg #[.bool t9740, .int .i64 t9741, .int .i64 t9742, .bool t9733, .int .i64 t9734, .int .i64 t9735], .agg #[.bool t9743, .int .i64 t9744, .int .i64 t9745]] (clock_Reduce.calls k t9737 t9738 t9739 t9740 t9741 t9742 t9733 t9734 t9735 t9743 t9744 t9745 t9746 t9747 t9748 _ A11.out) ?_
                          intro w67 hb
                          replace BK9713 := kb BK9713 hb
                          replace BK9729 := kb BK9729 hb
                          replace BK9736 := kb BK9736 hb
                          replace BK9749 := kb BK9749 hb
                          replace HB := kh HB hb
                          (try clear hb)
                          refine hK.out _ _ ⟨bc BK9736 0, bc BK9736 1, bc BK9736 2, bc BK9736 3, bc BK9736 4, bc BK9736 5⟩ (fun hHeld => ?_)
                          clear hK K
                          refine nrm (some 19) ?_
                          exact norm_ (by first | (simp only [putAll, Act.put, List.setIfInBounds_toArray, List.set_cons_zero, List.set_cons_succ]; done) | (simp only [putAll, Act.put, List.setIfInBounds_toArray, List.set_cons_zero, List.set_cons_succ]; rfl)) (hJ0_1_5_6_7 (gb9749) _ ⟨hHeld, (pk BK9713), (pk BK9729), (pk BK9736), (pk BK9749), GW9749.out, GE9749.out, NB9713_9749.out, NB9749_9713.out, NB9729_9749.out, NB9749_9729.out, NB9736_9749.out, NB9749_9736.out, (pl HB)⟩)
                      · skip
                        rintro _ w66 ⟨hS_, h0_, h1_, h2_, h3_⟩
                        have n0_ : Aside0 (w66.heap[gb9713]? = some (.cells #[.bool t9707, .int .i64 t9708, .int .i64 t9709, .bool t9710, .int .i64 t9711, .int .i64 t9712] 25 (0, 0))) := ⟨h0_⟩
                        have n1_ : Aside0 (w66.heap[gb9729]? = some (.cells #[.bool t9723, .int .i64 t9724, .int .i64 t9725, .bool t9726, .int .i64 t9727, .int .i64 t9728] 25 (0, 0))) := ⟨h1_⟩
                        have n2_ : Aside0 (w66.heap[gb9736]? = some (.cells #[.bool t9730, .int .i64 t9731, .int .i64 t9732, .bool t9733, .int .i64 t9734, .int .i64 t9735] 25 (0, 0))) := ⟨h2_⟩
                        have n3_ : Aside0 (Below w.heap.size w w66) := ⟨h3_⟩
                        clear BK9713
                        clear BK9729
                        clear BK9736
                        clear HB
                        clear h0_ h1_ h2_ h3_
                        have BK9713 := n0_
                        have BK9729 := n1_
                        have BK9736 := n2_
                        have HB := n3_
                        clear n0_ n1_ n2_ n3_
                        have hHeld : w66.cell? ⟨gb9736, 0, none⟩ = some (.bool t9730) ∧ w66.cell? ⟨gb9736, 1, none⟩ = some (.int .i64 t9731) ∧ w66.cell? ⟨gb9736, 2, none⟩ = some (.int .i64 t9732) ∧ w66.cell? ⟨gb9736, 3, none⟩ = some (.bool t9733) ∧ w66.cell? ⟨gb9736, 4, none⟩ = some (.int .i64 t9734) ∧ w66.cell? ⟨gb9736, 5, none⟩ = some (.int .i64 t9735) := hS_
                        refine norm_ (a' := ?_) ?_ ?_
                        rotate_left
                        · simp only [putAll, Act.put, List.setIfInBounds_toArray, List.set_cons_zero, List.set_cons_succ]
                          rfl
                        refine one_ (i := 7) (N := some 4) #[true, true, true, true, true, true, true, true, false] rfl rfl (one_of HT_.out (by kernel_rfl)) (by decide) (fun K hK => ?_)
                        refine box_step ?hg (N := 4) ?hd (cs := #[.bool false, .int .i64 0, .int .i64 0]) (t := 23) ?hr ?_; (case hd => rfl); (case hg => rfl); (case hr => first | (go_simp; done) | (go_simp; rfl))
                        intro gb9749 hg w67 hbox hb
                        have BK9749 := Aside0.mk (hbox)
                        have GW9749 := kg HB hg
                        have GE9749 := kg HB hg
                        have NB9713_9749 := kn BK9713 hg
                        have NB9749_9713 := km BK9713 hg
                        have NB9729_9749 := kn BK9729 hg
                        have NB9749_9729 := km BK9729 hg
                        have NB9736_9749 := kn BK9736 hg
                        have NB9749_9736 := km BK9736 hg
                        replace BK9713 := kb BK9713 hb
                        replace BK9729 := kb BK9729 hb
                        replace BK9736 := kb BK9736 hb
                        replace HB := kh HB hb
                        clear hb hbox hg
                        refine hK.out _ _ ⟨bc BK9736 0, bc BK9736 1, bc BK9736 2, bc BK9736 3, bc BK9736 4, bc BK9736 5⟩ (fun hHeld => ?_)
                        clear hK K
                        refine nrm (some 4) ?_
                        exact norm_ (by first | (simp only [putAll, Act.put, List.setIfInBounds_toArray, List.set_cons_zero, List.set_cons_succ]; done) | (simp only [putAll, Act.put, List.setIfInBounds_toArray, List.set_cons_zero, List.set_cons_succ]; rfl)) (hJ0_1_5_6_7 (gb9749) _ ⟨hHeld, (pk BK9713), (pk BK9729), (pk BK9736), (pk BK9749), GW9749.out, GE9749.out, NB9713_9749.out, NB9749_9713.out, NB9729_9749.out, NB9749_9729.out, NB9736_9749.out, NB9749_9736.out, (pl HB)⟩)
                    rintro gb9749 w67 ⟨hS_, h0_, h1_, h2_, h3_, h4_, h5_, h6_, h7_, h8_, h9_, h10_, h11_, h12_⟩
                    have n0_ : Aside0 (w67.heap[gb9713]? = some (.cells #[.bool t9707, .int .i64 t9708, .int .i64 t9709, .bool t9710, .int .i64 t9711, .int .i64 t9712] 25 (0, 0))) := ⟨h0_⟩
                    have n1_ : Aside0 (w67.heap[gb9729]? = some (.cells #[.bool t9723, .int .i64 t9724, .int .i64 t9725, .bool t9726, .int .i64 t9727, .int .i64 t9728] 25 (0, 0))) := ⟨h1_⟩
                    have n2_ : Aside0 (w67.heap[gb9736]? = some (.cells #[.bool t9730, .int .i64 t9731, .int .i64 t9732, .bool t9733, .int .i64 t9734, .int .i64 t9735] 25 (0, 0))) := ⟨h2_⟩
                    have n3_ : Aside0 (w67.heap[gb9749]? = some (.cells #[.bool false, .int .i64 0, .int .i64 0] 23 (0, 0))) := ⟨h3_⟩
                    have n4_ : Aside0 (w.heap.size ≤ gb9749) := ⟨h4_⟩
                    have n5_ : Aside0 (w.heap.size ≤ gb9749) := ⟨h5_⟩
                    have n6_ : Aside0 (gb9713 ≠ gb9749) := ⟨h6_⟩
                    have n7_ : Aside0 (gb9749 ≠ gb9713) := ⟨h7_⟩
                    have n8_ : Aside0 (gb9729 ≠ gb9749) := ⟨h8_⟩
                    have n9_ : Aside0 (gb9749 ≠ gb9729) := ⟨h9_⟩
                    have n10_ : Aside0 (gb9736 ≠ gb9749) := ⟨h10_⟩
                    have n11_ : Aside0 (gb9749 ≠ gb9736) := ⟨h11_⟩
                    have n12_ : Aside0 (Below w.heap.size w w67) := ⟨h12_⟩
                    clear BK9713
                    clear BK9729
                    clear BK9736
                    clear HB
                    clear h0_ h1_ h2_ h3_ h4_ h5_ h6_ h7_ h8_ h9_ h10_ h11_ h12_
                    have BK9713 := n0_
                    have BK9729 := n1_
                    have BK9736 := n2_
                    have BK9749 := n3_
                    have GW9749 := n4_
                    have GE9749 := n5_
                    have NB9713_9749 := n6_
                    have NB9749_9713 := n7_
                    have NB9729_9749 := n8_
                    have NB9749_9729 := n9_
                    have NB9736_9749 := n10_
                    have NB9749_9736 := n11_
                    have HB := n12_
                    clear n0_ n1_ n2_ n3_ n4_ n5_ n6_ n7_ n8_ n9_ n10_ n11_ n12_
                    have hHeld : w67.cell? ⟨gb9736, 0, none⟩ = some (.bool t9730) ∧ w67.cell? ⟨gb9736, 1, none⟩ = some (.int .i64 t9731) ∧ w67.cell? ⟨gb9736, 2, none⟩ = some (.int .i64 t9732) ∧ w67.cell? ⟨gb9736, 3, none⟩ = some (.bool t9733) ∧ w67.cell? ⟨gb9736, 4, none⟩ = some (.int .i64 t9734) ∧ w67.cell? ⟨gb9736, 5, none⟩ = some (.int .i64 t9735) := hS_
                    refine norm_ (a' := ?_) ?_ ?_
                    rotate_left
                    · simp only [putAll, Act.put, List.setIfInBounds_toArray, List.set_cons_zero, List.set_cons_succ]
                      rfl
                    refine one_ (i := 8) (N := none) #[true, true, true, true, true, true, true, true, true] rfl rfl (one_of HT_.out (by kernel_rfl)) (by decide) (fun K hK => ?_)
                    have hs68 : w67.cell? ⟨gb9749, 0, none⟩ = some (.bool false) := bc BK9749 0
                    have hfs68 := blk_frozen BK9749.out 0
                    have hns68_0 := NB9713_9749.out
                    have hns68_1 := NB9729_9749.out
                    have hns68_2 := NB9736_9749.out
                    have hms68_0 := NB9749_9713.out
                    have hms68_1 := NB9749_9729.out
                    have hms68_2 := NB9749_9736.out
                    have hs69 : w67.cell? ⟨gb9749, 1, none⟩ = some (.int .i64 0) := bc BK9749 1
                    have hfs69 := blk_frozen BK9749.out 1
                    have hs70 : w67.cell? ⟨gb9749, 2, none⟩ = some (.int .i64 0) := bc BK9749 2
                    have hfs70 := blk_frozen BK9749.out 2
                    refine skip_ (w1 := ?_) (by rfl) rfl ?_ ?_
                    rotate_left
                    · go_simp
                      rfl
                    refine hK.out _ _ ⟨cf hHeld.1, cf hHeld.2.1, cf hHeld.2.2.1, cf hHeld.2.2.2.1, cf hHeld.2.2.2.2.1, cf hHeld.2.2.2.2.2⟩ (fun hHeld => ?_)
                    clear hK K
                    refine done_ (done_of HT_.out (by kernel_rfl)) ?_
                    try go_wp2
                    generalize hW_ : (((w67.setCell ⟨gb9749, 0, none⟩ (.bool t9746)).setCell ⟨gb9749, 1, none⟩ (.int .i64 t9747)).setCell ⟨gb9749, 2, none⟩ (.int .i64 t9748)) = w71
                    replace BK9713 := kr BK9713 hW_
                    replace BK9729 := kr BK9729 hW_
                    replace BK9736 := kr BK9736 hW_
                    replace BK9749 := kr (o' := .cells #[.bool t9746, .int .i64 t9747, .int .i64 t9748] 23 (0, 0)) BK9749 hW_
                    replace HB := kq HB hW_
                    clear hW_
                    replace BK9713 := Aside0.mk (blk_drew BK9713.out)
                    replace BK9729 := Aside0.mk (blk_drew BK9729.out)
                    replace BK9736 := Aside0.mk (blk_drew BK9736.out)
                    replace BK9749 := Aside0.mk (blk_drew BK9749.out)
                    replace HB := Aside0.mk (below_drew1 HB.out)
                    refine start_ (n := 64) (S := fun w' => w'.cell? ⟨gb9713, 0, none⟩ = some (.bool t9707) ∧ w'.cell? ⟨gb9713, 1, none⟩ = some (.int .i64 t9708) ∧ w'.cell? ⟨gb9713, 2, none⟩ = some (.int .i64 t9709) ∧ w'.cell? ⟨gb9713, 3, none⟩ = some (.bool t9710) ∧ w'.cell? ⟨gb9713, 4, none⟩ = some (.int .i64 t9711) ∧ w'.cell? ⟨gb9713, 5, none⟩ = some (.int .i64 t9712) ∧ w'.cell? ⟨gb9729, 0, none⟩ = some (.bool t9723) ∧ w'.cell? ⟨gb9729, 1, none⟩ = some (.int .i64 t9724) ∧ w'.cell? ⟨gb9729, 2, none⟩ = some (.int .i64 t9725) ∧ w'.cell? ⟨gb9729, 3, none⟩ = some (.bool t9726) ∧ w'.cell? ⟨gb9729, 4, none⟩ = some (.int .i64 t9727) ∧ w'.cell? ⟨gb9729, 5, none⟩ = some (.int .i64 t9728) ∧ w'.cell? ⟨gb9749, 0, none⟩ = some (.bool t9746) ∧ w'.cell? ⟨gb9749, 1, none⟩ = some (.int .i64 t9747) ∧ w'.cell? ⟨gb9749, 2, none⟩ = some (.int .i64 t9748) ∧ w'.cell? ⟨gb9736, 0, none⟩ = some (.bool t9730) ∧ w'.cell? ⟨gb9736, 1, none⟩ = some (.int .i64 t9731) ∧ w'.cell? ⟨gb9736, 2, none⟩ = some (.int .i64 t9732) ∧ w'.cell? ⟨gb9736, 3, none⟩ = some (.bool t9733) ∧ w'.cell? ⟨gb9736, 4, none⟩ = some (.int .i64 t9734) ∧ w'.cell? ⟨gb9736, 5, none⟩ = some (.int .i64 t9735)) (ds := []) #[false, false, false, false, false, false, false, false, false, false, false, false, false, false, false, false, false, false, false, false, false, false, false, false, false, false, false, false, false, false, false, false, false, false, false, false, false, false, false, false, false, false, false, false, false, false, false, false, false, false, false, false, false, false, false, false, false, false, false, false, false, false, false, false] (by kernel_rfl) rfl rfl ⟨bc BK9713 0, bc BK9713 1, bc BK9713 2, bc BK9713 3, bc BK9713 4, bc BK9713 5, bc BK9729 0, bc BK9729 1, bc BK9729 2, bc BK9729 3, bc BK9729 4, bc BK9729 5, bc BK9749 0, bc BK9749 1, bc BK9749 2, bc BK9736 0, bc BK9736 1, bc BK9736 2, bc BK9736 3, bc BK9736 4, bc BK9736 5⟩ (fun hHeld => ?_); refine with_tabW flyballlaw21_works.tab5 flyballlaw21_works.bits5 (fun HT_ HW_ => ?_)
                    generalize w71.drew = w72 at BK9713 BK9729 BK9736 BK9749 HB hHeld ⊢
                    refine tak 0 (some 20) #[true, false, false, false, false, false, false, false, false, false, false, false, false, false, false, false, false, false, false, false, false, false, false, false, false, false, false, false, false, false, false, false, false, false, false, false, false, false, false, false, false, false, false, false, false, false, false, false, false, false, false, false, false, false, false, false, false, false, false, false, false, false, false, false] (take_ofW HT_.out HW_.out (by kernel_rfl)) hHeld ?_
                    refine one_ (i := 1) (N := some 21) #[true, true, false, false, false, false, false, false, false, false, false, false, false, false, false, false, false, false, false, false, false, false, false, false, false, false, false, false, false, false, false, false, false, false, false, false, false, false, false, false, false, false, false, false, false, false, false, false, false, false, false, false, false, false, false, false, false, false, false, false, false, false, false, false] rfl rfl (one_of HT_.out (by kernel_rfl)) (by decide) (fun K hK => ?_)
                    refine gc Try.func35 #[.int .i64 0] (ints_Point.calls 0 t9750 t9751 t9752 _ A12.out) ?_
                    intro w73 hb
                    replace BK9713 := kb BK9713 hb
                    replace BK9729 := kb BK9729 hb
                    replace BK9736 := kb BK9736 hb
                    replace BK9749 := kb BK9749 hb
                    replace HB := kh HB hb
                    (try clear hb)
                    refine hK.out _ _ ⟨bc BK9713 0, bc BK9713 1, bc BK9713 2, bc BK9713 3, bc BK9713 4, bc BK9713 5, bc BK9729 0, bc BK9729 1, bc BK9729 2, bc BK9729 3, bc BK9729 4, bc BK9729 5, bc BK9749 0, bc BK9749 1, bc BK9749 2, bc BK9736 0, bc BK9736 1, bc BK9736 2, bc BK9736 3, bc BK9736 4, bc BK9736 5⟩ (fun hHeld => ?_)
                    clear hK K
                    refine nrm (some 21) ?_
                    refine one_ (i := 2) (N := some 22) #[true, true, true, false, false, false, false, false, false, false, false, false, false, false, false, false, false, false, false, false, false, false, false, false, false, false, false, false, false, false, false, false, false, false, false, false, false, false, false, false, false, false, false, false, false, false, false, false, false, false, false, false, false, false, false, false, false, false, false, false, false, false, false, false] rfl rfl (one_of HT_.out (by kernel_rfl)) (by decide) (fun K hK => ?_)
                    refine gc Try.func35 #[.int .i64 0] (ints_Point.calls 0 t9753 t9754 t9755 _ A13.out) ?_
                    intro w74 hb
                    replace BK9713 := kb BK9713 hb
                    replace BK9729 := kb BK9729 hb
                    replace BK9736 := kb BK9736 hb
                    replace BK9749 := kb BK9749 hb
                    replace HB := kh HB hb
                    (try clear hb)
                    refine hK.out _ _ ⟨bc BK9713 0, bc BK9713 1, bc BK9713 2, bc BK9713 3, bc BK9713 4, bc BK9713 5, bc BK9729 0, bc BK9729 1, bc BK9729 2, bc BK9729 3, bc BK9729 4, bc BK9729 5, bc BK9749 0, bc BK9749 1, bc BK9749 2, bc BK9736 0, bc BK9736 1, bc BK9736 2, bc BK9736 3, bc BK9736 4, bc BK9736 5⟩ (fun hHeld => ?_)
                    clear hK K
                    refine nrm (some 22) ?_
                    refine pur 3 (some 23) #[true, true, true, true, false, false, false, false, false, false, false, false, false, false, false, false, false, false, false, false, false, false, false, false, false, false, false, false, false, false, false, false, false, false, false, false, false, false, false, false, false, false, false, false, false, false, false, false, false, false, false, false, false, false, false, false, false, false, false, false, false, false, false, false] (any_of HT_.out (by kernel_rfl)) ?_
                    refine pur 4 (some 24) #[true, true, true, true, true, false, false, false, false, false, false, false, false, false, false, false, false, false, false, false, false, false, false, false, false, false, false, false, false, false, false, false, false, false, false, false, false, false, false, false, false, false, false, false, false, false, false, false, false, false, false, false, false, false, false, false, false, false, false, false, false, false, false, false] (any_of HT_.out (by kernel_rfl)) ?_
                    refine pur 5 (some 25) #[true, true, true, true, true, true, false, false, false, false, false, false, false, false, false, false, false, false, false, false, false, false, false, false, false, false, false, false, false, false, false, false, false, false, false, false, false, false, false, false, false, false, false, false, false, false, false, false, false, false, false, false, false, false, false, false, false, false, false, false, false, false, false, false] (any_of HT_.out (by kernel_rfl)) ?_
                    refine tak 6 (some 26) #[true, true, true, true, true, true, true, false, false, false, false, false, false, false, false, false, false, false, false, false, false, false, false, false, false, false, false, false, false, false, false, false, false, false, false, false, false, false, false, false, false, false, false, false, false, false, false, false, false, false, false, false, false, false, false, false, false, false, false, false, false, false, false, false] (take_ofW HT_.out HW_.out (by kernel_rfl)) hHeld ?_
                    refine one_ (i := 7) (N := some 27) #[true, true, true, true, true, true, true, true, false, false, false, false, false, false, false, false, false, false, false, false, false, false, false, false, false, false, false, false, false, false, false, false, false, false, false, false, false, false, false, false, false, false, false, false, false, false, false, false, false, false, false, false, false, false, false, false, false, false, false, false, false, false, false, false] rfl rfl (one_of HT_.out (by kernel_rfl)) (by decide) (fun K hK => ?_)
                    refine gc Try.func35 #[.int .i64 0] (ints_Point.calls 0 t9756 t9757 t9758 _ A15.out) ?_
                    intro w75 hb
                    replace BK9713 := kb BK9713 hb
                    replace BK9729 := kb BK9729 hb
                    replace BK9736 := kb BK9736 hb
                    replace BK9749 := kb BK9749 hb
                    replace HB := kh HB hb
                    (try clear hb)
                    refine hK.out _ _ ⟨bc BK9713 0, bc BK9713 1, bc BK9713 2, bc BK9713 3, bc BK9713 4, bc BK9713 5, bc BK9729 0, bc BK9729 1, bc BK9729 2, bc BK9729 3, bc BK9729 4, bc BK9729 5, bc BK9749 0, bc BK9749 1, bc BK9749 2, bc BK9736 0, bc BK9736 1, bc BK9736 2, bc BK9736 3, bc BK9736 4, bc BK9736 5⟩ (fun hHeld => ?_)
                    clear hK K
                    refine nrm (some 27) ?_
                    refine one_ (i := 8) (N := some 28) #[true, true, true, true, true, true, true, true, true, false, false, false, false, false, false, false, false, false, false, false, false, false, false, false, false, false, false, false, false, false, false, false, false, false, false, false, false, false, false, false, false, false, false, false, false, false, false, false, false, false, false, false, false, false, false, false, false, false, false, false, false, false, false, false] rfl rfl (one_of HT_.out (by kernel_rfl)) (by decide) (fun K hK => ?_)
                    refine gc Try.func35 #[.int .i64 2] (ints_Point.calls 2 t9759 t9760 t9761 _ A16.out) ?_
                    intro w76 hb
                    replace BK9713 := kb BK9713 hb
                    replace BK9729 := kb BK9729 hb
                    replace BK9736 := kb BK9736 hb
                    replace BK9749 := kb BK9749 hb
                    replace HB := kh HB hb
                    (try clear hb)
                    refine hK.out _ _ ⟨bc BK9713 0, bc BK9713 1, bc BK9713 2, bc BK9713 3, bc BK9713 4, bc BK9713 5, bc BK9729 0, bc BK9729 1, bc BK9729 2, bc BK9729 3, bc BK9729 4, bc BK9729 5, bc BK9749 0, bc BK9749 1, bc BK9749 2, bc BK9736 0, bc BK9736 1, bc BK9736 2, bc BK9736 3, bc BK9736 4, bc BK9736 5⟩ (fun hHeld => ?_)
                    clear hK K
                    refine nrm (some 28) ?_
                    refine pur 9 (some 29) #[true, true, true, true, true, true, true, true, true, true, false, false, false, false, false, false, false, false, false, false, false, false, false, false, false, false, false, false, false, false, false, false, false, false, false, false, false, false, false, false, false, false, false, false, false, false, false, false, false, false, false, false, false, false, false, false, false, false, false, false, false, false, false, false] (any_of HT_.out (by kernel_rfl)) ?_
                    refine pur 10 (some 30) #[true, true, true, true, true, true, true, true, true, true, true, false, false, false, false, false, false, false, false, false, false, false, false, false, false, false, false, false, false, false, false, false, false, false, false, false, false, false, false, false, false, false, false, false, false, false, false, false, false, false, false, false, false, false, false, false, false, false, false, false, false, false, false, false] (any_of HT_.out (by kernel_rfl)) ?_
                    refine pur 11 (some 31) #[true, true, true, true, true, true, true, true, true, true, true, true, false, false, false, false, false, false, false, false, false, false, false, false, false, false, false, false, false, false, false, false, false, false, false, false, false, false, false, false, false, false, false, false, false, false, false, false, false, false, false, false, false, false, false, false, false, false, false, false, false, false, false, false] (any_of HT_.out (by kernel_rfl)) ?_
                    refine pur 12 (some 32) #[true, true, true, true, true, true, true, true, true, true, true, true, true, false, false, false, false, false, false, false, false, false, false, false, false, false, false, false, false, false, false, false, false, false, false, false, false, false, false, false, false, false, false, false, false, false, false, false, false, false, false, false, false, false, false, false, false, false, false, false, false, false, false, false] (any_of HT_.out (by kernel_rfl)) ?_
                    refine tak 13 (some 33) #[true, true, true, true, true, true, true, true, true, true, true, true, true, true, false, false, false, false, false, false, false, false, false, false, false, false, false, false, false, false, false, false, false, false, false, false, false, false, false, false, false, false, false, false, false, false, false, false, false, false, false, false, false, false, false, false, false, false, false, false, false, false, false, false] (take_ofW HT_.out HW_.out (by kernel_rfl)) hHeld ?_
                    refine one_ (i := 14) (N := some 34) #[true, true, true, true, true, true, true, true, true, true, true, true, true, true, true, false, false, false, false, false, false, false, false, false, false, false, false, false, false, false, false, false, false, false, false, false, false, false, false, false, false, false, false, false, false, false, false, false, false, false, false, false, false, false, false, false, false, false, false, false, false, false, false, false] rfl rfl (one_of HT_.out (by kernel_rfl)) (by decide) (fun K hK => ?_)
                    refine gc Try.func37 #[.int .i64 0, .int .i64 99] (ints_Make.calls 0 99 t9762 t9763 t9764 _ A18.out) ?_
                    intro w77 hb
                    replace BK9713 := kb BK9713 hb
                    replace BK9729 := kb BK9729 hb
                    replace BK9736 := kb BK9736 hb
                    replace BK9749 := kb BK9749 hb
                    replace HB := kh HB hb
                    (try clear hb)
                    refine hK.out _ _ ⟨bc BK9713 0, bc BK9713 1, bc BK9713 2, bc BK9713 3, bc BK9713 4, bc BK9713 5, bc BK9729 0, bc BK9729 1, bc BK9729 2, bc BK9729 3, bc BK9729 4, bc BK9729 5, bc BK9749 0, bc BK9749 1, bc BK9749 2, bc BK9736 0, bc BK9736 1, bc BK9736 2, bc BK9736 3, bc BK9736 4, bc BK9736 5⟩ (fun hHeld => ?_)
                    clear hK K
                    refine nrm (some 34) ?_
                    refine pur 15 (some 35) #[true, true, true, true, true, true, true, true, true, true, true, true, true, true, true, true, false, false, false, false, false, false, false, false, false, false, false, false, false, false, false, false, false, false, false, false, false, false, false, false, false, false, false, false, false, false, false, false, false, false, false, false, false, false, false, false, false, false, false, false, false, false, false, false] (any_of HT_.out (by kernel_rfl)) ?_
                    refine pur 16 (some 36) #[true, true, true, true, true, true, true, true, true, true, true, true, true, true, true, true, true, false, false, false, false, false, false, false, false, false, false, false, false, false, false, false, false, false, false, false, false, false, false, false, false, false, false, false, false, false, false, false, false, false, false, false, false, false, false, false, false, false, false, false, false, false, false, false] (any_of HT_.out (by kernel_rfl)) ?_
                    refine pur 17 (some 37) #[true, true, true, true, true, true, true, true, true, true, true, true, true, true, true, true, true, true, false, false, false, false, false, false, false, false, false, false, false, false, false, false, false, false, false, false, false, false, false, false, false, false, false, false, false, false, false, false, false, false, false, false, false, false, false, false, false, false, false, false, false, false, false, false] (any_of HT_.out (by kernel_rfl)) ?_
                    refine tak 18 (some 38) #[true, true, true, true, true, true, true, true, true, true, true, true, true, true, true, true, true, true, true, false, false, false, false, false, false, false, false, false, false, false, false, false, false, false, false, false, false, false, false, false, false, false, false, false, false, false, false, false, false, false, false, false, false, false, false, false, false, false, false, false, false, false, false, false] (take_ofW HT_.out HW_.out (by kernel_rfl)) hHeld ?_
                    refine one_ (i := 19) (N := some 39) #[true, true, true, true, true, true, true, true, true, true, true, true, true, true, true, true, true, true, true, true, false, false, false, false, false, false, false, false, false, false, false, false, false, false, false, false, false, false, false, false, false, false, false, false, false, false, false, false, false, false, false, false, false, false, false, false, false, false, false, false, false, false, false, false] rfl rfl (one_of HT_.out (by kernel_rfl)) (by decide) (fun K hK => ?_)
                    refine gc Try.func33 #[.agg #[.bool t9723, .int .i64 t9724, .int .i64 t9725, .bool t9726, .int .i64 t9727, .int .i64 t9728], .int .i64 1, .int .i64 1] (clock_Has.calls k t9723 t9724 t9725 t9726 t9727 t9728 1 1 true _ A20.out) ?_
                    intro w78 hb
                    replace BK9713 := kb BK9713 hb
                    replace BK9729 := kb BK9729 hb
                    replace BK9736 := kb BK9736 hb
                    replace BK9749 := kb BK9749 hb
                    replace HB := kh HB hb
                    (try clear hb)
                    refine hK.out _ _ ⟨bc BK9713 0, bc BK9713 1, bc BK9713 2, bc BK9713 3, bc BK9713 4, bc BK9713 5, bc BK9729 0, bc BK9729 1, bc BK9729 2, bc BK9729 3, bc BK9729 4, bc BK9729 5, bc BK9749 0, bc BK9749 1, bc BK9749 2, bc BK9736 0, bc BK9736 1, bc BK9736 2, bc BK9736 3, bc BK9736 4, bc BK9736 5⟩ (fun hHeld => ?_)
                    clear hK K
                    refine nrm (some 39) ?_
                    refine pur 20 (some 40) #[true, true, true, true, true, true, true, true, true, true, true, true, true, true, true, true, true, true, true, true, true, false, false, false, false, false, false, false, false, false, false, false, false, false, false, false, false, false, false, false, false, false, false, false, false, false, false, false, false, false, false, false, false, false, false, false, false, false, false, false, false, false, false, false] (any_of HT_.out (by kernel_rfl)) ?_
                    refine pur 21 (some 41) #[true, true, true, true, true, true, true, true, true, true, true, true, true, true, true, true, true, true, true, true, true, true, false, false, false, false, false, false, false, false, false, false, false, false, false, false, false, false, false, false, false, false, false, false, false, false, false, false, false, false, false, false, false, false, false, false, false, false, false, false, false, false, false, false] (any_of HT_.out (by kernel_rfl)) ?_
                    refine tak 22 (some 42) #[true, true, true, true, true, true, true, true, true, true, true, true, true, true, true, true, true, true, true, true, true, true, true, false, false, false, false, false, false, false, false, false, false, false, false, false, false, false, false, false, false, false, false, false, false, false, false, false, false, false, false, false, false, false, false, false, false, false, false, false, false, false, false, false] (take_ofW HT_.out HW_.out (by kernel_rfl)) hHeld ?_
                    refine one_ (i := 23) (N := some 43) #[true, true, true, true, true, true, true, true, true, true, true, true, true, true, true, true, true, true, true, true, true, true, true, true, false, false, false, false, false, false, false, false, false, false, false, false, false, false, false, false, false, false, false, false, false, false, false, false, false, false, false, false, false, false, false, false, false, false, false, false, false, false, false, false] rfl rfl (one_of HT_.out (by kernel_rfl)) (by decide) (fun K hK => ?_)
                    refine gc Try.func33 #[.agg #[.bool t9723, .int .i64 t9724, .int .i64 t9725, .bool t9726, .int .i64 t9727, .int .i64 t9728], .int .i64 1, .int .i64 0] (clock_Has.calls k t9723 t9724 t9725 t9726 t9727 t9728 1 0 false _ A22.out) ?_
                    intro w79 hb
                    replace BK9713 := kb BK9713 hb
                    replace BK9729 := kb BK9729 hb
                    replace BK9736 := kb BK9736 hb
                    replace BK9749 := kb BK9749 hb
                    replace HB := kh HB hb
                    (try clear hb)
                    refine hK.out _ _ ⟨bc BK9713 0, bc BK9713 1, bc BK9713 2, bc BK9713 3, bc BK9713 4, bc BK9713 5, bc BK9729 0, bc BK9729 1, bc BK9729 2, bc BK9729 3, bc BK9729 4, bc BK9729 5, bc BK9749 0, bc BK9749 1, bc BK9749 2, bc BK9736 0, bc BK9736 1, bc BK9736 2, bc BK9736 3, bc BK9736 4, bc BK9736 5⟩ (fun hHeld => ?_)
                    clear hK K
                    refine nrm (some 43) ?_
                    refine pur 24 (some 44) #[true, true, true, true, true, true, true, true, true, true, true, true, true, true, true, true, true, true, true, true, true, true, true, true, true, false, false, false, false, false, false, false, false, false, false, false, false, false, false, false, false, false, false, false, false, false, false, false, false, false, false, false, false, false, false, false, false, false, false, false, false, false, false, false] (any_of HT_.out (by kernel_rfl)) ?_
                    refine pur 25 (some 45) #[true, true, true, true, true, true, true, true, true, true, true, true, true, true, true, true, true, true, true, true, true, true, true, true, true, true, false, false, false, false, false, false, false, false, false, false, false, false, false, false, false, false, false, false, false, false, false, false, false, false, false, false, false, false, false, false, false, false, false, false, false, false, false, false] (any_of HT_.out (by kernel_rfl)) ?_
                    refine pur 26 (some 46) #[true, true, true, true, true, true, true, true, true, true, true, true, true, true, true, true, true, true, true, true, true, true, true, true, true, true, true, false, false, false, false, false, false, false, false, false, false, false, false, false, false, false, false, false, false, false, false, false, false, false, false, false, false, false, false, false, false, false, false, false, false, false, false, false] (any_of HT_.out (by kernel_rfl)) ?_
                    refine tak 27 (some 47) #[true, true, true, true, true, true, true, true, true, true, true, true, true, true, true, true, true, true, true, true, true, true, true, true, true, true, true, true, false, false, false, false, false, false, false, false, false, false, false, false, false, false, false, false, false, false, false, false, false, false, false, false, false, false, false, false, false, false, false, false, false, false, false, false] (take_ofW HT_.out HW_.out (by kernel_rfl)) hHeld ?_
                    refine tak 28 (some 48) #[true, true, true, true, true, true, true, true, true, true, true, true, true, true, true, true, true, true, true, true, true, true, true, true, true, true, true, true, true, false, false, false, false, false, false, false, false, false, false, false, false, false, false, false, false, false, false, false, false, false, false, false, false, false, false, false, false, false, false, false, false, false, false, false] (take_ofW HT_.out HW_.out (by kernel_rfl)) hHeld ?_
                    refine one_ (i := 29) (N := some 49) #[true, true, true, true, true, true, true, true, true, true, true, true, true, true, true, true, true, true, true, true, true, true, true, true, true, true, true, true, true, true, false, false, false, false, false, false, false, false, false, false, false, false, false, false, false, false, false, false, false, false, false, false, false, false, false, false, false, false, false, false, false, false, false, false] rfl rfl (one_of HT_.out (by kernel_rfl)) (by decide) (fun K hK => ?_)
                    refine gc Try.func31 #[.agg #[.bool t9723, .int .i64 t9724, .int .i64 t9725, .bool t9726, .int .i64 t9727, .int .i64 t9728], .agg #[.bool t9730, .int .i64 t9731, .int .i64 t9732, .bool t9733, .int .i64 t9734, .int .i64 t9735]] (clock_Inside.calls k t9723 t9724 t9725 t9726 t9727 t9728 t9730 t9731 t9732 t9733 t9734 t9735 true _ A24.out) ?_
                    intro w80 hb
                    replace BK9713 := kb BK9713 hb
                    replace BK9729 := kb BK9729 hb
                    replace BK9736 := kb BK9736 hb
                    replace BK9749 := kb BK9749 hb
                    replace HB := kh HB hb
                    (try clear hb)
                    refine hK.out _ _ ⟨bc BK9713 0, bc BK9713 1, bc BK9713 2, bc BK9713 3, bc BK9713 4, bc BK9713 5, bc BK9729 0, bc BK9729 1, bc BK9729 2, bc BK9729 3, bc BK9729 4, bc BK9729 5, bc BK9749 0, bc BK9749 1, bc BK9749 2, bc BK9736 0, bc BK9736 1, bc BK9736 2, bc BK9736 3, bc BK9736 4, bc BK9736 5⟩ (fun hHeld => ?_)
                    clear hK K
                    refine nrm (some 49) ?_
                    refine pur 30 (some 50) #[true, true, true, true, true, true, true, true, true, true, true, true, true, true, true, true, true, true, true, true, true, true, true, true, true, true, true, true, true, true, true, false, false, false, false, false, false, false, false, false, false, false, false, false, false, false, false, false, false, false, false, false, false, false, false, false, false, false, false, false, false, false, false, false] (any_of HT_.out (by kernel_rfl)) ?_
                    refine pur 31 (some 51) #[true, true, true, true, true, true, true, true, true, true, true, true, true, true, true, true, true, true, true, true, true, true, true, true, true, true, true, true, true, true, true, true, false, false, false, false, false, false, false, false, false, false, false, false, false, false, false, false, false, false, false, false, false, false, false, false, false, false, false, false, false, false, false, false] (any_of HT_.out (by kernel_rfl)) ?_
                    refine tak 32 (some 52) #[true, true, true, true, true, true, true, true, true, true, true, true, true, true, true, true, true, true, true, true, true, true, true, true, true, true, true, true, true, true, true, true, true, false, false, false, false, false, false, false, false, false, false, false, false, false, false, false, false, false, false, false, false, false, false, false, false, false, false, false, false, false, false, false] (take_ofW HT_.out HW_.out (by kernel_rfl)) hHeld ?_
                    refine tak 33 (some 53) #[true, true, true, true, true, true, true, true, true, true, true, true, true, true, true, true, true, true, true, true, true, true, true, true, true, true, true, true, true, true, true, true, true, true, false, false, false, false, false, false, false, false, false, false, false, false, false, false, false, false, false, false, false, false, false, false, false, false, false, false, false, false, false, false] (take_ofW HT_.out HW_.out (by kernel_rfl)) hHeld ?_
                    refine one_ (i := 34) (N := some 54) #[true, true, true, true, true, true, true, true, true, true, true, true, true, true, true, true, true, true, true, true, true, true, true, true, true, true, true, true, true, true, true, true, true, true, true, false, false, false, false, false, false, false, false, false, false, false, false, false, false, false, false, false, false, false, false, false, false, false, false, false, false, false, false, false] rfl rfl (one_of HT_.out (by kernel_rfl)) (by decide) (fun K hK => ?_)
                    refine gc Try.func26 #[.agg #[.bool t9707, .int .i64 t9708, .int .i64 t9709, .bool t9710, .int .i64 t9711, .int .i64 t9712], .agg #[.bool t9723, .int .i64 t9724, .int .i64 t9725, .bool t9726, .int .i64 t9727, .int .i64 t9728]] (clock_Join.calls k t9707 t9708 t9709 t9710 t9711 t9712 t9723 t9724 t9725 t9726 t9727 t9728 t9768 t9769 t9770 t9771 t9772 t9773 _ A26.out) ?_
                    intro w81 hb
                    replace BK9713 := kb BK9713 hb
                    replace BK9729 := kb BK9729 hb
                    replace BK9736 := kb BK9736 hb
                    replace BK9749 := kb BK9749 hb
                    replace HB := kh HB hb
                    (try clear hb)
                    refine hK.out _ _ ⟨bc BK9713 0, bc BK9713 1, bc BK9713 2, bc BK9713 3, bc BK9713 4, bc BK9713 5, bc BK9729 0, bc BK9729 1, bc BK9729 2, bc BK9729 3, bc BK9729 4, bc BK9729 5, bc BK9749 0, bc BK9749 1, bc BK9749 2, bc BK9736 0, bc BK9736 1, bc BK9736 2, bc BK9736 3, bc BK9736 4, bc BK9736 5⟩ (fun hHeld => ?_)
                    clear hK K
                    refine nrm (some 54) ?_
                    refine pur 35 (some 55) #[true, true, true, true, true, true, true, true, true, true, true, true, true, true, true, true, true, true, true, true, true, true, true, true, true, true, true, true, true, true, true, true, true, true, true, true, false, false, false, false, false, false, false, false, false, false, false, false, false, false, false, false, false, false, false, false, false, false, false, false, false, false, false, false] (any_of HT_.out (by kernel_rfl)) ?_
                    refine one_ (i := 36) (N := some 56) #[true, true, true, true, true, true, true, true, true, true, true, true, true, true, true, true, true, true, true, true, true, true, true, true, true, true, true, true, true, true, true, true, true, true, true, true, true, false, false, false, false, false, false, false, false, false, false, false, false, false, false, false, false, false, false, false, false, false, false, false, false, false, false, false] rfl rfl (one_of HT_.out (by kernel_rfl)) (by decide) (fun K hK => ?_)
                    refine gc Try.func37 #[.int .i64 0, .int .i64 2] (ints_Make.calls 0 2 t9774 t9775 t9776 _ A27.out) ?_
                    intro w82 hb
                    replace BK9713 := kb BK9713 hb
                    replace BK9729 := kb BK9729 hb
                    replace BK9736 := kb BK9736 hb
                    replace BK9749 := kb BK9749 hb
                    replace HB := kh HB hb
                    (try clear hb)
                    refine hK.out _ _ ⟨bc BK9713 0, bc BK9713 1, bc BK9713 2, bc BK9713 3, bc BK9713 4, bc BK9713 5, bc BK9729 0, bc BK9729 1, bc BK9729 2, bc BK9729 3, bc BK9729 4, bc BK9729 5, bc BK9749 0, bc BK9749 1, bc BK9749 2, bc BK9736 0, bc BK9736 1, bc BK9736 2, bc BK9736 3, bc BK9736 4, bc BK9736 5⟩ (fun hHeld => ?_)
                    clear hK K
                    refine nrm (some 56) ?_
                    refine pur 37 (some 57) #[true, true, true, true, true, true, true, true, true, true, true, true, true, true, true, true, true, true, true, true, true, true, true, true, true, true, true, true, true, true, true, true, true, true, true, true, true, true, false, false, false, false, false, false, false, false, false, false, false, false, false, false, false, false, false, false, false, false, false, false, false, false, false, false] (any_of HT_.out (by kernel_rfl)) ?_
                    refine pur 38 (some 58) #[true, true, true, true, true, true, true, true, true, true, true, true, true, true, true, true, true, true, true, true, true, true, true, true, true, true, true, true, true, true, true, true, true, true, true, true, true, true, true, false, false, false, false, false, false, false, false, false, false, false, false, false, false, false, false, false, false, false, false, false, false, false, false, false] (any_of HT_.out (by kernel_rfl)) ?_
                    refine pur 39 (some 59) #[true, true, true, true, true, true, true, true, true, true, true, true, true, true, true, true, true, true, true, true, true, true, true, true, true, true, true, true, true, true, true, true, true, true, true, true, true, true, true, true, false, false, false, false, false, false, false, false, false, false, false, false, false, false, false, false, false, false, false, false, false, false, false, false] (any_of HT_.out (by kernel_rfl)) ?_
                    refine tak 40 (some 60) #[true, true, true, true, true, true, true, true, true, true, true, true, true, true, true, true, true, true, true, true, true, true, true, true, true, true, true, true, true, true, true, true, true, true, true, true, true, true, true, true, true, false, false, false, false, false, false, false, false, false, false, false, false, false, false, false, false, false, false, false, false, false, false, false] (take_ofW HT_.out HW_.out (by kernel_rfl)) hHeld ?_
                    refine tak 41 (some 61) #[true, true, true, true, true, true, true, true, true, true, true, true, true, true, true, true, true, true, true, true, true, true, true, true, true, true, true, true, true, true, true, true, true, true, true, true, true, true, true, true, true, true, false, false, false, false, false, false, false, false, false, false, false, false, false, false, false, false, false, false, false, false, false, false] (take_ofW HT_.out HW_.out (by kernel_rfl)) hHeld ?_
                    refine one_ (i := 42) (N := some 62) #[true, true, true, true, true, true, true, true, true, true, true, true, true, true, true, true, true, true, true, true, true, true, true, true, true, true, true, true, true, true, true, true, true, true, true, true, true, true, true, true, true, true, true, false, false, false, false, false, false, false, false, false, false, false, false, false, false, false, false, false, false, false, false, false] rfl rfl (one_of HT_.out (by kernel_rfl)) (by decide) (fun K hK => ?_)
                    refine gc Try.func28 #[.agg #[.bool t9707, .int .i64 t9708, .int .i64 t9709, .bool t9710, .int .i64 t9711, .int .i64 t9712], .agg #[.bool t9723, .int .i64 t9724, .int .i64 t9725, .bool t9726, .int .i64 t9727, .int .i64 t9728]] (clock_Meet.calls k t9707 t9708 t9709 t9710 t9711 t9712 t9723 t9724 t9725 t9726 t9727 t9728 true t9778 t9779 t9780 t9781 t9782 _ A29.out) ?_
                    intro w83 hb
                    replace BK9713 := kb BK9713 hb
                    replace BK9729 := kb BK9729 hb
                    replace BK9736 := kb BK9736 hb
                    replace BK9749 := kb BK9749 hb
                    replace HB := kh HB hb
                    (try clear hb)
                    refine hK.out _ _ ⟨bc BK9713 0, bc BK9713 1, bc BK9713 2, bc BK9713 3, bc BK9713 4, bc BK9713 5, bc BK9729 0, bc BK9729 1, bc BK9729 2, bc BK9729 3, bc BK9729 4, bc BK9729 5, bc BK9749 0, bc BK9749 1, bc BK9749 2, bc BK9736 0, bc BK9736 1, bc BK9736 2, bc BK9736 3, bc BK9736 4, bc BK9736 5⟩ (fun hHeld => ?_)
                    clear hK K
                    refine nrm (some 62) ?_
                    refine pur 43 (some 63) #[true, true, true, true, true, true, true, true, true, true, true, true, true, true, true, true, true, true, true, true, true, true, true, true, true, true, true, true, true, true, true, true, true, true, true, true, true, true, true, true, true, true, true, true, false, false, false, false, false, false, false, false, false, false, false, false, false, false, false, false, false, false, false, false] (any_of HT_.out (by kernel_rfl)) ?_
                    refine pur 44 (some 64) #[true, true, true, true, true, true, true, true, true, true, true, true, true, true, true, true, true, true, true, true, true, true, true, true, true, true, true, true, true, true, true, true, true, true, true, true, true, true, true, true, true, true, true, true, true, false, false, false, false, false, false, false, false, false, false, false, false, false, false, false, false, false, false, false] (any_of HT_.out (by kernel_rfl)) ?_
                    refine pur 45 (some 65) #[true, true, true, true, true, true, true, true, true, true, true, true, true, true, true, true, true, true, true, true, true, true, true, true, true, true, true, true, true, true, true, true, true, true, true, true, true, true, true, true, true, true, true, true, true, true, false, false, false, false, false, false, false, false, false, false, false, false, false, false, false, false, false, false] (any_of HT_.out (by kernel_rfl)) ?_
                    refine pur 46 (some 66) #[true, true, true, true, true, true, true, true, true, true, true, true, true, true, true, true, true, true, true, true, true, true, true, true, true, true, true, true, true, true, true, true, true, true, true, true, true, true, true, true, true, true, true, true, true, true, true, false, false, false, false, false, false, false, false, false, false, false, false, false, false, false, false, false] (any_of HT_.out (by kernel_rfl)) ?_
                    refine tak 47 (some 67) #[true, true, true, true, true, true, true, true, true, true, true, true, true, true, true, true, true, true, true, true, true, true, true, true, true, true, true, true, true, true, true, true, true, true, true, true, true, true, true, true, true, true, true, true, true, true, true, true, false, false, false, false, false, false, false, false, false, false, false, false, false, false, false, false] (take_ofW HT_.out HW_.out (by kernel_rfl)) hHeld ?_
                    refine one_ (i := 48) (N := some 68) #[true, true, true, true, true, true, true, true, true, true, true, true, true, true, true, true, true, true, true, true, true, true, true, true, true, true, true, true, true, true, true, true, true, true, true, true, true, true, true, true, true, true, true, true, true, true, true, true, true, false, false, false, false, false, false, false, false, false, false, false, false, false, false, false] rfl rfl (one_of HT_.out (by kernel_rfl)) (by decide) (fun K hK => ?_)
                    refine gc Try.func35 #[.int .i64 3] (ints_Point.calls 3 t9783 t9784 t9785 _ A31.out) ?_
                    intro w84 hb
                    replace BK9713 := kb BK9713 hb
                    replace BK9729 := kb BK9729 hb
                    replace BK9736 := kb BK9736 hb
                    replace BK9749 := kb BK9749 hb
                    replace HB := kh HB hb
                    (try clear hb)
                    refine hK.out _ _ ⟨bc BK9713 0, bc BK9713 1, bc BK9713 2, bc BK9713 3, bc BK9713 4, bc BK9713 5, bc BK9729 0, bc BK9729 1, bc BK9729 2, bc BK9729 3, bc BK9729 4, bc BK9729 5, bc BK9749 0, bc BK9749 1, bc BK9749 2, bc BK9736 0, bc BK9736 1, bc BK9736 2, bc BK9736 3, bc BK9736 4, bc BK9736 5⟩ (fun hHeld => ?_)
                    clear hK K
                    refine nrm (some 68) ?_
                    refine one_ (i := 49) (N := some 69) #[true, true, true, true, true, true, true, true, true, true, true, true, true, true, true, true, true, true, true, true, true, true, true, true, true, true, true, true, true, true, true, true, true, true, true, true, true, true, true, true, true, true, true, true, true, true, true, true, true, true, false, false, false, false, false, false, false, false, false, false, false, false, false, false] rfl rfl (one_of HT_.out (by kernel_rfl)) (by decide) (fun K hK => ?_)
                    refine gc Try.func35 #[.int .i64 1] (ints_Point.calls 1 t9786 t9787 t9788 _ A32.out) ?_
                    intro w85 hb
                    replace BK9713 := kb BK9713 hb
                    replace BK9729 := kb BK9729 hb
                    replace BK9736 := kb BK9736 hb
                    replace BK9749 := kb BK9749 hb
                    replace HB := kh HB hb
                    (try clear hb)
                    refine hK.out _ _ ⟨bc BK9713 0, bc BK9713 1, bc BK9713 2, bc BK9713 3, bc BK9713 4, bc BK9713 5, bc BK9729 0, bc BK9729 1, bc BK9729 2, bc BK9729 3, bc BK9729 4, bc BK9729 5, bc BK9749 0, bc BK9749 1, bc BK9749 2, bc BK9736 0, bc BK9736 1, bc BK9736 2, bc BK9736 3, bc BK9736 4, bc BK9736 5⟩ (fun hHeld => ?_)
                    clear hK K
                    refine nrm (some 69) ?_
                    refine one_ (i := 50) (N := some 70) #[true, true, true, true, true, true, true, true, true, true, true, true, true, true, true, true, true, true, true, true, true, true, true, true, true, true, true, true, true, true, true, true, true, true, true, true, true, true, true, true, true, true, true, true, true, true, true, true, true, true, true, false, false, false, false, false, false, false, false, false, false, false, false, false] rfl rfl (one_of HT_.out (by kernel_rfl)) (by decide) (fun K hK => ?_)
                    refine gc Try.func22 #[.agg #[.bool t9730, .int .i64 t9731, .int .i64 t9732, .bool t9733, .int .i64 t9734, .int .i64 t9735], .agg #[.bool t9783, .int .i64 t9784, .int .i64 t9785], .agg #[.bool t9786, .int .i64 t9787, .int .i64 t9788]] (clock_Tight.calls k t9730 t9731 t9732 t9733 t9734 t9735 t9783 t9784 t9785 t9786 t9787 t9788 t9789 t9790 t9791 t9792 t9793 t9794 _ A33.out) ?_
                    intro w86 hb
                    replace BK9713 := kb BK9713 hb
                    replace BK9729 := kb BK9729 hb
                    replace BK9736 := kb BK9736 hb
                    replace BK9749 := kb BK9749 hb
                    replace HB := kh HB hb
                    (try clear hb)
                    refine hK.out _ _ ⟨bc BK9713 0, bc BK9713 1, bc BK9713 2, bc BK9713 3, bc BK9713 4, bc BK9713 5, bc BK9729 0, bc BK9729 1, bc BK9729 2, bc BK9729 3, bc BK9729 4, bc BK9729 5, bc BK9749 0, bc BK9749 1, bc BK9749 2, bc BK9736 0, bc BK9736 1, bc BK9736 2, bc BK9736 3, bc BK9736 4, bc BK9736 5⟩ (fun hHeld => ?_)
                    clear hK K
                    refine nrm (some 70) ?_
                    refine pur 51 (some 71) #[true, true, true, true, true, true, true, true, true, true, true, true, true, true, true, true, true, true, true, true, true, true, true, true, true, true, true, true, true, true, true, true, true, true, true, true, true, true, true, true, true, true, true, true, true, true, true, true, true, true, true, true, false, false, false, false, false, false, false, false, false, false, false, false] (any_of HT_.out (by kernel_rfl)) ?_
                    refine one_ (i := 52) (N := some 72) #[true, true, true, true, true, true, true, true, true, true, true, true, true, true, true, true, true, true, true, true, true, true, true, true, true, true, true, true, true, true, true, true, true, true, true, true, true, true, true, true, true, true, true, true, true, true, true, true, true, true, true, true, true, false, false, false, false, false, false, false, false, false, false, false] rfl rfl (one_of HT_.out (by kernel_rfl)) (by decide) (fun K hK => ?_)
                    refine gc Try.func35 #[.int .i64 2] (ints_Point.calls 2 t9795 t9796 t9797 _ A34.out) ?_
                    intro w87 hb
                    replace BK9713 := kb BK9713 hb
                    replace BK9729 := kb BK9729 hb
                    replace BK9736 := kb BK9736 hb
                    replace BK9749 := kb BK9749 hb
                    replace HB := kh HB hb
                    (try clear hb)
                    refine hK.out _ _ ⟨bc BK9713 0, bc BK9713 1, bc BK9713 2, bc BK9713 3, bc BK9713 4, bc BK9713 5, bc BK9729 0, bc BK9729 1, bc BK9729 2, bc BK9729 3, bc BK9729 4, bc BK9729 5, bc BK9749 0, bc BK9749 1, bc BK9749 2, bc BK9736 0, bc BK9736 1, bc BK9736 2, bc BK9736 3, bc BK9736 4, bc BK9736 5⟩ (fun hHeld => ?_)
                    clear hK K
                    refine nrm (some 72) ?_
                    refine pur 53 (some 73) #[true, true, true, true, true, true, true, true, true, true, true, true, true, true, true, true, true, true, true, true, true, true, true, true, true, true, true, true, true, true, true, true, true, true, true, true, true, true, true, true, true, true, true, true, true, true, true, true, true, true, true, true, true, true, false, false, false, false, false, false, false, false, false, false] (any_of HT_.out (by kernel_rfl)) ?_
                    refine pur 54 (some 74) #[true, true, true, true, true, true, true, true, true, true, true, true, true, true, true, true, true, true, true, true, true, true, true, true, true, true, true, true, true, true, true, true, true, true, true, true, true, true, true, true, true, true, true, true, true, true, true, true, true, true, true, true, true, true, true, false, false, false, false, false, false, false, false, false] (any_of HT_.out (by kernel_rfl)) ?_
                    refine pur 55 (some 75) #[true, true, true, true, true, true, true, true, true, true, true, true, true, true, true, true, true, true, true, true, true, true, true, true, true, true, true, true, true, true, true, true, true, true, true, true, true, true, true, true, true, true, true, true, true, true, true, true, true, true, true, true, true, true, true, true, false, false, false, false, false, false, false, false] (any_of HT_.out (by kernel_rfl)) ?_
                    refine tak 56 (some 76) #[true, true, true, true, true, true, true, true, true, true, true, true, true, true, true, true, true, true, true, true, true, true, true, true, true, true, true, true, true, true, true, true, true, true, true, true, true, true, true, true, true, true, true, true, true, true, true, true, true, true, true, true, true, true, true, true, true, false, false, false, false, false, false, false] (take_ofW HT_.out HW_.out (by kernel_rfl)) hHeld ?_
                    refine tak 57 (some 77) #[true, true, true, true, true, true, true, true, true, true, true, true, true, true, true, true, true, true, true, true, true, true, true, true, true, true, true, true, true, true, true, true, true, true, true, true, true, true, true, true, true, true, true, true, true, true, true, true, true, true, true, true, true, true, true, true, true, true, false, false, false, false, false, false] (take_ofW HT_.out HW_.out (by kernel_rfl)) hHeld ?_
                    refine one_ (i := 58) (N := some 78) #[true, true, true, true, true, true, true, true, true, true, true, true, true, true, true, true, true, true, true, true, true, true, true, true, true, true, true, true, true, true, true, true, true, true, true, true, true, true, true, true, true, true, true, true, true, true, true, true, true, true, true, true, true, true, true, true, true, true, true, false, false, false, false, false] rfl rfl (one_of HT_.out (by kernel_rfl)) (by decide) (fun K hK => ?_)
                    refine goes_ Try.func29 (by kernel_rfl) rfl #[.agg #[.bool t9707, .int .i64 t9708, .int .i64 t9709, .bool t9710, .int .i64 t9711, .int .i64 t9712], .agg #[.bool t9723, .int .i64 t9724, .int .i64 t9725, .bool t9726, .int .i64 t9727, .int .i64 t9728], .slice none 0 0] (by rfl) rfl rfl pa ?_
                    refine (clock_Widen.calls k t9707 t9708 t9709 t9710 t9711 t9712 t9723 t9724 t9725 t9726 t9727 t9728 _ _ ([] : List Int) t9798 t9799 t9800 t9801 t9802 t9803 _ ?side1 ?side2 A36.out).mono ?_
                    (case side1 => exact Kd.C_nil _ _)
                    (case side2 => exact Nat.le_refl _)
                    rintro e w88 ⟨rfl, hb⟩
                    refine ⟨_, rfl, ?_⟩
                    replace BK9713 := kb BK9713 hb
                    replace BK9729 := kb BK9729 hb
                    replace BK9736 := kb BK9736 hb
                    replace BK9749 := kb BK9749 hb
                    replace HB := kh HB hb
                    (try clear hb)
                    refine hK.out _ _ ⟨bc BK9713 0, bc BK9713 1, bc BK9713 2, bc BK9713 3, bc BK9713 4, bc BK9713 5, bc BK9729 0, bc BK9729 1, bc BK9729 2, bc BK9729 3, bc BK9729 4, bc BK9729 5, bc BK9749 0, bc BK9749 1, bc BK9749 2, bc BK9736 0, bc BK9736 1, bc BK9736 2, bc BK9736 3, bc BK9736 4, bc BK9736 5⟩ (fun hHeld => ?_)
                    clear hK K
                    refine nrm (some 78) ?_
                    refine pur 59 (some 79) #[true, true, true, true, true, true, true, true, true, true, true, true, true, true, true, true, true, true, true, true, true, true, true, true, true, true, true, true, true, true, true, true, true, true, true, true, true, true, true, true, true, true, true, true, true, true, true, true, true, true, true, true, true, true, true, true, true, true, true, true, false, false, false, false] (any_of HT_.out (by kernel_rfl)) ?_
                    refine pur 60 (some 80) #[true, true, true, true, true, true, true, true, true, true, true, true, true, true, true, true, true, true, true, true, true, true, true, true, true, true, true, true, true, true, true, true, true, true, true, true, true, true, true, true, true, true, true, true, true, true, true, true, true, true, true, true, true, true, true, true, true, true, true, true, true, false, false, false] (any_of HT_.out (by kernel_rfl)) ?_
                    refine pur 61 (some 81) #[true, true, true, true, true, true, true, true, true, true, true, true, true, true, true, true, true, true, true, true, true, true, true, true, true, true, true, true, true, true, true, true, true, true, true, true, true, true, true, true, true, true, true, true, true, true, true, true, true, true, true, true, true, true, true, true, true, true, true, true, true, true, false, false] (any_of HT_.out (by kernel_rfl)) ?_
                    refine pur 62 (some 82) #[true, true, true, true, true, true, true, true, true, true, true, true, true, true, true, true, true, true, true, true, true, true, true, true, true, true, true, true, true, true, true, true, true, true, true, true, true, true, true, true, true, true, true, true, true, true, true, true, true, true, true, true, true, true, true, true, true, true, true, true, true, true, true, false] (any_of HT_.out (by kernel_rfl)) ?_
                    refine pur 63 (some 0) #[true, true, true, true, true, true, true, true, true, true, true, true, true, true, true, true, true, true, true, true, true, true, true, true, true, true, true, true, true, true, true, true, true, true, true, true, true, true, true, true, true, true, true, true, true, true, true, true, true, true, true, true, true, true, true, true, true, true, true, true, true, true, true, true] (any_of HT_.out (by kernel_rfl)) ?_
                    refine done_ (done_of HT_.out (by kernel_rfl)) ?_
                    try go_wp2
                    go_ret
                    exact ⟨pe, pl HB⟩
                  · rw [if_neg c35] at H
                    exact absurd H (by simp)
                · replace c30 := Bool.eq_false_iff.mpr c30
                  subst c30
                  rw [if_neg (show ¬ (false = true) by decide)] at H
                  exact absurd H (by simp)
              · rw [if_neg c28] at H
                exact absurd H (by simp)
            · replace c25 := Bool.eq_false_iff.mpr c25
              subst c25
              rw [if_neg (show ¬ (false = true) by decide)] at H
              exact absurd H (by simp)
        · replace c21 := Bool.eq_false_iff.mpr c21
          subst c21
          rw [if_neg (show ¬ (false = true) by decide)] at H
          exact absurd H (by simp)
      · rw [if_neg c19] at H
        exact absurd H (by simp)
    · rw [if_neg c17] at H
      exact absurd H (by simp)
  · rw [if_neg c14] at H
    exact absurd H (by simp)
end Go.Proofs.Ytinmgnlofininaa.PAll
end
