-- Laid by this session's wip/more.py over the kit's print; hand-written parts are in it.
import Derived.Test.YtinmgnlofininaaPAllx0
import Derived.Test.YtinmgnlofininaaPAllx3
import Derived.Test.YtinmgnlofininaaPAllx4
import Derived.Test.YtinmgnlofininaaPAllx5
import Derived.Test.YtinmgnlofininaaPAllx6
import Derived.Test.YtinmgnlofininaaPAllx8
import Derived.Test.YtinmgnlofininaaPAllx10
namespace Go.Proofs.Ytinmgnlofininaa.PAll
open Go.RowKit Go.Proofs.YtinmgnlofininaaW.PrintWords Go.Proofs.YtinmgnlofininaaW.PrintLast Go.Proofs.YtinmgnlofininaaW.PrintMore
attribute [local go_sem] max2_int min2_int max_two min_two max_three min_three max_four min_four   -- for this text's walks alone
set_option linter.unusedVariables false
set_option linter.unusedSimpArgs false

/-! ### flyballlaw17_IntsOrder: function 10 -/
def flyballlaw17_IntsOrder.f (k : Nat) (a0_0 : Bool) (a0_1 : Int) (a0_2 : Int) (a1_0 : Bool) (a1_1 : Int) (a1_2 : Int) (a2_0 : Bool) (a2_1 : Int) (a2_2 : Int) (a3_0 : Bool) (a3_1 : Int) (a3_2 : Int) : Option (Bool) := (flyballlaw17_works.f k).bind fun t4905 => (if t4905 = true then ((ints_Join.f k (([(⟨a0_0, a0_1, a0_2⟩ : S23), (⟨a2_0, a2_1, a2_2⟩ : S23)] : List (S23)))).bind fun bt4909 => ((ints_Join.f k (([(⟨a1_0, a1_1, a1_2⟩ : S23), (⟨a3_0, a3_1, a3_2⟩ : S23)] : List (S23)))).bind fun bt4916 => ((ints_Meet.f k a0_0 a0_1 a0_2 a2_0 a2_1 a2_2).bind fun bt4920 => ((ints_Inside.f a0_0 a0_1 a0_2 bt4909.1 bt4909.2.1 bt4909.2.2).bind fun t4924 => (if t4924 = true then ((ints_Inside.f bt4920.1 bt4920.2.1 bt4920.2.2 a0_0 a0_1 a0_2).bind fun t4925 => (if t4925 = true then ((ints_Inside.f bt4920.1 bt4920.2.1 bt4920.2.2 a2_0 a2_1 a2_2).bind fun t4926 => (if t4926 = true then ((ints_Add.f k a0_0 a0_1 a0_2 a1_0 a1_1 a1_2).bind fun bt4927 => ((ints_Add.f k bt4909.1 bt4909.2.1 bt4909.2.2 bt4916.1 bt4916.2.1 bt4916.2.2).bind fun bt4930 => ((ints_Inside.f bt4927.1 bt4927.2.1 bt4927.2.2 bt4930.1 bt4930.2.1 bt4930.2.2).bind fun t4933 => (if t4933 = true then ((ints_Sub.f k a0_0 a0_1 a0_2 a1_0 a1_1 a1_2).bind fun bt4934 => ((ints_Sub.f k bt4909.1 bt4909.2.1 bt4909.2.2 bt4916.1 bt4916.2.1 bt4916.2.2).bind fun bt4937 => ((ints_Inside.f bt4934.1 bt4934.2.1 bt4934.2.2 bt4937.1 bt4937.2.1 bt4937.2.2).bind fun t4940 => (if t4940 = true then ((ints_Mul.f k a0_0 a0_1 a0_2 a1_0 a1_1 a1_2).bind fun bt4941 => ((ints_Mul.f k bt4909.1 bt4909.2.1 bt4909.2.2 bt4916.1 bt4916.2.1 bt4916.2.2).bind fun bt4944 => ((ints_Inside.f bt4941.1 bt4941.2.1 bt4941.2.2 bt4944.1 bt4944.2.1 bt4944.2.2).bind fun t4947 => (if t4947 = true then ((ints_Div.f k a0_0 a0_1 a0_2 a1_0 a1_1 a1_2).bind fun bt4948 => ((ints_Div.f k bt4909.1 bt4909.2.1 bt4909.2.2 bt4916.1 bt4916.2.1 bt4916.2.2).bind fun bt4951 => ((ints_Inside.f bt4948.1 bt4948.2.1 bt4948.2.2 bt4951.1 bt4951.2.1 bt4951.2.2).bind fun t4954 => (if t4954 = true then ((ints_Abs.f k a0_0 a0_1 a0_2).bind fun bt4955 => ((ints_Abs.f k bt4909.1 bt4909.2.1 bt4909.2.2).bind fun bt4958 => ((ints_Inside.f bt4955.1 bt4955.2.1 bt4955.2.2 bt4958.1 bt4958.2.1 bt4958.2.2).bind fun t4961 => (if t4961 = true then ((ints_Neg.f a0_0 a0_1 a0_2).bind fun bt4962 => ((ints_Neg.f bt4909.1 bt4909.2.1 bt4909.2.2).bind fun bt4965 => ((ints_Inside.f bt4962.1 bt4962.2.1 bt4962.2.2 bt4965.1 bt4965.2.1 bt4965.2.2).bind fun t4968 => (some t4968)))) else (none))))) else (none))))) else (none))))) else (none))))) else (none))))) else (none))) else (none))) else (none)))))) else (some false))
theorem flyballlaw17_IntsOrder.mono : ∀ a0 a1 a2 a3 a4 a5 a6 a7 a8 a9 a10 a11 k, LeO (flyballlaw17_IntsOrder.f k a0 a1 a2 a3 a4 a5 a6 a7 a8 a9 a10 a11) (flyballlaw17_IntsOrder.f (k + 1) a0 a1 a2 a3 a4 a5 a6 a7 a8 a9 a10 a11) := by
  intro a0 a1 a2 a3 a4 a5 a6 a7 a8 a9 a10 a11 k
  unfold flyballlaw17_IntsOrder.f
  repeat' first
      | (with_reducible exact flyballlaw17_works.mono _)
      | (with_reducible exact ints_Abs.mono _ _ _ _)
      | (with_reducible exact ints_Add.mono _ _ _ _ _ _ _)
      | (with_reducible exact ints_Div.mono _ _ _ _ _ _ _)
      | (with_reducible exact ints_Join.mono _ _)
      | (with_reducible exact ints_Meet.mono _ _ _ _ _ _ _)
      | (with_reducible exact ints_Mul.mono _ _ _ _ _ _ _)
      | (with_reducible exact ints_Sub.mono _ _ _ _ _ _ _)
      | (with_reducible exact LeO.refl _)
      | (with_reducible exact LeO.none _)
      | (with_reducible refine LeO.ite ?_ ?_)
      | (with_reducible refine LeO.bind ?_ (fun _ => ?_))
      | exact flyballlaw17_works.mono _
      | exact ints_Abs.mono _ _ _ _
      | exact ints_Add.mono _ _ _ _ _ _ _
      | exact ints_Div.mono _ _ _ _ _ _ _
      | exact ints_Join.mono _ _
      | exact ints_Meet.mono _ _ _ _ _ _ _
      | exact ints_Mul.mono _ _ _ _ _ _ _
      | exact ints_Sub.mono _ _ _ _ _ _ _
      | exact LeO.none _
      | refine LeO.ite ?_ ?_
      | refine LeO.bind ?_ (fun _ => ?_)
def flyballlaw17_IntsOrder.T7 : Bool × List (List Nat × List Nat) := (true, [([], []), ([0], [0]), ([1], [1]), ([1], [1]), ([2, 3, 1, 1], [1, 2, 3]), ([1, 4], [1, 4]), ([5, 4], [5]), ([6], [6]), ([6], [6]), ([7, 8, 6, 6], [6, 7, 8]), ([6, 9], [6, 9]), ([10, 9], [10]), ([11], [11]), ([11], [11]), ([12, 13, 11, 11], [11, 12, 13]), ([11, 14], [11, 14]), ([15, 14], [15]), ([16], [16]), ([16], [16]), ([17, 18, 16, 16], [16, 17, 18]), ([16], [16]), ([16], [16]), ([20, 21, 19, 16], [16, 20, 21]), ([19, 22, 22, 16], [16, 19, 22]), ([16, 23], [16, 23]), ([24, 23], [24]), ([25], [25]), ([25], [25]), ([26, 27, 25, 25], [25, 26, 27]), ([25], [25]), ([25], [25]), ([29, 30, 28, 25], [25, 29, 30]), ([28, 31, 31, 25], [25, 28, 31]), ([25, 32], [25, 32]), ([33, 32], [33]), ([34], [34]), ([34], [34]), ([35, 36, 34, 34], [34, 35, 36]), ([34], [34]), ([34], [34]), ([38, 39, 37, 34], [34, 38, 39]), ([37, 40, 40, 34], [34, 37, 40]), ([34, 41], [34, 41]), ([42, 41], [42]), ([43], [43]), ([43], [43]), ([44, 45, 43, 43], [43, 44, 45]), ([43], [43]), ([43], [43]), ([47, 48, 46, 43], [43, 47, 48]), ([46, 49, 49, 43], [43, 46, 49]), ([43, 50], [43, 50]), ([51, 50], [51]), ([52], [52]), ([53, 52, 52], [52, 53]), ([52], [52]), ([55, 54, 52], [52, 55]), ([54, 56, 56, 52], [52, 54, 56]), ([52, 57], [52, 57]), ([58, 57], [58]), ([59], [59]), ([60, 59, 59], [59, 60]), ([59], [59]), ([62, 61, 59], [59, 62]), ([61, 63, 63, 59], [59, 61, 63]), ([59, 64], [59, 64]), ([65, 64, 0, 1, 2, 3, 4, 5, 6, 7, 8, 9, 10, 11, 12, 13, 14, 15, 16, 17, 18, 19, 20, 21, 22, 23, 24, 25, 26, 27, 28, 29, 30, 31, 32, 33, 34, 35, 36, 37, 38, 39, 40, 41, 42, 43, 44, 45, 46, 47, 48, 49, 50, 51, 52, 53, 54, 55, 56, 57, 58, 59, 60, 61, 62, 63, 64, 65], [65])])
def flyballlaw17_IntsOrder.B7 : List Nat := [0, 1, 3, 3, 15, 31, 63, 127, 127, 511, 1023, 2047, 4095, 4095, 16383, 32767, 65535, 131071, 131071, 524287, 131071, 131071, 4194303, 8388607, 16777215, 33554431, 67108863, 67108863, 268435455, 67108863, 67108863, 2147483647, 4294967295, 8589934591, 17179869183, 34359738367, 34359738367, 137438953471, 34359738367, 34359738367, 1099511627775, 2199023255551, 4398046511103, 8796093022207, 17592186044415, 17592186044415, 70368744177663, 17592186044415, 17592186044415, 562949953421311, 1125899906842623, 2251799813685247, 4503599627370495, 9007199254740991, 18014398509481983, 9007199254740991, 72057594037927935, 144115188075855871, 288230376151711743, 576460752303423487, 1152921504606846975, 2305843009213693951, 1152921504606846975, 9223372036854775807, 18446744073709551615, 36893488147419103231, 73786976294838206463]
theorem flyballlaw17_IntsOrder.tab7 : rtab .any (opsOf Try.f10 7) = flyballlaw17_IntsOrder.T7 := by kernel_rfl
theorem flyballlaw17_IntsOrder.bits7 : waitsOk flyballlaw17_IntsOrder.T7.2 flyballlaw17_IntsOrder.B7 = true := by kernel_rfl
set_option maxHeartbeats 8000000 in
set_option maxRecDepth 100000 in
theorem flyballlaw17_IntsOrder.calls (k : Nat) (a0_0 : Bool) (a0_1 : Int) (a0_2 : Int) (a1_0 : Bool) (a1_1 : Int) (a1_2 : Int) (a2_0 : Bool) (a2_1 : Int) (a2_2 : Int) (a3_0 : Bool) (a3_1 : Int) (a3_2 : Int) (r : Bool) (w : World) (h : flyballlaw17_IntsOrder.f k a0_0 a0_1 a0_2 a1_0 a1_1 a1_2 a2_0 a2_1 a2_2 a3_0 a3_1 a3_2 = some r) :
    Calls Try.prog 10 #[.agg #[.bool a0_0, .int .i64 a0_1, .int .i64 a0_2], .agg #[.bool a1_0, .int .i64 a1_1, .int .i64 a1_2], .agg #[.bool a2_0, .int .i64 a2_1, .int .i64 a2_2], .agg #[.bool a3_0, .int .i64 a3_1, .int .i64 a3_2]] w fun e w' => e = .returned (.bool r) ∧ Below w.heap.size w w' := by
  have hu23 := Try.underlying23
  have HB := Aside0.mk (Below.refl w.heap.size w)
  have H := h
  clear h
  unfold flyballlaw17_IntsOrder.f at H
  obtain ⟨t4905, A50, H⟩ := Option.bind_eq_some_iff.mp H
  have A5 := Aside0.mk A50
  clear A50
  (try dsimp only at H)
  by_cases c6 : t4905 = true
  · subst c6
    rw [if_pos rfl] at H
    obtain ⟨y4906, hy4906⟩ : ∃ y_ : List (S23), y_ = (([(⟨a0_0, a0_1, a0_2⟩ : S23), (⟨a2_0, a2_1, a2_2⟩ : S23)] : List (S23))) := ⟨_, rfl⟩
    replace H : ((ints_Join.f k y4906).bind fun bt4909 => ((ints_Join.f k (([(⟨a1_0, a1_1, a1_2⟩ : S23), (⟨a3_0, a3_1, a3_2⟩ : S23)] : List (S23)))).bind fun bt4916 => ((ints_Meet.f k a0_0 a0_1 a0_2 a2_0 a2_1 a2_2).bind fun bt4920 => ((ints_Inside.f a0_0 a0_1 a0_2 bt4909.1 bt4909.2.1 bt4909.2.2).bind fun t4924 => (if t4924 = true then ((ints_Inside.f bt4920.1 bt4920.2.1 bt4920.2.2 a0_0 a0_1 a0_2).bind fun t4925 => (if t4925 = true then ((ints_Inside.f bt4920.1 bt4920.2.1 bt4920.2.2 a2_0 a2_1 a2_2).bind fun t4926 => (if t4926 = true then ((ints_Add.f k a0_0 a0_1 a0_2 a1_0 a1_1 a1_2).bind fun bt4927 => ((ints_Add.f k bt4909.1 bt4909.2.1 bt4909.2.2 bt4916.1 bt4916.2.1 bt4916.2.2).bind fun bt4930 => ((ints_Inside.f bt4927.1 bt4927.2.1 bt4927.2.2 bt4930.1 bt4930.2.1 bt4930.2.2).bind fun t4933 => (if t4933 = true then ((ints_Sub.f k a0_0 a0_1 a0_2 a1_0 a1_1 a1_2).bind fun bt4934 => ((ints_Sub.f k bt4909.1 bt4909.2.1 bt4909.2.2 bt4916.1 bt4916.2.1 bt4916.2.2).bind fun bt4937 => ((ints_Inside.f bt4934.1 bt4934.2.1 bt4934.2.2 bt4937.1 bt4937.2.1 bt4937.2.2).bind fun t4940 => (if t4940 = true then ((ints_Mul.f k a0_0 a0_1 a0_2 a1_0 a1_1 a1_2).bind fun bt4941 => ((ints_Mul.f k bt4909.1 bt4909.2.1 bt4909.2.2 bt4916.1 bt4916.2.1 bt4916.2.2).bind fun bt4944 => ((ints_Inside.f bt4941.1 bt4941.2.1 bt4941.2.2 bt4944.1 bt4944.2.1 bt4944.2.2).bind fun t4947 => (if t4947 = true then ((ints_Div.f k a0_0 a0_1 a0_2 a1_0 a1_1 a1_2).bind fun bt4948 => ((ints_Div.f k bt4909.1 bt4909.2.1 bt4909.2.2 bt4916.1 bt4916.2.1 bt4916.2.2).bind fun bt4951 => ((ints_Inside.f bt4948.1 bt4948.2.1 bt4948.2.2 bt4951.1 bt4951.2.1 bt4951.2.2).bind fun t4954 => (if t4954 = true then ((ints_Abs.f k a0_0 a0_1 a0_2).bind fun bt4955 => ((ints_Abs.f k bt4909.1 bt4909.2.1 bt4909.2.2).bind fun bt4958 => ((ints_Inside.f bt4955.1 bt4955.2.1 bt4955.2.2 bt4958.1 bt4958.2.1 bt4958.2.2).bind fun t4961 => (if t4961 = true then ((ints_Neg.f a0_0 a0_1 a0_2).bind fun bt4962 => ((ints_Neg.f bt4909.1 bt4909.2.1 bt4909.2.2).bind fun bt4965 => ((ints_Inside.f bt4962.1 bt4962.2.1 bt4962.2.2 bt4965.1 bt4965.2.1 bt4965.2.2).bind fun t4968 => (some t4968)))) else (none))))) else (none))))) else (none))))) else (none))))) else (none))))) else (none))) else (none))) else (none)))))) = some r := by first | (rw [hy4906]; with_reducible exact H) | (have H2_ := (Option.bind_some _ _).symm.trans H; rw [hy4906]; with_reducible exact H2_) | (have H2_ := (Option.bind_some _ _).symm.trans H; with_reducible exact H2_) | with_reducible exact H | (rw [hy4906]; exact H) | exact H
    have Ny4906 := Aside0.mk hy4906
    clear hy4906
    obtain ⟨⟨t4909, t4910, t4911⟩, A70, H⟩ := Option.bind_eq_some_iff.mp H
    have A7 := Aside0.mk A70
    clear A70
    (try dsimp only at H)
    obtain ⟨y4913, hy4913⟩ : ∃ y_ : List (S23), y_ = (([(⟨a1_0, a1_1, a1_2⟩ : S23), (⟨a3_0, a3_1, a3_2⟩ : S23)] : List (S23))) := ⟨_, rfl⟩
    replace H : ((ints_Join.f k y4913).bind fun bt4916 => ((ints_Meet.f k a0_0 a0_1 a0_2 a2_0 a2_1 a2_2).bind fun bt4920 => ((ints_Inside.f a0_0 a0_1 a0_2 t4909 t4910 t4911).bind fun t4924 => (if t4924 = true then ((ints_Inside.f bt4920.1 bt4920.2.1 bt4920.2.2 a0_0 a0_1 a0_2).bind fun t4925 => (if t4925 = true then ((ints_Inside.f bt4920.1 bt4920.2.1 bt4920.2.2 a2_0 a2_1 a2_2).bind fun t4926 => (if t4926 = true then ((ints_Add.f k a0_0 a0_1 a0_2 a1_0 a1_1 a1_2).bind fun bt4927 => ((ints_Add.f k t4909 t4910 t4911 bt4916.1 bt4916.2.1 bt4916.2.2).bind fun bt4930 => ((ints_Inside.f bt4927.1 bt4927.2.1 bt4927.2.2 bt4930.1 bt4930.2.1 bt4930.2.2).bind fun t4933 => (if t4933 = true then ((ints_Sub.f k a0_0 a0_1 a0_2 a1_0 a1_1 a1_2).bind fun bt4934 => ((ints_Sub.f k t4909 t4910 t4911 bt4916.1 bt4916.2.1 bt4916.2.2).bind fun bt4937 => ((ints_Inside.f bt4934.1 bt4934.2.1 bt4934.2.2 bt4937.1 bt4937.2.1 bt4937.2.2).bind fun t4940 => (if t4940 = true then ((ints_Mul.f k a0_0 a0_1 a0_2 a1_0 a1_1 a1_2).bind fun bt4941 => ((ints_Mul.f k t4909 t4910 t4911 bt4916.1 bt4916.2.1 bt4916.2.2).bind fun bt4944 => ((ints_Inside.f bt4941.1 bt4941.2.1 bt4941.2.2 bt4944.1 bt4944.2.1 bt4944.2.2).bind fun t4947 => (if t4947 = true then ((ints_Div.f k a0_0 a0_1 a0_2 a1_0 a1_1 a1_2).bind fun bt4948 => ((ints_Div.f k t4909 t4910 t4911 bt4916.1 bt4916.2.1 bt4916.2.2).bind fun bt4951 => ((ints_Inside.f bt4948.1 bt4948.2.1 bt4948.2.2 bt4951.1 bt4951.2.1 bt4951.2.2).bind fun t4954 => (if t4954 = true then ((ints_Abs.f k a0_0 a0_1 a0_2).bind fun bt4955 => ((ints_Abs.f k t4909 t4910 t4911).bind fun bt4958 => ((ints_Inside.f bt4955.1 bt4955.2.1 bt4955.2.2 bt4958.1 bt4958.2.1 bt4958.2.2).bind fun t4961 => (if t4961 = true then ((ints_Neg.f a0_0 a0_1 a0_2).bind fun bt4962 => ((ints_Neg.f t4909 t4910 t4911).bind fun bt4965 => ((ints_Inside.f bt4962.1 bt4962.2.1 bt4962.2.2 bt4965.1 bt4965.2.1 bt4965.2.2).bind fun t4968 => (some t4968)))) else (none))))) else (none))))) else (none))))) else (none))))) else (none))))) else (none))) else (none))) else (none))))) = some r := by first | (rw [hy4913]; with_reducible exact H) | (have H2_ := (Option.bind_some _ _).symm.trans H; rw [hy4913]; with_reducible exact H2_) | (have H2_ := (Option.bind_some _ _).symm.trans H; with_reducible exact H2_) | with_reducible exact H | (rw [hy4913]; exact H) | exact H
    have Ny4913 := Aside0.mk hy4913
    clear hy4913
    obtain ⟨⟨t4916, t4917, t4918⟩, A80, H⟩ := Option.bind_eq_some_iff.mp H
    have A8 := Aside0.mk A80
    clear A80
    (try dsimp only at H)
    obtain ⟨⟨t4920, t4921, t4922⟩, A90, H⟩ := Option.bind_eq_some_iff.mp H
    have A9 := Aside0.mk A90
    clear A90
    (try dsimp only at H)
    obtain ⟨t4924, A100, H⟩ := Option.bind_eq_some_iff.mp H
    have A10 := Aside0.mk A100
    clear A100
    (try dsimp only at H)
    by_cases c11 : t4924 = true
    · subst c11
      rw [if_pos rfl] at H
      obtain ⟨t4925, A120, H⟩ := Option.bind_eq_some_iff.mp H
      have A12 := Aside0.mk A120
      clear A120
      (try dsimp only at H)
      by_cases c13 : t4925 = true
      · subst c13
        rw [if_pos rfl] at H
        obtain ⟨t4926, A140, H⟩ := Option.bind_eq_some_iff.mp H
        have A14 := Aside0.mk A140
        clear A140
        (try dsimp only at H)
        by_cases c15 : t4926 = true
        · subst c15
          rw [if_pos rfl] at H
          obtain ⟨⟨t4927, t4928, t4929⟩, A160, H⟩ := Option.bind_eq_some_iff.mp H
          have A16 := Aside0.mk A160
          clear A160
          (try dsimp only at H)
          obtain ⟨⟨t4930, t4931, t4932⟩, A170, H⟩ := Option.bind_eq_some_iff.mp H
          have A17 := Aside0.mk A170
          clear A170
          (try dsimp only at H)
          obtain ⟨t4933, A180, H⟩ := Option.bind_eq_some_iff.mp H
          have A18 := Aside0.mk A180
          clear A180
          (try dsimp only at H)
          by_cases c19 : t4933 = true
          · subst c19
            rw [if_pos rfl] at H
            obtain ⟨⟨t4934, t4935, t4936⟩, A200, H⟩ := Option.bind_eq_some_iff.mp H
            have A20 := Aside0.mk A200
            clear A200
            (try dsimp only at H)
            obtain ⟨⟨t4937, t4938, t4939⟩, A210, H⟩ := Option.bind_eq_some_iff.mp H
            have A21 := Aside0.mk A210
            clear A210
            (try dsimp only at H)
            obtain ⟨t4940, A220, H⟩ := Option.bind_eq_some_iff.mp H
            have A22 := Aside0.mk A220
            clear A220
            (try dsimp only at H)
            by_cases c23 : t4940 = true
            · subst c23
              rw [if_pos rfl] at H
              obtain ⟨⟨t4941, t4942, t4943⟩, A240, H⟩ := Option.bind_eq_some_iff.mp H
              have A24 := Aside0.mk A240
              clear A240
              (try dsimp only at H)
              obtain ⟨⟨t4944, t4945, t4946⟩, A250, H⟩ := Option.bind_eq_some_iff.mp H
              have A25 := Aside0.mk A250
              clear A250
              (try dsimp only at H)
              obtain ⟨t4947, A260, H⟩ := Option.bind_eq_some_iff.mp H
              have A26 := Aside0.mk A260
              clear A260
              (try dsimp only at H)
              by_cases c27 : t4947 = true
              · subst c27
                rw [if_pos rfl] at H
                obtain ⟨⟨t4948, t4949, t4950⟩, A280, H⟩ := Option.bind_eq_some_iff.mp H
                have A28 := Aside0.mk A280
                clear A280
                (try dsimp only at H)
                obtain ⟨⟨t4951, t4952, t4953⟩, A290, H⟩ := Option.bind_eq_some_iff.mp H
                have A29 := Aside0.mk A290
                clear A290
                (try dsimp only at H)
                obtain ⟨t4954, A300, H⟩ := Option.bind_eq_some_iff.mp H
                have A30 := Aside0.mk A300
                clear A300
                (try dsimp only at H)
                by_cases c31 : t4954 = true
                · subst c31
                  rw [if_pos rfl] at H
                  obtain ⟨⟨t4955, t4956, t4957⟩, A320, H⟩ := Option.bind_eq_some_iff.mp H
                  have A32 := Aside0.mk A320
                  clear A320
                  (try dsimp only at H)
                  obtain ⟨⟨t4958, t4959, t4960⟩, A330, H⟩ := Option.bind_eq_some_iff.mp H
                  have A33 := Aside0.mk A330
                  clear A330
                  (try dsimp only at H)
                  obtain ⟨t4961, A340, H⟩ := Option.bind_eq_some_iff.mp H
                  have A34 := Aside0.mk A340
                  clear A340
                  (try dsimp only at H)
                  by_cases c35 : t4961 = true
                  · subst c35
                    rw [if_pos rfl] at H
                    obtain ⟨⟨t4962, t4963, t4964⟩, A360, H⟩ := Option.bind_eq_some_iff.mp H
                    have A36 := Aside0.mk A360
                    clear A360
                    (try dsimp only at H)
                    obtain ⟨⟨t4965, t4966, t4967⟩, A370, H⟩ := Option.bind_eq_some_iff.mp H
                    have A37 := Aside0.mk A370
                    clear A370
                    (try dsimp only at H)
                    obtain ⟨t4968, A380, H⟩ := Option.bind_eq_some_iff.mp H
                    have A38 := Aside0.mk A380
                    clear A380
                    (try dsimp only at H)
                    obtain rfl := Option.some.inj H
                    go_enter Try.func10, Try.ntmps10
                    try go_wp2_with (first | ((with_reducible refine gate_dst (N := 4) rfl ?_); refine kx 4 #[.bool a0_0, .int .i64 a0_1, .int .i64 a0_2] 23 ?_; intro gb4901 hg w39 hbox hb; have BK4901 := Aside0.mk (hbox); have GW4901 := kg HB hg; have GE4901 := kg HB hg; replace HB := kh HB hb; clear hb hbox hg) | ((with_reducible refine gate_dst (N := 5) rfl ?_); refine kx 5 #[.bool a1_0, .int .i64 a1_1, .int .i64 a1_2] 23 ?_; intro gb4902 hg w40 hbox hb; have BK4902 := Aside0.mk (hbox); have GW4902 := kg HB hg; have GE4902 := kg HB hg; have NB4901_4902 := kn BK4901 hg; have NB4902_4901 := km BK4901 hg; replace BK4901 := kb BK4901 hb; replace HB := kh HB hb; clear hb hbox hg) | ((with_reducible refine gate_dst (N := 6) rfl ?_); refine kx 6 #[.bool a2_0, .int .i64 a2_1, .int .i64 a2_2] 23 ?_; intro gb4903 hg w41 hbox hb; have BK4903 := Aside0.mk (hbox); have GW4903 := kg HB hg; have GE4903 := kg HB hg; have NB4901_4903 := kn BK4901 hg; have NB4903_4901 := km BK4901 hg; have NB4902_4903 := kn BK4902 hg; have NB4903_4902 := km BK4902 hg; replace BK4901 := kb BK4901 hb; replace BK4902 := kb BK4902 hb; replace HB := kh HB hb; clear hb hbox hg) | ((with_reducible refine gate_dst (N := 7) rfl ?_); refine kx 7 #[.bool a3_0, .int .i64 a3_1, .int .i64 a3_2] 23 ?_; intro gb4904 hg w42 hbox hb; have BK4904 := Aside0.mk (hbox); have GW4904 := kg HB hg; have GE4904 := kg HB hg; have NB4901_4904 := kn BK4901 hg; have NB4904_4901 := km BK4901 hg; have NB4902_4904 := kn BK4902 hg; have NB4904_4902 := km BK4902 hg; have NB4903_4904 := kn BK4903 hg; have NB4904_4903 := km BK4903 hg; replace BK4901 := kb BK4901 hb; replace BK4902 := kb BK4902 hb; replace BK4903 := kb BK4903 hb; replace HB := kh HB hb; clear hb hbox hg) | ((with_reducible refine gate_callee (f := 38) rfl ?_); refine kc (some 13) Try.func38 #[] (flyballlaw17_works.calls k  true _ A5.out) ?_; intro w43 hb; replace BK4901 := kb BK4901 hb; replace BK4902 := kb BK4902 hb; replace BK4903 := kb BK4903 hb; replace BK4904 := kb BK4904 hb; replace HB := kh HB hb; (try clear hb); (try clear hb2); (try clear hk); (try clear hi); have hnb44 := NB4901_4902.out; have hnc44 := NB4902_4901.out; have hnb45 := NB4901_4903.out; have hnc45 := NB4903_4901.out; have hnb46 := NB4901_4904.out; have hnc46 := NB4904_4901.out; have ⟨hcz47_0, hcz47_1, hcz47_2, hfz47_0, hfz47_1, hfz47_2⟩ := kz3f BK4901; have hnb48 := NB4903_4902.out; have hnc48 := NB4902_4903.out; have hnb49 := NB4903_4904.out; have hnc49 := NB4904_4903.out; have ⟨hcz50_0, hcz50_1, hcz50_2, hfz50_0, hfz50_1, hfz50_2⟩ := kz3f BK4903) | ((with_reducible refine gate_dst (N := 18) rfl ?_); refine Kd.R_lit k23 _ 23 ?hg (N := 18) ?hd (xs := ([(⟨a0_0, a0_1, a0_2⟩ : S23), (⟨a2_0, a2_1, a2_2⟩ : S23)] : List (S23))) (inner := [.bool a0_0, .int .i64 a0_1, .int .i64 a0_2, .bool a2_0, .int .i64 a2_1, .int .i64 a2_2]) (ok := fun _ => True) (okp := fun _ => True) ?hr ?hp (fun _ hk => hk) trivial (Below.refl _ _) (Nat.le_refl _) (by simp) ?_; (case hd => rfl); (case hg => rfl); (case hr => first | (go_simp; done) | (go_simp; rfl)); (case hp => exact (Reps.c3 (show Kd.M k23 _ _ _ (⟨a0_0, a0_1, a0_2⟩ : S23) [.bool a0_0, .int .i64 a0_1, .int .i64 a0_2] from (k23_mkM _ _ _ (⟨a0_0, a0_1, a0_2⟩ : S23) )) (Reps.c3 (show Kd.M k23 _ _ _ (⟨a2_0, a2_1, a2_2⟩ : S23) [.bool a2_0, .int .i64 a2_1, .int .i64 a2_2] from (k23_mkM _ _ _ (⟨a2_0, a2_1, a2_2⟩ : S23) )) (Reps.none _ _)))); intro v4907 w51 ho52 hb hg_ hnew_; clear hg_ hnew_; (first | rw [← Ny4906.out] at ho52 | (simp only [Int.reduceToNat] at ho52; rw [← Ny4906.out] at ho52)); have HO4908 := Aside0.mk (Kd.R_lower (Kd.R_newB (Kd.R_newB (Kd.R_newB (Kd.R_newB ho52 (g := gb4901) (o := .cells #[.bool a0_0, .int .i64 a0_1, .int .i64 a0_2] 23 (0, 0)) (pk BK4901)) (g := gb4902) (o := .cells #[.bool a1_0, .int .i64 a1_1, .int .i64 a1_2] 23 (0, 0)) (pk BK4902)) (g := gb4903) (o := .cells #[.bool a2_0, .int .i64 a2_1, .int .i64 a2_2] 23 (0, 0)) (pk BK4903)) (g := gb4904) (o := .cells #[.bool a3_0, .int .i64 a3_1, .int .i64 a3_2] 23 (0, 0)) (pk BK4904)) (below_size (pl HB))); replace BK4901 := kb BK4901 hb; replace BK4902 := kb BK4902 hb; replace BK4903 := kb BK4903 hb; replace BK4904 := kb BK4904 hb; replace HB := kh HB hb; clear hb ho52; obtain ⟨Ao53, co53, eo53⟩ := Kd.R_slice HO4908.out; subst eo53) | ((with_reducible refine gate_callee (f := 43) rfl ?_); refine goesL_ (some 19) rfl rfl Try.func43 (by kernel_rfl) rfl #[.slice Ao53 y4906.length co53] rfl pa ?_; (with_reducible refine (ints_Join.calls k _ _ y4906 t4909 t4910 t4911 _ ?side1 ?side2 A7.out).mono ?_); (case side1 => repeat (first | exact (Kd.R_reads' HO4908.out).2.2 | (with_reducible refine Kd.C_alloc ?_ _) | (with_reducible refine Kd.C_drewN ?_ _) | (with_reducible refine Kd.C_drew ?_))); (case side2 => exact (Kd.R_reads' HO4908.out).2.1); rintro e w54 ⟨rfl, hb⟩; refine ⟨_, rfl, ?_⟩; have n0_ := Aside0.mk (Kd.R_below (by (with_reducible repeat (first | apply Kd.R_alloc | apply Kd.R_drewN | apply Kd.R_drew)); exact HO4908.out) hb); have n1_ := kb BK4901 hb; have n2_ := kb BK4902 hb; have n3_ := kb BK4903 hb; have n4_ := kb BK4904 hb; have n5_ := kh HB hb; clear HO4908; clear BK4901; clear BK4902; clear BK4903; clear BK4904; clear HB; have HO4908 := n0_; have BK4901 := n1_; have BK4902 := n2_; have BK4903 := n3_; have BK4904 := n4_; have HB := n5_; clear n0_ n1_ n2_ n3_ n4_ n5_; (try clear hb); (try clear hb2); (try clear hk); (try clear hi)) | ((with_reducible refine gate_dst (N := 10) rfl ?_); refine kx 10 #[.bool false, .int .i64 0, .int .i64 0] 23 ?_; intro gb4912 hg w55 hbox hb; have n0_ := Aside0.mk (Kd.R_below (Kd.R_elderB (by (with_reducible repeat (first | apply Kd.R_alloc | apply Kd.R_drewN | apply Kd.R_drew)); exact HO4908.out) gb4912 (Nat.le_of_eq hg.symm)) hb); have n1_ := kb BK4901 hb; have n2_ := kb BK4902 hb; have n3_ := kb BK4903 hb; have n4_ := kb BK4904 hb; have n5_ := kh HB hb; have n6_ := Aside0.mk (hbox); have n7_ := kg HB hg; have n8_ := kg HB hg; have n9_ := kn BK4901 hg; have n10_ := km BK4901 hg; have n11_ := kn BK4902 hg; have n12_ := km BK4902 hg; have n13_ := kn BK4903 hg; have n14_ := km BK4903 hg; have n15_ := kn BK4904 hg; have n16_ := km BK4904 hg; clear HO4908; clear BK4901; clear BK4902; clear BK4903; clear BK4904; clear HB; have HO4908 := n0_; have BK4901 := n1_; have BK4902 := n2_; have BK4903 := n3_; have BK4904 := n4_; have HB := n5_; have BK4912 := n6_; have GW4912 := n7_; have GE4912 := n8_; have NB4901_4912 := n9_; have NB4912_4901 := n10_; have NB4902_4912 := n11_; have NB4912_4902 := n12_; have NB4903_4912 := n13_; have NB4912_4903 := n14_; have NB4904_4912 := n15_; have NB4912_4904 := n16_; clear n0_ n1_ n2_ n3_ n4_ n5_ n6_ n7_ n8_ n9_ n10_ n11_ n12_ n13_ n14_ n15_ n16_; clear hb hbox hg; have hnb56 := NB4912_4901.out; have hnc56 := NB4901_4912.out; have hnb57 := NB4912_4902.out; have hnc57 := NB4902_4912.out; have hnb58 := NB4912_4903.out; have hnc58 := NB4903_4912.out; have hnb59 := NB4912_4904.out; have hnc59 := NB4904_4912.out; have ⟨hcz60_0, hcz60_1, hcz60_2, hfz60_0, hfz60_1, hfz60_2⟩ := kz3f BK4912; have hnb61 := NB4902_4904.out; have hnc61 := NB4904_4902.out; have ⟨hcz62_0, hcz62_1, hcz62_2, hfz62_0, hfz62_1, hfz62_2⟩ := kz3f BK4902; have ⟨hcz63_0, hcz63_1, hcz63_2, hfz63_0, hfz63_1, hfz63_2⟩ := kz3f BK4904) | ((with_reducible refine gate_dst (N := 22) rfl ?_); refine Kd.R_lit k23 _ 23 ?hg (N := 22) ?hd (xs := ([(⟨a1_0, a1_1, a1_2⟩ : S23), (⟨a3_0, a3_1, a3_2⟩ : S23)] : List (S23))) (inner := [.bool a1_0, .int .i64 a1_1, .int .i64 a1_2, .bool a3_0, .int .i64 a3_1, .int .i64 a3_2]) (ok := fun _ => True) (okp := fun _ => True) ?hr ?hp (fun _ hk => hk) trivial (Below.refl _ _) (Nat.le_refl _) (by simp) ?_; (case hd => rfl); (case hg => rfl); (case hr => first | (go_simp; done) | (go_simp; rfl)); (case hp => exact (Reps.c3 (show Kd.M k23 _ _ _ (⟨a1_0, a1_1, a1_2⟩ : S23) [.bool a1_0, .int .i64 a1_1, .int .i64 a1_2] from (k23_mkM _ _ _ (⟨a1_0, a1_1, a1_2⟩ : S23) )) (Reps.c3 (show Kd.M k23 _ _ _ (⟨a3_0, a3_1, a3_2⟩ : S23) [.bool a3_0, .int .i64 a3_1, .int .i64 a3_2] from (k23_mkM _ _ _ (⟨a3_0, a3_1, a3_2⟩ : S23) )) (Reps.none _ _)))); intro v4914 w64 ho65 hb hg_ hnew_; clear hg_ hnew_; (first | rw [← Ny4913.out] at ho65 | (simp only [Int.reduceToNat] at ho65; rw [← Ny4913.out] at ho65)); have n0_ := Aside0.mk (Kd.R_elder' (by (with_reducible repeat (first | apply Kd.R_alloc | apply Kd.R_drewN | apply Kd.R_drew)); exact (Kd.R_mono (Kd.R_far (p := ⟨gb4912, 2, none⟩) (Kd.R_far (p := ⟨gb4912, 1, none⟩) (Kd.R_far (p := ⟨gb4912, 0, none⟩) (Kd.R_mono HO4908.out (fun k_ hk => (⟨hk, hk.2⟩ : _ ∧ k_ ≠ gb4912))) (fun _ hk => hk.2) (.bool t4909)) (fun _ hk => hk.2) (.int .i64 t4910)) (fun _ hk => hk.2) (.int .i64 t4911)) (fun _ h_ => h_.1))) (Kd.R_base ho65) hb); have n1_ := Aside0.mk (Kd.R_lower (Kd.R_newB (Kd.R_newB (Kd.R_newB (Kd.R_newB (Kd.R_newB (Kd.R_new' ho65 (Kd.R_lt (by (with_reducible repeat (first | apply Kd.R_alloc | apply Kd.R_drewN | apply Kd.R_drew)); exact (Kd.R_mono (Kd.R_far (p := ⟨gb4912, 2, none⟩) (Kd.R_far (p := ⟨gb4912, 1, none⟩) (Kd.R_far (p := ⟨gb4912, 0, none⟩) (Kd.R_mono HO4908.out (fun k_ hk => (⟨hk, hk.2⟩ : _ ∧ k_ ≠ gb4912))) (fun _ hk => hk.2) (.bool t4909)) (fun _ hk => hk.2) (.int .i64 t4910)) (fun _ hk => hk.2) (.int .i64 t4911)) (fun _ h_ => h_.1))))) (g := gb4901) (o := .cells #[.bool a0_0, .int .i64 a0_1, .int .i64 a0_2] 23 (0, 0)) (pk BK4901)) (g := gb4902) (o := .cells #[.bool a1_0, .int .i64 a1_1, .int .i64 a1_2] 23 (0, 0)) (pk BK4902)) (g := gb4903) (o := .cells #[.bool a2_0, .int .i64 a2_1, .int .i64 a2_2] 23 (0, 0)) (pk BK4903)) (g := gb4904) (o := .cells #[.bool a3_0, .int .i64 a3_1, .int .i64 a3_2] 23 (0, 0)) (pk BK4904)) (g := gb4912) (o := .cells #[.bool t4909, .int .i64 t4910, .int .i64 t4911] 23 (0, 0)) (pK BK4912)) (below_size (pl HB))); have n2_ := kb BK4901 hb; have n3_ := kb BK4902 hb; have n4_ := kb BK4903 hb; have n5_ := kb BK4904 hb; have n6_ := kb (o' := .cells #[.bool t4909, .int .i64 t4910, .int .i64 t4911] 23 (0, 0)) BK4912 hb; have n7_ := kh HB hb; clear HO4908; clear BK4901; clear BK4902; clear BK4903; clear BK4904; clear BK4912; clear HB; have HO4908 := n0_; have HO4915 := n1_; have BK4901 := n2_; have BK4902 := n3_; have BK4903 := n4_; have BK4904 := n5_; have BK4912 := n6_; have HB := n7_; clear n0_ n1_ n2_ n3_ n4_ n5_ n6_ n7_; clear hb ho65; obtain ⟨Ao66, co66, eo66⟩ := Kd.R_slice HO4915.out; subst eo66) | ((with_reducible refine gate_callee (f := 43) rfl ?_); refine goesL_ (some 23) rfl rfl Try.func43 (by kernel_rfl) rfl #[.slice Ao66 y4913.length co66] rfl pa ?_; (with_reducible refine (ints_Join.calls k _ _ y4913 t4916 t4917 t4918 _ ?side1 ?side2 A8.out).mono ?_); (case side1 => repeat (first | exact (Kd.R_reads' HO4915.out).2.2 | (with_reducible refine Kd.C_alloc ?_ _) | (with_reducible refine Kd.C_drewN ?_ _) | (with_reducible refine Kd.C_drew ?_))); (case side2 => exact (Kd.R_reads' HO4915.out).2.1); rintro e w67 ⟨rfl, hb⟩; refine ⟨_, rfl, ?_⟩; have n0_ := Aside0.mk (Kd.R_below (by (with_reducible repeat (first | apply Kd.R_alloc | apply Kd.R_drewN | apply Kd.R_drew)); exact HO4908.out) hb); have n1_ := Aside0.mk (Kd.R_below (by (with_reducible repeat (first | apply Kd.R_alloc | apply Kd.R_drewN | apply Kd.R_drew)); exact HO4915.out) hb); have n2_ := kb BK4901 hb; have n3_ := kb BK4902 hb; have n4_ := kb BK4903 hb; have n5_ := kb BK4904 hb; have n6_ := kb BK4912 hb; have n7_ := kh HB hb; clear HO4908; clear HO4915; clear BK4901; clear BK4902; clear BK4903; clear BK4904; clear BK4912; clear HB; have HO4908 := n0_; have HO4915 := n1_; have BK4901 := n2_; have BK4902 := n3_; have BK4903 := n4_; have BK4904 := n5_; have BK4912 := n6_; have HB := n7_; clear n0_ n1_ n2_ n3_ n4_ n5_ n6_ n7_; (try clear hb); (try clear hb2); (try clear hk); (try clear hi)) | ((with_reducible refine gate_dst (N := 11) rfl ?_); refine kx 11 #[.bool false, .int .i64 0, .int .i64 0] 23 ?_; intro gb4919 hg w68 hbox hb; have n0_ := Aside0.mk (Kd.R_below (Kd.R_elderB (by (with_reducible repeat (first | apply Kd.R_alloc | apply Kd.R_drewN | apply Kd.R_drew)); exact HO4908.out) gb4919 (Nat.le_of_eq hg.symm)) hb); have n1_ := Aside0.mk (Kd.R_below (Kd.R_elderB (by (with_reducible repeat (first | apply Kd.R_alloc | apply Kd.R_drewN | apply Kd.R_drew)); exact HO4915.out) gb4919 (Nat.le_of_eq hg.symm)) hb); have n2_ := kb BK4901 hb; have n3_ := kb BK4902 hb; have n4_ := kb BK4903 hb; have n5_ := kb BK4904 hb; have n6_ := kb BK4912 hb; have n7_ := kh HB hb; have n8_ := Aside0.mk (hbox); have n9_ := kg HB hg; have n10_ := kg HB hg; have n11_ := kn BK4901 hg; have n12_ := km BK4901 hg; have n13_ := kn BK4902 hg; have n14_ := km BK4902 hg; have n15_ := kn BK4903 hg; have n16_ := km BK4903 hg; have n17_ := kn BK4904 hg; have n18_ := km BK4904 hg; have n19_ := kn BK4912 hg; have n20_ := km BK4912 hg; clear HO4908; clear HO4915; clear BK4901; clear BK4902; clear BK4903; clear BK4904; clear BK4912; clear HB; have HO4908 := n0_; have HO4915 := n1_; have BK4901 := n2_; have BK4902 := n3_; have BK4903 := n4_; have BK4904 := n5_; have BK4912 := n6_; have HB := n7_; have BK4919 := n8_; have GW4919 := n9_; have GE4919 := n10_; have NB4901_4919 := n11_; have NB4919_4901 := n12_; have NB4902_4919 := n13_; have NB4919_4902 := n14_; have NB4903_4919 := n15_; have NB4919_4903 := n16_; have NB4904_4919 := n17_; have NB4919_4904 := n18_; have NB4912_4919 := n19_; have NB4919_4912 := n20_; clear n0_ n1_ n2_ n3_ n4_ n5_ n6_ n7_ n8_ n9_ n10_ n11_ n12_ n13_ n14_ n15_ n16_ n17_ n18_ n19_ n20_; clear hb hbox hg; have hnb69 := NB4919_4901.out; have hnc69 := NB4901_4919.out; have hnb70 := NB4919_4902.out; have hnc70 := NB4902_4919.out; have hnb71 := NB4919_4903.out; have hnc71 := NB4903_4919.out; have hnb72 := NB4919_4904.out; have hnc72 := NB4904_4919.out; have hnb73 := NB4919_4912.out; have hnc73 := NB4912_4919.out; have ⟨hcz74_0, hcz74_1, hcz74_2, hfz74_0, hfz74_1, hfz74_2⟩ := kz3f BK4919; have ⟨hcz75_0, hcz75_1, hcz75_2, hfz75_0, hfz75_1, hfz75_2⟩ := kz3f BK4901; have ⟨hcz76_0, hcz76_1, hcz76_2, hfz76_0, hfz76_1, hfz76_2⟩ := kz3f BK4903) | ((with_reducible refine gate_callee (f := 45) rfl ?_); refine kc (some 26) Try.func45 #[.agg #[.bool a0_0, .int .i64 a0_1, .int .i64 a0_2], .agg #[.bool a2_0, .int .i64 a2_1, .int .i64 a2_2]] (ints_Meet.calls k a0_0 a0_1 a0_2 a2_0 a2_1 a2_2 t4920 t4921 t4922 _ A9.out) ?_; intro w77 hb; have n0_ := Aside0.mk (Kd.R_below (by (with_reducible repeat (first | apply Kd.R_alloc | apply Kd.R_drewN | apply Kd.R_drew)); exact (Kd.R_mono (Kd.R_far (p := ⟨gb4919, 2, none⟩) (Kd.R_far (p := ⟨gb4919, 1, none⟩) (Kd.R_far (p := ⟨gb4919, 0, none⟩) (Kd.R_mono HO4908.out (fun k_ hk => (⟨hk, hk.2⟩ : _ ∧ k_ ≠ gb4919))) (fun _ hk => hk.2) (.bool t4916)) (fun _ hk => hk.2) (.int .i64 t4917)) (fun _ hk => hk.2) (.int .i64 t4918)) (fun _ h_ => h_.1))) hb); have n1_ := Aside0.mk (Kd.R_below (by (with_reducible repeat (first | apply Kd.R_alloc | apply Kd.R_drewN | apply Kd.R_drew)); exact (Kd.R_mono (Kd.R_far (p := ⟨gb4919, 2, none⟩) (Kd.R_far (p := ⟨gb4919, 1, none⟩) (Kd.R_far (p := ⟨gb4919, 0, none⟩) (Kd.R_mono HO4915.out (fun k_ hk => (⟨hk, hk.2⟩ : _ ∧ k_ ≠ gb4919))) (fun _ hk => hk.2) (.bool t4916)) (fun _ hk => hk.2) (.int .i64 t4917)) (fun _ hk => hk.2) (.int .i64 t4918)) (fun _ h_ => h_.1))) hb); have n2_ := kb BK4901 hb; have n3_ := kb BK4902 hb; have n4_ := kb BK4903 hb; have n5_ := kb BK4904 hb; have n6_ := kb BK4912 hb; have n7_ := kb (o' := .cells #[.bool t4916, .int .i64 t4917, .int .i64 t4918] 23 (0, 0)) BK4919 hb; have n8_ := kh HB hb; clear HO4908; clear HO4915; clear BK4901; clear BK4902; clear BK4903; clear BK4904; clear BK4912; clear BK4919; clear HB; have HO4908 := n0_; have HO4915 := n1_; have BK4901 := n2_; have BK4902 := n3_; have BK4903 := n4_; have BK4904 := n5_; have BK4912 := n6_; have BK4919 := n7_; have HB := n8_; clear n0_ n1_ n2_ n3_ n4_ n5_ n6_ n7_ n8_; (try clear hb); (try clear hb2); (try clear hk); (try clear hi)) | ((with_reducible refine gate_dst (N := 12) rfl ?_); refine kx 12 #[.bool false, .int .i64 0, .int .i64 0] 23 ?_; intro gb4923 hg w78 hbox hb; have n0_ := Aside0.mk (Kd.R_below (Kd.R_elderB (by (with_reducible repeat (first | apply Kd.R_alloc | apply Kd.R_drewN | apply Kd.R_drew)); exact HO4908.out) gb4923 (Nat.le_of_eq hg.symm)) hb); have n1_ := Aside0.mk (Kd.R_below (Kd.R_elderB (by (with_reducible repeat (first | apply Kd.R_alloc | apply Kd.R_drewN | apply Kd.R_drew)); exact HO4915.out) gb4923 (Nat.le_of_eq hg.symm)) hb); have n2_ := kb BK4901 hb; have n3_ := kb BK4902 hb; have n4_ := kb BK4903 hb; have n5_ := kb BK4904 hb; have n6_ := kb BK4912 hb; have n7_ := kb BK4919 hb; have n8_ := kh HB hb; have n9_ := Aside0.mk (hbox); have n10_ := kg HB hg; have n11_ := kg HB hg; have n12_ := kn BK4901 hg; have n13_ := km BK4901 hg; have n14_ := kn BK4902 hg; have n15_ := km BK4902 hg; have n16_ := kn BK4903 hg; have n17_ := km BK4903 hg; have n18_ := kn BK4904 hg; have n19_ := km BK4904 hg; have n20_ := kn BK4912 hg; have n21_ := km BK4912 hg; have n22_ := kn BK4919 hg; have n23_ := km BK4919 hg; clear HO4908; clear HO4915; clear BK4901; clear BK4902; clear BK4903; clear BK4904; clear BK4912; clear BK4919; clear HB; have HO4908 := n0_; have HO4915 := n1_; have BK4901 := n2_; have BK4902 := n3_; have BK4903 := n4_; have BK4904 := n5_; have BK4912 := n6_; have BK4919 := n7_; have HB := n8_; have BK4923 := n9_; have GW4923 := n10_; have GE4923 := n11_; have NB4901_4923 := n12_; have NB4923_4901 := n13_; have NB4902_4923 := n14_; have NB4923_4902 := n15_; have NB4903_4923 := n16_; have NB4923_4903 := n17_; have NB4904_4923 := n18_; have NB4923_4904 := n19_; have NB4912_4923 := n20_; have NB4923_4912 := n21_; have NB4919_4923 := n22_; have NB4923_4919 := n23_; clear n0_ n1_ n2_ n3_ n4_ n5_ n6_ n7_ n8_ n9_ n10_ n11_ n12_ n13_ n14_ n15_ n16_ n17_ n18_ n19_ n20_ n21_ n22_ n23_; clear hb hbox hg; have hnb79 := NB4923_4901.out; have hnc79 := NB4901_4923.out; have hnb80 := NB4923_4902.out; have hnc80 := NB4902_4923.out; have hnb81 := NB4923_4903.out; have hnc81 := NB4903_4923.out; have hnb82 := NB4923_4904.out; have hnc82 := NB4904_4923.out; have hnb83 := NB4923_4912.out; have hnc83 := NB4912_4923.out; have hnb84 := NB4923_4919.out; have hnc84 := NB4919_4923.out; have ⟨hcz85_0, hcz85_1, hcz85_2, hfz85_0, hfz85_1, hfz85_2⟩ := kz3f BK4923))
                    have n0_ : Aside0 (Kd.R k23 23 (((w78.setCell ⟨gb4923, 0, none⟩ (.bool t4920)).setCell ⟨gb4923, 1, none⟩ (.int .i64 t4921)).setCell ⟨gb4923, 2, none⟩ (.int .i64 t4922)) w.heap.size (fun k_ => some k_ ≠ (.slice Ao66 y4913.length co66 : Value).ownBlock ∧ k_ ≠ gb4901 ∧ k_ ≠ gb4902 ∧ k_ ≠ gb4903 ∧ k_ ≠ gb4904 ∧ k_ ≠ gb4912 ∧ k_ ≠ gb4919 ∧ k_ ≠ gb4923) (.slice Ao53 y4906.length co53) y4906) := ⟨by (with_reducible repeat (first | apply Kd.R_alloc | apply Kd.R_drewN | apply Kd.R_drew)); exact Kd.R_mono (Kd.R_far (p := ⟨gb4923, 2, none⟩) (Kd.R_far (p := ⟨gb4923, 1, none⟩) (Kd.R_far (p := ⟨gb4923, 0, none⟩) (Kd.R_mono HO4908.out (fun k_ hk => (⟨hk, hk.2⟩ : _ ∧ k_ ≠ gb4923))) (fun _ hk => hk.2) (.bool t4920)) (fun _ hk => hk.2) (.int .i64 t4921)) (fun _ hk => hk.2) (.int .i64 t4922)) (fun _ hk => ⟨hk.1.1.1.2, ⟨hk.1.1.1.1.1.1.1.1.2, ⟨hk.1.1.1.1.1.1.1.2, ⟨hk.1.1.1.1.1.1.2, ⟨hk.1.1.1.1.1.2, ⟨hk.1.1.1.1.2, ⟨hk.1.1.2, hk.1.2⟩⟩⟩⟩⟩⟩⟩)⟩
                    have n1_ : Aside0 (Kd.R k23 23 (((w78.setCell ⟨gb4923, 0, none⟩ (.bool t4920)).setCell ⟨gb4923, 1, none⟩ (.int .i64 t4921)).setCell ⟨gb4923, 2, none⟩ (.int .i64 t4922)) w.heap.size (fun k_ => some k_ ≠ (.slice Ao53 y4906.length co53 : Value).ownBlock ∧ k_ ≠ gb4901 ∧ k_ ≠ gb4902 ∧ k_ ≠ gb4903 ∧ k_ ≠ gb4904 ∧ k_ ≠ gb4912 ∧ k_ ≠ gb4919 ∧ k_ ≠ gb4923) (.slice Ao66 y4913.length co66) y4913) := ⟨by (with_reducible repeat (first | apply Kd.R_alloc | apply Kd.R_drewN | apply Kd.R_drew)); exact Kd.R_mono (Kd.R_far (p := ⟨gb4923, 2, none⟩) (Kd.R_far (p := ⟨gb4923, 1, none⟩) (Kd.R_far (p := ⟨gb4923, 0, none⟩) (Kd.R_mono HO4915.out (fun k_ hk => (⟨hk, hk.2⟩ : _ ∧ k_ ≠ gb4923))) (fun _ hk => hk.2) (.bool t4920)) (fun _ hk => hk.2) (.int .i64 t4921)) (fun _ hk => hk.2) (.int .i64 t4922)) (fun _ hk => ⟨hk.1.1.1.1.1.1.1.1.2, ⟨hk.1.1.1.1.1.1.1.2, ⟨hk.1.1.1.1.1.1.2, ⟨hk.1.1.1.1.1.2, ⟨hk.1.1.1.1.2, ⟨hk.1.1.1.2, ⟨hk.1.1.2, hk.1.2⟩⟩⟩⟩⟩⟩⟩)⟩
                    have n2_ : Aside0 ((((w78.setCell ⟨gb4923, 0, none⟩ (.bool t4920)).setCell ⟨gb4923, 1, none⟩ (.int .i64 t4921)).setCell ⟨gb4923, 2, none⟩ (.int .i64 t4922)).heap[gb4901]? = some (.cells #[.bool a0_0, .int .i64 a0_1, .int .i64 a0_2] 23 (0, 0))) := ⟨pk BK4901⟩
                    have n3_ : Aside0 ((((w78.setCell ⟨gb4923, 0, none⟩ (.bool t4920)).setCell ⟨gb4923, 1, none⟩ (.int .i64 t4921)).setCell ⟨gb4923, 2, none⟩ (.int .i64 t4922)).heap[gb4902]? = some (.cells #[.bool a1_0, .int .i64 a1_1, .int .i64 a1_2] 23 (0, 0))) := ⟨pk BK4902⟩
                    have n4_ : Aside0 ((((w78.setCell ⟨gb4923, 0, none⟩ (.bool t4920)).setCell ⟨gb4923, 1, none⟩ (.int .i64 t4921)).setCell ⟨gb4923, 2, none⟩ (.int .i64 t4922)).heap[gb4903]? = some (.cells #[.bool a2_0, .int .i64 a2_1, .int .i64 a2_2] 23 (0, 0))) := ⟨pk BK4903⟩
                    have n5_ : Aside0 ((((w78.setCell ⟨gb4923, 0, none⟩ (.bool t4920)).setCell ⟨gb4923, 1, none⟩ (.int .i64 t4921)).setCell ⟨gb4923, 2, none⟩ (.int .i64 t4922)).heap[gb4904]? = some (.cells #[.bool a3_0, .int .i64 a3_1, .int .i64 a3_2] 23 (0, 0))) := ⟨pk BK4904⟩
                    have n6_ : Aside0 ((((w78.setCell ⟨gb4923, 0, none⟩ (.bool t4920)).setCell ⟨gb4923, 1, none⟩ (.int .i64 t4921)).setCell ⟨gb4923, 2, none⟩ (.int .i64 t4922)).heap[gb4912]? = some (.cells #[.bool t4909, .int .i64 t4910, .int .i64 t4911] 23 (0, 0))) := ⟨pk BK4912⟩
                    have n7_ : Aside0 ((((w78.setCell ⟨gb4923, 0, none⟩ (.bool t4920)).setCell ⟨gb4923, 1, none⟩ (.int .i64 t4921)).setCell ⟨gb4923, 2, none⟩ (.int .i64 t4922)).heap[gb4919]? = some (.cells #[.bool t4916, .int .i64 t4917, .int .i64 t4918] 23 (0, 0))) := ⟨pk BK4919⟩
                    have n8_ : Aside0 ((((w78.setCell ⟨gb4923, 0, none⟩ (.bool t4920)).setCell ⟨gb4923, 1, none⟩ (.int .i64 t4921)).setCell ⟨gb4923, 2, none⟩ (.int .i64 t4922)).heap[gb4923]? = some (.cells #[.bool t4920, .int .i64 t4921, .int .i64 t4922] 23 (0, 0))) := ⟨pK BK4923⟩
                    have n9_ : Aside0 (Below w.heap.size w (((w78.setCell ⟨gb4923, 0, none⟩ (.bool t4920)).setCell ⟨gb4923, 1, none⟩ (.int .i64 t4921)).setCell ⟨gb4923, 2, none⟩ (.int .i64 t4922))) := ⟨pl HB⟩
                    (try clear HO4908)
                    (try clear HO4915)
                    (try clear BK4901)
                    (try clear BK4902)
                    (try clear BK4903)
                    (try clear BK4904)
                    (try clear BK4912)
                    (try clear BK4919)
                    (try clear BK4923)
                    (try clear HB)
                    generalize (((w78.setCell ⟨gb4923, 0, none⟩ (.bool t4920)).setCell ⟨gb4923, 1, none⟩ (.int .i64 t4921)).setCell ⟨gb4923, 2, none⟩ (.int .i64 t4922)) = w86 at n0_ n1_ n2_ n3_ n4_ n5_ n6_ n7_ n8_ n9_ ⊢
                    have HO4908 := n0_
                    have HO4915 := n1_
                    have BK4901 := n2_
                    have BK4902 := n3_
                    have BK4903 := n4_
                    have BK4904 := n5_
                    have BK4912 := n6_
                    have BK4919 := n7_
                    have BK4923 := n8_
                    have HB := n9_
                    clear n0_ n1_ n2_ n3_ n4_ n5_ n6_ n7_ n8_ n9_
                    replace HO4908 := Aside0.mk (Kd.R_drew HO4908.out)
                    replace HO4915 := Aside0.mk (Kd.R_drew HO4915.out)
                    replace BK4901 := Aside0.mk (blk_drew BK4901.out)
                    replace BK4902 := Aside0.mk (blk_drew BK4902.out)
                    replace BK4903 := Aside0.mk (blk_drew BK4903.out)
                    replace BK4904 := Aside0.mk (blk_drew BK4904.out)
                    replace BK4912 := Aside0.mk (blk_drew BK4912.out)
                    replace BK4919 := Aside0.mk (blk_drew BK4919.out)
                    replace BK4923 := Aside0.mk (blk_drew BK4923.out)
                    replace HB := Aside0.mk (below_drew1 HB.out)
                    refine start_ (n := 67) (S := fun w' => w'.cell? ⟨gb4901, 0, none⟩ = some (.bool a0_0) ∧ w'.cell? ⟨gb4901, 1, none⟩ = some (.int .i64 a0_1) ∧ w'.cell? ⟨gb4901, 2, none⟩ = some (.int .i64 a0_2) ∧ w'.cell? ⟨gb4912, 0, none⟩ = some (.bool t4909) ∧ w'.cell? ⟨gb4912, 1, none⟩ = some (.int .i64 t4910) ∧ w'.cell? ⟨gb4912, 2, none⟩ = some (.int .i64 t4911) ∧ w'.cell? ⟨gb4923, 0, none⟩ = some (.bool t4920) ∧ w'.cell? ⟨gb4923, 1, none⟩ = some (.int .i64 t4921) ∧ w'.cell? ⟨gb4923, 2, none⟩ = some (.int .i64 t4922) ∧ w'.cell? ⟨gb4903, 0, none⟩ = some (.bool a2_0) ∧ w'.cell? ⟨gb4903, 1, none⟩ = some (.int .i64 a2_1) ∧ w'.cell? ⟨gb4903, 2, none⟩ = some (.int .i64 a2_2) ∧ w'.cell? ⟨gb4902, 0, none⟩ = some (.bool a1_0) ∧ w'.cell? ⟨gb4902, 1, none⟩ = some (.int .i64 a1_1) ∧ w'.cell? ⟨gb4902, 2, none⟩ = some (.int .i64 a1_2) ∧ w'.cell? ⟨gb4919, 0, none⟩ = some (.bool t4916) ∧ w'.cell? ⟨gb4919, 1, none⟩ = some (.int .i64 t4917) ∧ w'.cell? ⟨gb4919, 2, none⟩ = some (.int .i64 t4918)) (ds := []) #[false, false, false, false, false, false, false, false, false, false, false, false, false, false, false, false, false, false, false, false, false, false, false, false, false, false, false, false, false, false, false, false, false, false, false, false, false, false, false, false, false, false, false, false, false, false, false, false, false, false, false, false, false, false, false, false, false, false, false, false, false, false, false, false, false, false, false] (by kernel_rfl) rfl rfl ⟨bc BK4901 0, bc BK4901 1, bc BK4901 2, bc BK4912 0, bc BK4912 1, bc BK4912 2, bc BK4923 0, bc BK4923 1, bc BK4923 2, bc BK4903 0, bc BK4903 1, bc BK4903 2, bc BK4902 0, bc BK4902 1, bc BK4902 2, bc BK4919 0, bc BK4919 1, bc BK4919 2⟩ (fun hHeld => ?_); refine with_tabW flyballlaw17_IntsOrder.tab7 flyballlaw17_IntsOrder.bits7 (fun HT_ HW_ => ?_)
                    generalize w86.drew = w87 at HO4908 HO4915 BK4901 BK4902 BK4903 BK4904 BK4912 BK4919 BK4923 HB hHeld ⊢
                    refine pur 0 (some 27) #[true, false, false, false, false, false, false, false, false, false, false, false, false, false, false, false, false, false, false, false, false, false, false, false, false, false, false, false, false, false, false, false, false, false, false, false, false, false, false, false, false, false, false, false, false, false, false, false, false, false, false, false, false, false, false, false, false, false, false, false, false, false, false, false, false, false, false] (any_of HT_.out (by kernel_rfl)) ?_
                    refine pur 1 (some 28) #[true, true, false, false, false, false, false, false, false, false, false, false, false, false, false, false, false, false, false, false, false, false, false, false, false, false, false, false, false, false, false, false, false, false, false, false, false, false, false, false, false, false, false, false, false, false, false, false, false, false, false, false, false, false, false, false, false, false, false, false, false, false, false, false, false, false, false] (any_of HT_.out (by kernel_rfl)) ?_
                    refine tak 2 (some 29) #[true, true, true, false, false, false, false, false, false, false, false, false, false, false, false, false, false, false, false, false, false, false, false, false, false, false, false, false, false, false, false, false, false, false, false, false, false, false, false, false, false, false, false, false, false, false, false, false, false, false, false, false, false, false, false, false, false, false, false, false, false, false, false, false, false, false, false] (take_ofW HT_.out HW_.out (by kernel_rfl)) hHeld ?_
                    refine tak 3 (some 30) #[true, true, true, true, false, false, false, false, false, false, false, false, false, false, false, false, false, false, false, false, false, false, false, false, false, false, false, false, false, false, false, false, false, false, false, false, false, false, false, false, false, false, false, false, false, false, false, false, false, false, false, false, false, false, false, false, false, false, false, false, false, false, false, false, false, false, false] (take_ofW HT_.out HW_.out (by kernel_rfl)) hHeld ?_
                    refine one_ (i := 4) (N := some 31) #[true, true, true, true, true, false, false, false, false, false, false, false, false, false, false, false, false, false, false, false, false, false, false, false, false, false, false, false, false, false, false, false, false, false, false, false, false, false, false, false, false, false, false, false, false, false, false, false, false, false, false, false, false, false, false, false, false, false, false, false, false, false, false, false, false, false, false] rfl rfl (one_of HT_.out (by kernel_rfl)) (by decide) (fun K hK => ?_)
                    refine gc Try.func41 #[.agg #[.bool a0_0, .int .i64 a0_1, .int .i64 a0_2], .agg #[.bool t4909, .int .i64 t4910, .int .i64 t4911]] (ints_Inside.calls a0_0 a0_1 a0_2 t4909 t4910 t4911 true _ A10.out) ?_
                    intro w88 hb
                    have n0_ := Aside0.mk (Kd.R_below (by (with_reducible repeat (first | apply Kd.R_alloc | apply Kd.R_drewN | apply Kd.R_drew)); exact HO4908.out) hb)
                    have n1_ := Aside0.mk (Kd.R_below (by (with_reducible repeat (first | apply Kd.R_alloc | apply Kd.R_drewN | apply Kd.R_drew)); exact HO4915.out) hb)
                    have n2_ := kb BK4901 hb
                    have n3_ := kb BK4902 hb
                    have n4_ := kb BK4903 hb
                    have n5_ := kb BK4904 hb
                    have n6_ := kb BK4912 hb
                    have n7_ := kb BK4919 hb
                    have n8_ := kb BK4923 hb
                    have n9_ := kh HB hb
                    clear HO4908
                    clear HO4915
                    clear BK4901
                    clear BK4902
                    clear BK4903
                    clear BK4904
                    clear BK4912
                    clear BK4919
                    clear BK4923
                    clear HB
                    have HO4908 := n0_
                    have HO4915 := n1_
                    have BK4901 := n2_
                    have BK4902 := n3_
                    have BK4903 := n4_
                    have BK4904 := n5_
                    have BK4912 := n6_
                    have BK4919 := n7_
                    have BK4923 := n8_
                    have HB := n9_
                    clear n0_ n1_ n2_ n3_ n4_ n5_ n6_ n7_ n8_ n9_
                    (try clear hb)
                    (try clear hb2)
                    (try clear hk)
                    (try clear hi)
                    refine hK.out _ _ ⟨bc BK4901 0, bc BK4901 1, bc BK4901 2, bc BK4912 0, bc BK4912 1, bc BK4912 2, bc BK4923 0, bc BK4923 1, bc BK4923 2, bc BK4903 0, bc BK4903 1, bc BK4903 2, bc BK4902 0, bc BK4902 1, bc BK4902 2, bc BK4919 0, bc BK4919 1, bc BK4919 2⟩ (fun hHeld => ?_)
                    clear hK K
                    refine nrm (some 31) ?_
                    refine pur 5 (some 32) #[true, true, true, true, true, true, false, false, false, false, false, false, false, false, false, false, false, false, false, false, false, false, false, false, false, false, false, false, false, false, false, false, false, false, false, false, false, false, false, false, false, false, false, false, false, false, false, false, false, false, false, false, false, false, false, false, false, false, false, false, false, false, false, false, false, false, false] (any_of HT_.out (by kernel_rfl)) ?_
                    refine pur 6 (some 33) #[true, true, true, true, true, true, true, false, false, false, false, false, false, false, false, false, false, false, false, false, false, false, false, false, false, false, false, false, false, false, false, false, false, false, false, false, false, false, false, false, false, false, false, false, false, false, false, false, false, false, false, false, false, false, false, false, false, false, false, false, false, false, false, false, false, false, false] (any_of HT_.out (by kernel_rfl)) ?_
                    refine tak 7 (some 34) #[true, true, true, true, true, true, true, true, false, false, false, false, false, false, false, false, false, false, false, false, false, false, false, false, false, false, false, false, false, false, false, false, false, false, false, false, false, false, false, false, false, false, false, false, false, false, false, false, false, false, false, false, false, false, false, false, false, false, false, false, false, false, false, false, false, false, false] (take_ofW HT_.out HW_.out (by kernel_rfl)) hHeld ?_
                    refine tak 8 (some 35) #[true, true, true, true, true, true, true, true, true, false, false, false, false, false, false, false, false, false, false, false, false, false, false, false, false, false, false, false, false, false, false, false, false, false, false, false, false, false, false, false, false, false, false, false, false, false, false, false, false, false, false, false, false, false, false, false, false, false, false, false, false, false, false, false, false, false, false] (take_ofW HT_.out HW_.out (by kernel_rfl)) hHeld ?_
                    refine one_ (i := 9) (N := some 36) #[true, true, true, true, true, true, true, true, true, true, false, false, false, false, false, false, false, false, false, false, false, false, false, false, false, false, false, false, false, false, false, false, false, false, false, false, false, false, false, false, false, false, false, false, false, false, false, false, false, false, false, false, false, false, false, false, false, false, false, false, false, false, false, false, false, false, false] rfl rfl (one_of HT_.out (by kernel_rfl)) (by decide) (fun K hK => ?_)
                    refine gc Try.func41 #[.agg #[.bool t4920, .int .i64 t4921, .int .i64 t4922], .agg #[.bool a0_0, .int .i64 a0_1, .int .i64 a0_2]] (ints_Inside.calls t4920 t4921 t4922 a0_0 a0_1 a0_2 true _ A12.out) ?_
                    intro w89 hb
                    have n0_ := Aside0.mk (Kd.R_below (by (with_reducible repeat (first | apply Kd.R_alloc | apply Kd.R_drewN | apply Kd.R_drew)); exact HO4908.out) hb)
                    have n1_ := Aside0.mk (Kd.R_below (by (with_reducible repeat (first | apply Kd.R_alloc | apply Kd.R_drewN | apply Kd.R_drew)); exact HO4915.out) hb)
                    have n2_ := kb BK4901 hb
                    have n3_ := kb BK4902 hb
                    have n4_ := kb BK4903 hb
                    have n5_ := kb BK4904 hb
                    have n6_ := kb BK4912 hb
                    have n7_ := kb BK4919 hb
                    have n8_ := kb BK4923 hb
                    have n9_ := kh HB hb
                    clear HO4908
                    clear HO4915
                    clear BK4901
                    clear BK4902
                    clear BK4903
                    clear BK4904
                    clear BK4912
                    clear BK4919
                    clear BK4923
                    clear HB
                    have HO4908 := n0_
                    have HO4915 := n1_
                    have BK4901 := n2_
                    have BK4902 := n3_
                    have BK4903 := n4_
                    have BK4904 := n5_
                    have BK4912 := n6_
                    have BK4919 := n7_
                    have BK4923 := n8_
                    have HB := n9_
                    clear n0_ n1_ n2_ n3_ n4_ n5_ n6_ n7_ n8_ n9_
                    (try clear hb)
                    (try clear hb2)
                    (try clear hk)
                    (try clear hi)
                    refine hK.out _ _ ⟨bc BK4901 0, bc BK4901 1, bc BK4901 2, bc BK4912 0, bc BK4912 1, bc BK4912 2, bc BK4923 0, bc BK4923 1, bc BK4923 2, bc BK4903 0, bc BK4903 1, bc BK4903 2, bc BK4902 0, bc BK4902 1, bc BK4902 2, bc BK4919 0, bc BK4919 1, bc BK4919 2⟩ (fun hHeld => ?_)
                    clear hK K
                    refine nrm (some 36) ?_
                    refine pur 10 (some 37) #[true, true, true, true, true, true, true, true, true, true, true, false, false, false, false, false, false, false, false, false, false, false, false, false, false, false, false, false, false, false, false, false, false, false, false, false, false, false, false, false, false, false, false, false, false, false, false, false, false, false, false, false, false, false, false, false, false, false, false, false, false, false, false, false, false, false, false] (any_of HT_.out (by kernel_rfl)) ?_
                    refine pur 11 (some 38) #[true, true, true, true, true, true, true, true, true, true, true, true, false, false, false, false, false, false, false, false, false, false, false, false, false, false, false, false, false, false, false, false, false, false, false, false, false, false, false, false, false, false, false, false, false, false, false, false, false, false, false, false, false, false, false, false, false, false, false, false, false, false, false, false, false, false, false] (any_of HT_.out (by kernel_rfl)) ?_
                    refine tak 12 (some 39) #[true, true, true, true, true, true, true, true, true, true, true, true, true, false, false, false, false, false, false, false, false, false, false, false, false, false, false, false, false, false, false, false, false, false, false, false, false, false, false, false, false, false, false, false, false, false, false, false, false, false, false, false, false, false, false, false, false, false, false, false, false, false, false, false, false, false, false] (take_ofW HT_.out HW_.out (by kernel_rfl)) hHeld ?_
                    refine tak 13 (some 40) #[true, true, true, true, true, true, true, true, true, true, true, true, true, true, false, false, false, false, false, false, false, false, false, false, false, false, false, false, false, false, false, false, false, false, false, false, false, false, false, false, false, false, false, false, false, false, false, false, false, false, false, false, false, false, false, false, false, false, false, false, false, false, false, false, false, false, false] (take_ofW HT_.out HW_.out (by kernel_rfl)) hHeld ?_
                    refine one_ (i := 14) (N := some 41) #[true, true, true, true, true, true, true, true, true, true, true, true, true, true, true, false, false, false, false, false, false, false, false, false, false, false, false, false, false, false, false, false, false, false, false, false, false, false, false, false, false, false, false, false, false, false, false, false, false, false, false, false, false, false, false, false, false, false, false, false, false, false, false, false, false, false, false] rfl rfl (one_of HT_.out (by kernel_rfl)) (by decide) (fun K hK => ?_)
                    refine gc Try.func41 #[.agg #[.bool t4920, .int .i64 t4921, .int .i64 t4922], .agg #[.bool a2_0, .int .i64 a2_1, .int .i64 a2_2]] (ints_Inside.calls t4920 t4921 t4922 a2_0 a2_1 a2_2 true _ A14.out) ?_
                    intro w90 hb
                    have n0_ := Aside0.mk (Kd.R_below (by (with_reducible repeat (first | apply Kd.R_alloc | apply Kd.R_drewN | apply Kd.R_drew)); exact HO4908.out) hb)
                    have n1_ := Aside0.mk (Kd.R_below (by (with_reducible repeat (first | apply Kd.R_alloc | apply Kd.R_drewN | apply Kd.R_drew)); exact HO4915.out) hb)
                    have n2_ := kb BK4901 hb
                    have n3_ := kb BK4902 hb
                    have n4_ := kb BK4903 hb
                    have n5_ := kb BK4904 hb
                    have n6_ := kb BK4912 hb
                    have n7_ := kb BK4919 hb
                    have n8_ := kb BK4923 hb
                    have n9_ := kh HB hb
                    clear HO4908
                    clear HO4915
                    clear BK4901
                    clear BK4902
                    clear BK4903
                    clear BK4904
                    clear BK4912
                    clear BK4919
                    clear BK4923
                    clear HB
                    have HO4908 := n0_
                    have HO4915 := n1_
                    have BK4901 := n2_
                    have BK4902 := n3_
                    have BK4903 := n4_
                    have BK4904 := n5_
                    have BK4912 := n6_
                    have BK4919 := n7_
                    have BK4923 := n8_
                    have HB := n9_
                    clear n0_ n1_ n2_ n3_ n4_ n5_ n6_ n7_ n8_ n9_
                    (try clear hb)
                    (try clear hb2)
                    (try clear hk)
                    (try clear hi)
                    refine hK.out _ _ ⟨bc BK4901 0, bc BK4901 1, bc BK4901 2, bc BK4912 0, bc BK4912 1, bc BK4912 2, bc BK4923 0, bc BK4923 1, bc BK4923 2, bc BK4903 0, bc BK4903 1, bc BK4903 2, bc BK4902 0, bc BK4902 1, bc BK4902 2, bc BK4919 0, bc BK4919 1, bc BK4919 2⟩ (fun hHeld => ?_)
                    clear hK K
                    refine nrm (some 41) ?_
                    refine pur 15 (some 42) #[true, true, true, true, true, true, true, true, true, true, true, true, true, true, true, true, false, false, false, false, false, false, false, false, false, false, false, false, false, false, false, false, false, false, false, false, false, false, false, false, false, false, false, false, false, false, false, false, false, false, false, false, false, false, false, false, false, false, false, false, false, false, false, false, false, false, false] (any_of HT_.out (by kernel_rfl)) ?_
                    refine pur 16 (some 43) #[true, true, true, true, true, true, true, true, true, true, true, true, true, true, true, true, true, false, false, false, false, false, false, false, false, false, false, false, false, false, false, false, false, false, false, false, false, false, false, false, false, false, false, false, false, false, false, false, false, false, false, false, false, false, false, false, false, false, false, false, false, false, false, false, false, false, false] (any_of HT_.out (by kernel_rfl)) ?_
                    refine tak 17 (some 44) #[true, true, true, true, true, true, true, true, true, true, true, true, true, true, true, true, true, true, false, false, false, false, false, false, false, false, false, false, false, false, false, false, false, false, false, false, false, false, false, false, false, false, false, false, false, false, false, false, false, false, false, false, false, false, false, false, false, false, false, false, false, false, false, false, false, false, false] (take_ofW HT_.out HW_.out (by kernel_rfl)) hHeld ?_
                    refine tak 18 (some 45) #[true, true, true, true, true, true, true, true, true, true, true, true, true, true, true, true, true, true, true, false, false, false, false, false, false, false, false, false, false, false, false, false, false, false, false, false, false, false, false, false, false, false, false, false, false, false, false, false, false, false, false, false, false, false, false, false, false, false, false, false, false, false, false, false, false, false, false] (take_ofW HT_.out HW_.out (by kernel_rfl)) hHeld ?_
                    refine tak 20 (some 47) #[true, true, true, true, true, true, true, true, true, true, true, true, true, true, true, true, true, true, true, false, true, false, false, false, false, false, false, false, false, false, false, false, false, false, false, false, false, false, false, false, false, false, false, false, false, false, false, false, false, false, false, false, false, false, false, false, false, false, false, false, false, false, false, false, false, false, false] (take_ofW HT_.out HW_.out (by kernel_rfl)) hHeld ?_
                    refine tak 21 (some 48) #[true, true, true, true, true, true, true, true, true, true, true, true, true, true, true, true, true, true, true, false, true, true, false, false, false, false, false, false, false, false, false, false, false, false, false, false, false, false, false, false, false, false, false, false, false, false, false, false, false, false, false, false, false, false, false, false, false, false, false, false, false, false, false, false, false, false, false] (take_ofW HT_.out HW_.out (by kernel_rfl)) hHeld ?_
                    refine one_ (i := 19) (N := some 46) #[true, true, true, true, true, true, true, true, true, true, true, true, true, true, true, true, true, true, true, true, true, true, false, false, false, false, false, false, false, false, false, false, false, false, false, false, false, false, false, false, false, false, false, false, false, false, false, false, false, false, false, false, false, false, false, false, false, false, false, false, false, false, false, false, false, false, false] rfl rfl (one_of HT_.out (by kernel_rfl)) (by decide) (fun K hK => ?_)
                    refine gc Try.func51 #[.agg #[.bool a0_0, .int .i64 a0_1, .int .i64 a0_2], .agg #[.bool a1_0, .int .i64 a1_1, .int .i64 a1_2]] (ints_Add.calls k a0_0 a0_1 a0_2 a1_0 a1_1 a1_2 t4927 t4928 t4929 _ A16.out) ?_
                    intro w91 hb
                    have n0_ := Aside0.mk (Kd.R_below (by (with_reducible repeat (first | apply Kd.R_alloc | apply Kd.R_drewN | apply Kd.R_drew)); exact HO4908.out) hb)
                    have n1_ := Aside0.mk (Kd.R_below (by (with_reducible repeat (first | apply Kd.R_alloc | apply Kd.R_drewN | apply Kd.R_drew)); exact HO4915.out) hb)
                    have n2_ := kb BK4901 hb
                    have n3_ := kb BK4902 hb
                    have n4_ := kb BK4903 hb
                    have n5_ := kb BK4904 hb
                    have n6_ := kb BK4912 hb
                    have n7_ := kb BK4919 hb
                    have n8_ := kb BK4923 hb
                    have n9_ := kh HB hb
                    clear HO4908
                    clear HO4915
                    clear BK4901
                    clear BK4902
                    clear BK4903
                    clear BK4904
                    clear BK4912
                    clear BK4919
                    clear BK4923
                    clear HB
                    have HO4908 := n0_
                    have HO4915 := n1_
                    have BK4901 := n2_
                    have BK4902 := n3_
                    have BK4903 := n4_
                    have BK4904 := n5_
                    have BK4912 := n6_
                    have BK4919 := n7_
                    have BK4923 := n8_
                    have HB := n9_
                    clear n0_ n1_ n2_ n3_ n4_ n5_ n6_ n7_ n8_ n9_
                    (try clear hb)
                    (try clear hb2)
                    (try clear hk)
                    (try clear hi)
                    refine hK.out _ _ ⟨bc BK4901 0, bc BK4901 1, bc BK4901 2, bc BK4912 0, bc BK4912 1, bc BK4912 2, bc BK4923 0, bc BK4923 1, bc BK4923 2, bc BK4903 0, bc BK4903 1, bc BK4903 2, bc BK4902 0, bc BK4902 1, bc BK4902 2, bc BK4919 0, bc BK4919 1, bc BK4919 2⟩ (fun hHeld => ?_)
                    clear hK K
                    refine nrm (some 46) ?_
                    refine one_ (i := 22) (N := some 49) #[true, true, true, true, true, true, true, true, true, true, true, true, true, true, true, true, true, true, true, true, true, true, true, false, false, false, false, false, false, false, false, false, false, false, false, false, false, false, false, false, false, false, false, false, false, false, false, false, false, false, false, false, false, false, false, false, false, false, false, false, false, false, false, false, false, false, false] rfl rfl (one_of HT_.out (by kernel_rfl)) (by decide) (fun K hK => ?_)
                    refine gc Try.func51 #[.agg #[.bool t4909, .int .i64 t4910, .int .i64 t4911], .agg #[.bool t4916, .int .i64 t4917, .int .i64 t4918]] (ints_Add.calls k t4909 t4910 t4911 t4916 t4917 t4918 t4930 t4931 t4932 _ A17.out) ?_
                    intro w92 hb
                    have n0_ := Aside0.mk (Kd.R_below (by (with_reducible repeat (first | apply Kd.R_alloc | apply Kd.R_drewN | apply Kd.R_drew)); exact HO4908.out) hb)
                    have n1_ := Aside0.mk (Kd.R_below (by (with_reducible repeat (first | apply Kd.R_alloc | apply Kd.R_drewN | apply Kd.R_drew)); exact HO4915.out) hb)
                    have n2_ := kb BK4901 hb
                    have n3_ := kb BK4902 hb
                    have n4_ := kb BK4903 hb
                    have n5_ := kb BK4904 hb
                    have n6_ := kb BK4912 hb
                    have n7_ := kb BK4919 hb
                    have n8_ := kb BK4923 hb
                    have n9_ := kh HB hb
                    clear HO4908
                    clear HO4915
                    clear BK4901
                    clear BK4902
                    clear BK4903
                    clear BK4904
                    clear BK4912
                    clear BK4919
                    clear BK4923
                    clear HB
                    have HO4908 := n0_
                    have HO4915 := n1_
                    have BK4901 := n2_
                    have BK4902 := n3_
                    have BK4903 := n4_
                    have BK4904 := n5_
                    have BK4912 := n6_
                    have BK4919 := n7_
                    have BK4923 := n8_
                    have HB := n9_
                    clear n0_ n1_ n2_ n3_ n4_ n5_ n6_ n7_ n8_ n9_
                    (try clear hb)
                    (try clear hb2)
                    (try clear hk)
                    (try clear hi)
                    refine hK.out _ _ ⟨bc BK4901 0, bc BK4901 1, bc BK4901 2, bc BK4912 0, bc BK4912 1, bc BK4912 2, bc BK4923 0, bc BK4923 1, bc BK4923 2, bc BK4903 0, bc BK4903 1, bc BK4903 2, bc BK4902 0, bc BK4902 1, bc BK4902 2, bc BK4919 0, bc BK4919 1, bc BK4919 2⟩ (fun hHeld => ?_)
                    clear hK K
                    refine nrm (some 49) ?_
                    refine one_ (i := 23) (N := some 50) #[true, true, true, true, true, true, true, true, true, true, true, true, true, true, true, true, true, true, true, true, true, true, true, true, false, false, false, false, false, false, false, false, false, false, false, false, false, false, false, false, false, false, false, false, false, false, false, false, false, false, false, false, false, false, false, false, false, false, false, false, false, false, false, false, false, false, false] rfl rfl (one_of HT_.out (by kernel_rfl)) (by decide) (fun K hK => ?_)
                    refine gc Try.func41 #[.agg #[.bool t4927, .int .i64 t4928, .int .i64 t4929], .agg #[.bool t4930, .int .i64 t4931, .int .i64 t4932]] (ints_Inside.calls t4927 t4928 t4929 t4930 t4931 t4932 true _ A18.out) ?_
                    intro w93 hb
                    have n0_ := Aside0.mk (Kd.R_below (by (with_reducible repeat (first | apply Kd.R_alloc | apply Kd.R_drewN | apply Kd.R_drew)); exact HO4908.out) hb)
                    have n1_ := Aside0.mk (Kd.R_below (by (with_reducible repeat (first | apply Kd.R_alloc | apply Kd.R_drewN | apply Kd.R_drew)); exact HO4915.out) hb)
                    have n2_ := kb BK4901 hb
                    have n3_ := kb BK4902 hb
                    have n4_ := kb BK4903 hb
                    have n5_ := kb BK4904 hb
                    have n6_ := kb BK4912 hb
                    have n7_ := kb BK4919 hb
                    have n8_ := kb BK4923 hb
                    have n9_ := kh HB hb
                    clear HO4908
                    clear HO4915
                    clear BK4901
                    clear BK4902
                    clear BK4903
                    clear BK4904
                    clear BK4912
                    clear BK4919
                    clear BK4923
                    clear HB
                    have HO4908 := n0_
                    have HO4915 := n1_
                    have BK4901 := n2_
                    have BK4902 := n3_
                    have BK4903 := n4_
                    have BK4904 := n5_
                    have BK4912 := n6_
                    have BK4919 := n7_
                    have BK4923 := n8_
                    have HB := n9_
                    clear n0_ n1_ n2_ n3_ n4_ n5_ n6_ n7_ n8_ n9_
                    (try clear hb)
                    (try clear hb2)
                    (try clear hk)
                    (try clear hi)
                    refine hK.out _ _ ⟨bc BK4901 0, bc BK4901 1, bc BK4901 2, bc BK4912 0, bc BK4912 1, bc BK4912 2, bc BK4923 0, bc BK4923 1, bc BK4923 2, bc BK4903 0, bc BK4903 1, bc BK4903 2, bc BK4902 0, bc BK4902 1, bc BK4902 2, bc BK4919 0, bc BK4919 1, bc BK4919 2⟩ (fun hHeld => ?_)
                    clear hK K
                    refine nrm (some 50) ?_
                    refine pur 24 (some 51) #[true, true, true, true, true, true, true, true, true, true, true, true, true, true, true, true, true, true, true, true, true, true, true, true, true, false, false, false, false, false, false, false, false, false, false, false, false, false, false, false, false, false, false, false, false, false, false, false, false, false, false, false, false, false, false, false, false, false, false, false, false, false, false, false, false, false, false] (any_of HT_.out (by kernel_rfl)) ?_
                    refine pur 25 (some 52) #[true, true, true, true, true, true, true, true, true, true, true, true, true, true, true, true, true, true, true, true, true, true, true, true, true, true, false, false, false, false, false, false, false, false, false, false, false, false, false, false, false, false, false, false, false, false, false, false, false, false, false, false, false, false, false, false, false, false, false, false, false, false, false, false, false, false, false] (any_of HT_.out (by kernel_rfl)) ?_
                    refine tak 26 (some 53) #[true, true, true, true, true, true, true, true, true, true, true, true, true, true, true, true, true, true, true, true, true, true, true, true, true, true, true, false, false, false, false, false, false, false, false, false, false, false, false, false, false, false, false, false, false, false, false, false, false, false, false, false, false, false, false, false, false, false, false, false, false, false, false, false, false, false, false] (take_ofW HT_.out HW_.out (by kernel_rfl)) hHeld ?_
                    refine tak 27 (some 54) #[true, true, true, true, true, true, true, true, true, true, true, true, true, true, true, true, true, true, true, true, true, true, true, true, true, true, true, true, false, false, false, false, false, false, false, false, false, false, false, false, false, false, false, false, false, false, false, false, false, false, false, false, false, false, false, false, false, false, false, false, false, false, false, false, false, false, false] (take_ofW HT_.out HW_.out (by kernel_rfl)) hHeld ?_
                    refine tak 29 (some 56) #[true, true, true, true, true, true, true, true, true, true, true, true, true, true, true, true, true, true, true, true, true, true, true, true, true, true, true, true, false, true, false, false, false, false, false, false, false, false, false, false, false, false, false, false, false, false, false, false, false, false, false, false, false, false, false, false, false, false, false, false, false, false, false, false, false, false, false] (take_ofW HT_.out HW_.out (by kernel_rfl)) hHeld ?_
                    refine tak 30 (some 57) #[true, true, true, true, true, true, true, true, true, true, true, true, true, true, true, true, true, true, true, true, true, true, true, true, true, true, true, true, false, true, true, false, false, false, false, false, false, false, false, false, false, false, false, false, false, false, false, false, false, false, false, false, false, false, false, false, false, false, false, false, false, false, false, false, false, false, false] (take_ofW HT_.out HW_.out (by kernel_rfl)) hHeld ?_
                    refine one_ (i := 28) (N := some 55) #[true, true, true, true, true, true, true, true, true, true, true, true, true, true, true, true, true, true, true, true, true, true, true, true, true, true, true, true, true, true, true, false, false, false, false, false, false, false, false, false, false, false, false, false, false, false, false, false, false, false, false, false, false, false, false, false, false, false, false, false, false, false, false, false, false, false, false] rfl rfl (one_of HT_.out (by kernel_rfl)) (by decide) (fun K hK => ?_)
                    refine gc Try.func52 #[.agg #[.bool a0_0, .int .i64 a0_1, .int .i64 a0_2], .agg #[.bool a1_0, .int .i64 a1_1, .int .i64 a1_2]] (ints_Sub.calls k a0_0 a0_1 a0_2 a1_0 a1_1 a1_2 t4934 t4935 t4936 _ A20.out) ?_
                    intro w94 hb
                    have n0_ := Aside0.mk (Kd.R_below (by (with_reducible repeat (first | apply Kd.R_alloc | apply Kd.R_drewN | apply Kd.R_drew)); exact HO4908.out) hb)
                    have n1_ := Aside0.mk (Kd.R_below (by (with_reducible repeat (first | apply Kd.R_alloc | apply Kd.R_drewN | apply Kd.R_drew)); exact HO4915.out) hb)
                    have n2_ := kb BK4901 hb
                    have n3_ := kb BK4902 hb
                    have n4_ := kb BK4903 hb
                    have n5_ := kb BK4904 hb
                    have n6_ := kb BK4912 hb
                    have n7_ := kb BK4919 hb
                    have n8_ := kb BK4923 hb
                    have n9_ := kh HB hb
                    clear HO4908
                    clear HO4915
                    clear BK4901
                    clear BK4902
                    clear BK4903
                    clear BK4904
                    clear BK4912
                    clear BK4919
                    clear BK4923
                    clear HB
                    have HO4908 := n0_
                    have HO4915 := n1_
                    have BK4901 := n2_
                    have BK4902 := n3_
                    have BK4903 := n4_
                    have BK4904 := n5_
                    have BK4912 := n6_
                    have BK4919 := n7_
                    have BK4923 := n8_
                    have HB := n9_
                    clear n0_ n1_ n2_ n3_ n4_ n5_ n6_ n7_ n8_ n9_
                    (try clear hb)
                    (try clear hb2)
                    (try clear hk)
                    (try clear hi)
                    refine hK.out _ _ ⟨bc BK4901 0, bc BK4901 1, bc BK4901 2, bc BK4912 0, bc BK4912 1, bc BK4912 2, bc BK4923 0, bc BK4923 1, bc BK4923 2, bc BK4903 0, bc BK4903 1, bc BK4903 2, bc BK4902 0, bc BK4902 1, bc BK4902 2, bc BK4919 0, bc BK4919 1, bc BK4919 2⟩ (fun hHeld => ?_)
                    clear hK K
                    refine nrm (some 55) ?_
                    refine one_ (i := 31) (N := some 58) #[true, true, true, true, true, true, true, true, true, true, true, true, true, true, true, true, true, true, true, true, true, true, true, true, true, true, true, true, true, true, true, true, false, false, false, false, false, false, false, false, false, false, false, false, false, false, false, false, false, false, false, false, false, false, false, false, false, false, false, false, false, false, false, false, false, false, false] rfl rfl (one_of HT_.out (by kernel_rfl)) (by decide) (fun K hK => ?_)
                    refine gc Try.func52 #[.agg #[.bool t4909, .int .i64 t4910, .int .i64 t4911], .agg #[.bool t4916, .int .i64 t4917, .int .i64 t4918]] (ints_Sub.calls k t4909 t4910 t4911 t4916 t4917 t4918 t4937 t4938 t4939 _ A21.out) ?_
                    intro w95 hb
                    have n0_ := Aside0.mk (Kd.R_below (by (with_reducible repeat (first | apply Kd.R_alloc | apply Kd.R_drewN | apply Kd.R_drew)); exact HO4908.out) hb)
                    have n1_ := Aside0.mk (Kd.R_below (by (with_reducible repeat (first | apply Kd.R_alloc | apply Kd.R_drewN | apply Kd.R_drew)); exact HO4915.out) hb)
                    have n2_ := kb BK4901 hb
                    have n3_ := kb BK4902 hb
                    have n4_ := kb BK4903 hb
                    have n5_ := kb BK4904 hb
                    have n6_ := kb BK4912 hb
                    have n7_ := kb BK4919 hb
                    have n8_ := kb BK4923 hb
                    have n9_ := kh HB hb
                    clear HO4908
                    clear HO4915
                    clear BK4901
                    clear BK4902
                    clear BK4903
                    clear BK4904
                    clear BK4912
                    clear BK4919
                    clear BK4923
                    clear HB
                    have HO4908 := n0_
                    have HO4915 := n1_
                    have BK4901 := n2_
                    have BK4902 := n3_
                    have BK4903 := n4_
                    have BK4904 := n5_
                    have BK4912 := n6_
                    have BK4919 := n7_
                    have BK4923 := n8_
                    have HB := n9_
                    clear n0_ n1_ n2_ n3_ n4_ n5_ n6_ n7_ n8_ n9_
                    (try clear hb)
                    (try clear hb2)
                    (try clear hk)
                    (try clear hi)
                    refine hK.out _ _ ⟨bc BK4901 0, bc BK4901 1, bc BK4901 2, bc BK4912 0, bc BK4912 1, bc BK4912 2, bc BK4923 0, bc BK4923 1, bc BK4923 2, bc BK4903 0, bc BK4903 1, bc BK4903 2, bc BK4902 0, bc BK4902 1, bc BK4902 2, bc BK4919 0, bc BK4919 1, bc BK4919 2⟩ (fun hHeld => ?_)
                    clear hK K
                    refine nrm (some 58) ?_
                    refine one_ (i := 32) (N := some 59) #[true, true, true, true, true, true, true, true, true, true, true, true, true, true, true, true, true, true, true, true, true, true, true, true, true, true, true, true, true, true, true, true, true, false, false, false, false, false, false, false, false, false, false, false, false, false, false, false, false, false, false, false, false, false, false, false, false, false, false, false, false, false, false, false, false, false, false] rfl rfl (one_of HT_.out (by kernel_rfl)) (by decide) (fun K hK => ?_)
                    refine gc Try.func41 #[.agg #[.bool t4934, .int .i64 t4935, .int .i64 t4936], .agg #[.bool t4937, .int .i64 t4938, .int .i64 t4939]] (ints_Inside.calls t4934 t4935 t4936 t4937 t4938 t4939 true _ A22.out) ?_
                    intro w96 hb
                    have n0_ := Aside0.mk (Kd.R_below (by (with_reducible repeat (first | apply Kd.R_alloc | apply Kd.R_drewN | apply Kd.R_drew)); exact HO4908.out) hb)
                    have n1_ := Aside0.mk (Kd.R_below (by (with_reducible repeat (first | apply Kd.R_alloc | apply Kd.R_drewN | apply Kd.R_drew)); exact HO4915.out) hb)
                    have n2_ := kb BK4901 hb
                    have n3_ := kb BK4902 hb
                    have n4_ := kb BK4903 hb
                    have n5_ := kb BK4904 hb
                    have n6_ := kb BK4912 hb
                    have n7_ := kb BK4919 hb
                    have n8_ := kb BK4923 hb
                    have n9_ := kh HB hb
                    clear HO4908
                    clear HO4915
                    clear BK4901
                    clear BK4902
                    clear BK4903
                    clear BK4904
                    clear BK4912
                    clear BK4919
                    clear BK4923
                    clear HB
                    have HO4908 := n0_
                    have HO4915 := n1_
                    have BK4901 := n2_
                    have BK4902 := n3_
                    have BK4903 := n4_
                    have BK4904 := n5_
                    have BK4912 := n6_
                    have BK4919 := n7_
                    have BK4923 := n8_
                    have HB := n9_
                    clear n0_ n1_ n2_ n3_ n4_ n5_ n6_ n7_ n8_ n9_
                    (try clear hb)
                    (try clear hb2)
                    (try clear hk)
                    (try clear hi)
                    refine hK.out _ _ ⟨bc BK4901 0, bc BK4901 1, bc BK4901 2, bc BK4912 0, bc BK4912 1, bc BK4912 2, bc BK4923 0, bc BK4923 1, bc BK4923 2, bc BK4903 0, bc BK4903 1, bc BK4903 2, bc BK4902 0, bc BK4902 1, bc BK4902 2, bc BK4919 0, bc BK4919 1, bc BK4919 2⟩ (fun hHeld => ?_)
                    clear hK K
                    refine nrm (some 59) ?_
                    refine pur 33 (some 60) #[true, true, true, true, true, true, true, true, true, true, true, true, true, true, true, true, true, true, true, true, true, true, true, true, true, true, true, true, true, true, true, true, true, true, false, false, false, false, false, false, false, false, false, false, false, false, false, false, false, false, false, false, false, false, false, false, false, false, false, false, false, false, false, false, false, false, false] (any_of HT_.out (by kernel_rfl)) ?_
                    refine pur 34 (some 61) #[true, true, true, true, true, true, true, true, true, true, true, true, true, true, true, true, true, true, true, true, true, true, true, true, true, true, true, true, true, true, true, true, true, true, true, false, false, false, false, false, false, false, false, false, false, false, false, false, false, false, false, false, false, false, false, false, false, false, false, false, false, false, false, false, false, false, false] (any_of HT_.out (by kernel_rfl)) ?_
                    refine tak 35 (some 62) #[true, true, true, true, true, true, true, true, true, true, true, true, true, true, true, true, true, true, true, true, true, true, true, true, true, true, true, true, true, true, true, true, true, true, true, true, false, false, false, false, false, false, false, false, false, false, false, false, false, false, false, false, false, false, false, false, false, false, false, false, false, false, false, false, false, false, false] (take_ofW HT_.out HW_.out (by kernel_rfl)) hHeld ?_
                    refine tak 36 (some 63) #[true, true, true, true, true, true, true, true, true, true, true, true, true, true, true, true, true, true, true, true, true, true, true, true, true, true, true, true, true, true, true, true, true, true, true, true, true, false, false, false, false, false, false, false, false, false, false, false, false, false, false, false, false, false, false, false, false, false, false, false, false, false, false, false, false, false, false] (take_ofW HT_.out HW_.out (by kernel_rfl)) hHeld ?_
                    refine tak 38 (some 65) #[true, true, true, true, true, true, true, true, true, true, true, true, true, true, true, true, true, true, true, true, true, true, true, true, true, true, true, true, true, true, true, true, true, true, true, true, true, false, true, false, false, false, false, false, false, false, false, false, false, false, false, false, false, false, false, false, false, false, false, false, false, false, false, false, false, false, false] (take_ofW HT_.out HW_.out (by kernel_rfl)) hHeld ?_
                    refine tak 39 (some 66) #[true, true, true, true, true, true, true, true, true, true, true, true, true, true, true, true, true, true, true, true, true, true, true, true, true, true, true, true, true, true, true, true, true, true, true, true, true, false, true, true, false, false, false, false, false, false, false, false, false, false, false, false, false, false, false, false, false, false, false, false, false, false, false, false, false, false, false] (take_ofW HT_.out HW_.out (by kernel_rfl)) hHeld ?_
                    refine one_ (i := 37) (N := some 64) #[true, true, true, true, true, true, true, true, true, true, true, true, true, true, true, true, true, true, true, true, true, true, true, true, true, true, true, true, true, true, true, true, true, true, true, true, true, true, true, true, false, false, false, false, false, false, false, false, false, false, false, false, false, false, false, false, false, false, false, false, false, false, false, false, false, false, false] rfl rfl (one_of HT_.out (by kernel_rfl)) (by decide) (fun K hK => ?_)
                    refine gc Try.func53 #[.agg #[.bool a0_0, .int .i64 a0_1, .int .i64 a0_2], .agg #[.bool a1_0, .int .i64 a1_1, .int .i64 a1_2]] (ints_Mul.calls k a0_0 a0_1 a0_2 a1_0 a1_1 a1_2 t4941 t4942 t4943 _ A24.out) ?_
                    intro w97 hb
                    have n0_ := Aside0.mk (Kd.R_below (by (with_reducible repeat (first | apply Kd.R_alloc | apply Kd.R_drewN | apply Kd.R_drew)); exact HO4908.out) hb)
                    have n1_ := Aside0.mk (Kd.R_below (by (with_reducible repeat (first | apply Kd.R_alloc | apply Kd.R_drewN | apply Kd.R_drew)); exact HO4915.out) hb)
                    have n2_ := kb BK4901 hb
                    have n3_ := kb BK4902 hb
                    have n4_ := kb BK4903 hb
                    have n5_ := kb BK4904 hb
                    have n6_ := kb BK4912 hb
                    have n7_ := kb BK4919 hb
                    have n8_ := kb BK4923 hb
                    have n9_ := kh HB hb
                    clear HO4908
                    clear HO4915
                    clear BK4901
                    clear BK4902
                    clear BK4903
                    clear BK4904
                    clear BK4912
                    clear BK4919
                    clear BK4923
                    clear HB
                    have HO4908 := n0_
                    have HO4915 := n1_
                    have BK4901 := n2_
                    have BK4902 := n3_
                    have BK4903 := n4_
                    have BK4904 := n5_
                    have BK4912 := n6_
                    have BK4919 := n7_
                    have BK4923 := n8_
                    have HB := n9_
                    clear n0_ n1_ n2_ n3_ n4_ n5_ n6_ n7_ n8_ n9_
                    (try clear hb)
                    (try clear hb2)
                    (try clear hk)
                    (try clear hi)
                    refine hK.out _ _ ⟨bc BK4901 0, bc BK4901 1, bc BK4901 2, bc BK4912 0, bc BK4912 1, bc BK4912 2, bc BK4923 0, bc BK4923 1, bc BK4923 2, bc BK4903 0, bc BK4903 1, bc BK4903 2, bc BK4902 0, bc BK4902 1, bc BK4902 2, bc BK4919 0, bc BK4919 1, bc BK4919 2⟩ (fun hHeld => ?_)
                    clear hK K
                    refine nrm (some 64) ?_
                    refine one_ (i := 40) (N := some 67) #[true, true, true, true, true, true, true, true, true, true, true, true, true, true, true, true, true, true, true, true, true, true, true, true, true, true, true, true, true, true, true, true, true, true, true, true, true, true, true, true, true, false, false, false, false, false, false, false, false, false, false, false, false, false, false, false, false, false, false, false, false, false, false, false, false, false, false] rfl rfl (one_of HT_.out (by kernel_rfl)) (by decide) (fun K hK => ?_)
                    refine gc Try.func53 #[.agg #[.bool t4909, .int .i64 t4910, .int .i64 t4911], .agg #[.bool t4916, .int .i64 t4917, .int .i64 t4918]] (ints_Mul.calls k t4909 t4910 t4911 t4916 t4917 t4918 t4944 t4945 t4946 _ A25.out) ?_
                    intro w98 hb
                    have n0_ := Aside0.mk (Kd.R_below (by (with_reducible repeat (first | apply Kd.R_alloc | apply Kd.R_drewN | apply Kd.R_drew)); exact HO4908.out) hb)
                    have n1_ := Aside0.mk (Kd.R_below (by (with_reducible repeat (first | apply Kd.R_alloc | apply Kd.R_drewN | apply Kd.R_drew)); exact HO4915.out) hb)
                    have n2_ := kb BK4901 hb
                    have n3_ := kb BK4902 hb
                    have n4_ := kb BK4903 hb
                    have n5_ := kb BK4904 hb
                    have n6_ := kb BK4912 hb
                    have n7_ := kb BK4919 hb
                    have n8_ := kb BK4923 hb
                    have n9_ := kh HB hb
                    clear HO4908
                    clear HO4915
                    clear BK4901
                    clear BK4902
                    clear BK4903
                    clear BK4904
                    clear BK4912
                    clear BK4919
                    clear BK4923
                    clear HB
                    have HO4908 := n0_
                    have HO4915 := n1_
                    have BK4901 := n2_
                    have BK4902 := n3_
                    have BK4903 := n4_
                    have BK4904 := n5_
                    have BK4912 := n6_
                    have BK4919 := n7_
                    have BK4923 := n8_
                    have HB := n9_
                    clear n0_ n1_ n2_ n3_ n4_ n5_ n6_ n7_ n8_ n9_
                    (try clear hb)
                    (try clear hb2)
                    (try clear hk)
                    (try clear hi)
                    refine hK.out _ _ ⟨bc BK4901 0, bc BK4901 1, bc BK4901 2, bc BK4912 0, bc BK4912 1, bc BK4912 2, bc BK4923 0, bc BK4923 1, bc BK4923 2, bc BK4903 0, bc BK4903 1, bc BK4903 2, bc BK4902 0, bc BK4902 1, bc BK4902 2, bc BK4919 0, bc BK4919 1, bc BK4919 2⟩ (fun hHeld => ?_)
                    clear hK K
                    refine nrm (some 67) ?_
                    refine one_ (i := 41) (N := some 68) #[true, true, true, true, true, true, true, true, true, true, true, true, true, true, true, true, true, true, true, true, true, true, true, true, true, true, true, true, true, true, true, true, true, true, true, true, true, true, true, true, true, true, false, false, false, false, false, false, false, false, false, false, false, false, false, false, false, false, false, false, false, false, false, false, false, false, false] rfl rfl (one_of HT_.out (by kernel_rfl)) (by decide) (fun K hK => ?_)
                    refine gc Try.func41 #[.agg #[.bool t4941, .int .i64 t4942, .int .i64 t4943], .agg #[.bool t4944, .int .i64 t4945, .int .i64 t4946]] (ints_Inside.calls t4941 t4942 t4943 t4944 t4945 t4946 true _ A26.out) ?_
                    intro w99 hb
                    have n0_ := Aside0.mk (Kd.R_below (by (with_reducible repeat (first | apply Kd.R_alloc | apply Kd.R_drewN | apply Kd.R_drew)); exact HO4908.out) hb)
                    have n1_ := Aside0.mk (Kd.R_below (by (with_reducible repeat (first | apply Kd.R_alloc | apply Kd.R_drewN | apply Kd.R_drew)); exact HO4915.out) hb)
                    have n2_ := kb BK4901 hb
                    have n3_ := kb BK4902 hb
                    have n4_ := kb BK4903 hb
                    have n5_ := kb BK4904 hb
                    have n6_ := kb BK4912 hb
                    have n7_ := kb BK4919 hb
                    have n8_ := kb BK4923 hb
                    have n9_ := kh HB hb
                    clear HO4908
                    clear HO4915
                    clear BK4901
                    clear BK4902
                    clear BK4903
                    clear BK4904
                    clear BK4912
                    clear BK4919
                    clear BK4923
                    clear HB
                    have HO4908 := n0_
                    have HO4915 := n1_
                    have BK4901 := n2_
                    have BK4902 := n3_
                    have BK4903 := n4_
                    have BK4904 := n5_
                    have BK4912 := n6_
                    have BK4919 := n7_
                    have BK4923 := n8_
                    have HB := n9_
                    clear n0_ n1_ n2_ n3_ n4_ n5_ n6_ n7_ n8_ n9_
                    (try clear hb)
                    (try clear hb2)
                    (try clear hk)
                    (try clear hi)
                    refine hK.out _ _ ⟨bc BK4901 0, bc BK4901 1, bc BK4901 2, bc BK4912 0, bc BK4912 1, bc BK4912 2, bc BK4923 0, bc BK4923 1, bc BK4923 2, bc BK4903 0, bc BK4903 1, bc BK4903 2, bc BK4902 0, bc BK4902 1, bc BK4902 2, bc BK4919 0, bc BK4919 1, bc BK4919 2⟩ (fun hHeld => ?_)
                    clear hK K
                    refine nrm (some 68) ?_
                    refine pur 42 (some 69) #[true, true, true, true, true, true, true, true, true, true, true, true, true, true, true, true, true, true, true, true, true, true, true, true, true, true, true, true, true, true, true, true, true, true, true, true, true, true, true, true, true, true, true, false, false, false, false, false, false, false, false, false, false, false, false, false, false, false, false, false, false, false, false, false, false, false, false] (any_of HT_.out (by kernel_rfl)) ?_
                    refine pur 43 (some 70) #[true, true, true, true, true, true, true, true, true, true, true, true, true, true, true, true, true, true, true, true, true, true, true, true, true, true, true, true, true, true, true, true, true, true, true, true, true, true, true, true, true, true, true, true, false, false, false, false, false, false, false, false, false, false, false, false, false, false, false, false, false, false, false, false, false, false, false] (any_of HT_.out (by kernel_rfl)) ?_
                    refine tak 44 (some 71) #[true, true, true, true, true, true, true, true, true, true, true, true, true, true, true, true, true, true, true, true, true, true, true, true, true, true, true, true, true, true, true, true, true, true, true, true, true, true, true, true, true, true, true, true, true, false, false, false, false, false, false, false, false, false, false, false, false, false, false, false, false, false, false, false, false, false, false] (take_ofW HT_.out HW_.out (by kernel_rfl)) hHeld ?_
                    refine tak 45 (some 72) #[true, true, true, true, true, true, true, true, true, true, true, true, true, true, true, true, true, true, true, true, true, true, true, true, true, true, true, true, true, true, true, true, true, true, true, true, true, true, true, true, true, true, true, true, true, true, false, false, false, false, false, false, false, false, false, false, false, false, false, false, false, false, false, false, false, false, false] (take_ofW HT_.out HW_.out (by kernel_rfl)) hHeld ?_
                    refine tak 47 (some 74) #[true, true, true, true, true, true, true, true, true, true, true, true, true, true, true, true, true, true, true, true, true, true, true, true, true, true, true, true, true, true, true, true, true, true, true, true, true, true, true, true, true, true, true, true, true, true, false, true, false, false, false, false, false, false, false, false, false, false, false, false, false, false, false, false, false, false, false] (take_ofW HT_.out HW_.out (by kernel_rfl)) hHeld ?_
                    refine tak 48 (some 75) #[true, true, true, true, true, true, true, true, true, true, true, true, true, true, true, true, true, true, true, true, true, true, true, true, true, true, true, true, true, true, true, true, true, true, true, true, true, true, true, true, true, true, true, true, true, true, false, true, true, false, false, false, false, false, false, false, false, false, false, false, false, false, false, false, false, false, false] (take_ofW HT_.out HW_.out (by kernel_rfl)) hHeld ?_
                    refine one_ (i := 46) (N := some 73) #[true, true, true, true, true, true, true, true, true, true, true, true, true, true, true, true, true, true, true, true, true, true, true, true, true, true, true, true, true, true, true, true, true, true, true, true, true, true, true, true, true, true, true, true, true, true, true, true, true, false, false, false, false, false, false, false, false, false, false, false, false, false, false, false, false, false, false] rfl rfl (one_of HT_.out (by kernel_rfl)) (by decide) (fun K hK => ?_)
                    refine gc Try.func54 #[.agg #[.bool a0_0, .int .i64 a0_1, .int .i64 a0_2], .agg #[.bool a1_0, .int .i64 a1_1, .int .i64 a1_2]] (ints_Div.calls k a0_0 a0_1 a0_2 a1_0 a1_1 a1_2 t4948 t4949 t4950 _ A28.out) ?_
                    intro w100 hb
                    have n0_ := Aside0.mk (Kd.R_below (by (with_reducible repeat (first | apply Kd.R_alloc | apply Kd.R_drewN | apply Kd.R_drew)); exact HO4908.out) hb)
                    have n1_ := Aside0.mk (Kd.R_below (by (with_reducible repeat (first | apply Kd.R_alloc | apply Kd.R_drewN | apply Kd.R_drew)); exact HO4915.out) hb)
                    have n2_ := kb BK4901 hb
                    have n3_ := kb BK4902 hb
                    have n4_ := kb BK4903 hb
                    have n5_ := kb BK4904 hb
                    have n6_ := kb BK4912 hb
                    have n7_ := kb BK4919 hb
                    have n8_ := kb BK4923 hb
                    have n9_ := kh HB hb
                    clear HO4908
                    clear HO4915
                    clear BK4901
                    clear BK4902
                    clear BK4903
                    clear BK4904
                    clear BK4912
                    clear BK4919
                    clear BK4923
                    clear HB
                    have HO4908 := n0_
                    have HO4915 := n1_
                    have BK4901 := n2_
                    have BK4902 := n3_
                    have BK4903 := n4_
                    have BK4904 := n5_
                    have BK4912 := n6_
                    have BK4919 := n7_
                    have BK4923 := n8_
                    have HB := n9_
                    clear n0_ n1_ n2_ n3_ n4_ n5_ n6_ n7_ n8_ n9_
                    (try clear hb)
                    (try clear hb2)
                    (try clear hk)
                    (try clear hi)
                    refine hK.out _ _ ⟨bc BK4901 0, bc BK4901 1, bc BK4901 2, bc BK4912 0, bc BK4912 1, bc BK4912 2, bc BK4923 0, bc BK4923 1, bc BK4923 2, bc BK4903 0, bc BK4903 1, bc BK4903 2, bc BK4902 0, bc BK4902 1, bc BK4902 2, bc BK4919 0, bc BK4919 1, bc BK4919 2⟩ (fun hHeld => ?_)
                    clear hK K
                    refine nrm (some 73) ?_
                    refine one_ (i := 49) (N := some 76) #[true, true, true, true, true, true, true, true, true, true, true, true, true, true, true, true, true, true, true, true, true, true, true, true, true, true, true, true, true, true, true, true, true, true, true, true, true, true, true, true, true, true, true, true, true, true, true, true, true, true, false, false, false, false, false, false, false, false, false, false, false, false, false, false, false, false, false] rfl rfl (one_of HT_.out (by kernel_rfl)) (by decide) (fun K hK => ?_)
                    refine gc Try.func54 #[.agg #[.bool t4909, .int .i64 t4910, .int .i64 t4911], .agg #[.bool t4916, .int .i64 t4917, .int .i64 t4918]] (ints_Div.calls k t4909 t4910 t4911 t4916 t4917 t4918 t4951 t4952 t4953 _ A29.out) ?_
                    intro w101 hb
                    have n0_ := Aside0.mk (Kd.R_below (by (with_reducible repeat (first | apply Kd.R_alloc | apply Kd.R_drewN | apply Kd.R_drew)); exact HO4908.out) hb)
                    have n1_ := Aside0.mk (Kd.R_below (by (with_reducible repeat (first | apply Kd.R_alloc | apply Kd.R_drewN | apply Kd.R_drew)); exact HO4915.out) hb)
                    have n2_ := kb BK4901 hb
                    have n3_ := kb BK4902 hb
                    have n4_ := kb BK4903 hb
                    have n5_ := kb BK4904 hb
                    have n6_ := kb BK4912 hb
                    have n7_ := kb BK4919 hb
                    have n8_ := kb BK4923 hb
                    have n9_ := kh HB hb
                    clear HO4908
                    clear HO4915
                    clear BK4901
                    clear BK4902
                    clear BK4903
                    clear BK4904
                    clear BK4912
                    clear BK4919
                    clear BK4923
                    clear HB
                    have HO4908 := n0_
                    have HO4915 := n1_
                    have BK4901 := n2_
                    have BK4902 := n3_
                    have BK4903 := n4_
                    have BK4904 := n5_
                    have BK4912 := n6_
                    have BK4919 := n7_
                    have BK4923 := n8_
                    have HB := n9_
                    clear n0_ n1_ n2_ n3_ n4_ n5_ n6_ n7_ n8_ n9_
                    (try clear hb)
                    (try clear hb2)
                    (try clear hk)
                    (try clear hi)
                    refine hK.out _ _ ⟨bc BK4901 0, bc BK4901 1, bc BK4901 2, bc BK4912 0, bc BK4912 1, bc BK4912 2, bc BK4923 0, bc BK4923 1, bc BK4923 2, bc BK4903 0, bc BK4903 1, bc BK4903 2, bc BK4902 0, bc BK4902 1, bc BK4902 2, bc BK4919 0, bc BK4919 1, bc BK4919 2⟩ (fun hHeld => ?_)
                    clear hK K
                    refine nrm (some 76) ?_
                    refine one_ (i := 50) (N := some 77) #[true, true, true, true, true, true, true, true, true, true, true, true, true, true, true, true, true, true, true, true, true, true, true, true, true, true, true, true, true, true, true, true, true, true, true, true, true, true, true, true, true, true, true, true, true, true, true, true, true, true, true, false, false, false, false, false, false, false, false, false, false, false, false, false, false, false, false] rfl rfl (one_of HT_.out (by kernel_rfl)) (by decide) (fun K hK => ?_)
                    refine gc Try.func41 #[.agg #[.bool t4948, .int .i64 t4949, .int .i64 t4950], .agg #[.bool t4951, .int .i64 t4952, .int .i64 t4953]] (ints_Inside.calls t4948 t4949 t4950 t4951 t4952 t4953 true _ A30.out) ?_
                    intro w102 hb
                    have n0_ := Aside0.mk (Kd.R_below (by (with_reducible repeat (first | apply Kd.R_alloc | apply Kd.R_drewN | apply Kd.R_drew)); exact HO4908.out) hb)
                    have n1_ := Aside0.mk (Kd.R_below (by (with_reducible repeat (first | apply Kd.R_alloc | apply Kd.R_drewN | apply Kd.R_drew)); exact HO4915.out) hb)
                    have n2_ := kb BK4901 hb
                    have n3_ := kb BK4902 hb
                    have n4_ := kb BK4903 hb
                    have n5_ := kb BK4904 hb
                    have n6_ := kb BK4912 hb
                    have n7_ := kb BK4919 hb
                    have n8_ := kb BK4923 hb
                    have n9_ := kh HB hb
                    clear HO4908
                    clear HO4915
                    clear BK4901
                    clear BK4902
                    clear BK4903
                    clear BK4904
                    clear BK4912
                    clear BK4919
                    clear BK4923
                    clear HB
                    have HO4908 := n0_
                    have HO4915 := n1_
                    have BK4901 := n2_
                    have BK4902 := n3_
                    have BK4903 := n4_
                    have BK4904 := n5_
                    have BK4912 := n6_
                    have BK4919 := n7_
                    have BK4923 := n8_
                    have HB := n9_
                    clear n0_ n1_ n2_ n3_ n4_ n5_ n6_ n7_ n8_ n9_
                    (try clear hb)
                    (try clear hb2)
                    (try clear hk)
                    (try clear hi)
                    refine hK.out _ _ ⟨bc BK4901 0, bc BK4901 1, bc BK4901 2, bc BK4912 0, bc BK4912 1, bc BK4912 2, bc BK4923 0, bc BK4923 1, bc BK4923 2, bc BK4903 0, bc BK4903 1, bc BK4903 2, bc BK4902 0, bc BK4902 1, bc BK4902 2, bc BK4919 0, bc BK4919 1, bc BK4919 2⟩ (fun hHeld => ?_)
                    clear hK K
                    refine nrm (some 77) ?_
                    refine pur 51 (some 78) #[true, true, true, true, true, true, true, true, true, true, true, true, true, true, true, true, true, true, true, true, true, true, true, true, true, true, true, true, true, true, true, true, true, true, true, true, true, true, true, true, true, true, true, true, true, true, true, true, true, true, true, true, false, false, false, false, false, false, false, false, false, false, false, false, false, false, false] (any_of HT_.out (by kernel_rfl)) ?_
                    refine pur 52 (some 79) #[true, true, true, true, true, true, true, true, true, true, true, true, true, true, true, true, true, true, true, true, true, true, true, true, true, true, true, true, true, true, true, true, true, true, true, true, true, true, true, true, true, true, true, true, true, true, true, true, true, true, true, true, true, false, false, false, false, false, false, false, false, false, false, false, false, false, false] (any_of HT_.out (by kernel_rfl)) ?_
                    refine tak 53 (some 80) #[true, true, true, true, true, true, true, true, true, true, true, true, true, true, true, true, true, true, true, true, true, true, true, true, true, true, true, true, true, true, true, true, true, true, true, true, true, true, true, true, true, true, true, true, true, true, true, true, true, true, true, true, true, true, false, false, false, false, false, false, false, false, false, false, false, false, false] (take_ofW HT_.out HW_.out (by kernel_rfl)) hHeld ?_
                    refine tak 55 (some 82) #[true, true, true, true, true, true, true, true, true, true, true, true, true, true, true, true, true, true, true, true, true, true, true, true, true, true, true, true, true, true, true, true, true, true, true, true, true, true, true, true, true, true, true, true, true, true, true, true, true, true, true, true, true, true, false, true, false, false, false, false, false, false, false, false, false, false, false] (take_ofW HT_.out HW_.out (by kernel_rfl)) hHeld ?_
                    refine one_ (i := 54) (N := some 81) #[true, true, true, true, true, true, true, true, true, true, true, true, true, true, true, true, true, true, true, true, true, true, true, true, true, true, true, true, true, true, true, true, true, true, true, true, true, true, true, true, true, true, true, true, true, true, true, true, true, true, true, true, true, true, true, true, false, false, false, false, false, false, false, false, false, false, false] rfl rfl (one_of HT_.out (by kernel_rfl)) (by decide) (fun K hK => ?_)
                    refine gc Try.func50 #[.agg #[.bool a0_0, .int .i64 a0_1, .int .i64 a0_2]] (ints_Abs.calls k a0_0 a0_1 a0_2 t4955 t4956 t4957 _ A32.out) ?_
                    intro w103 hb
                    have n0_ := Aside0.mk (Kd.R_below (by (with_reducible repeat (first | apply Kd.R_alloc | apply Kd.R_drewN | apply Kd.R_drew)); exact HO4908.out) hb)
                    have n1_ := Aside0.mk (Kd.R_below (by (with_reducible repeat (first | apply Kd.R_alloc | apply Kd.R_drewN | apply Kd.R_drew)); exact HO4915.out) hb)
                    have n2_ := kb BK4901 hb
                    have n3_ := kb BK4902 hb
                    have n4_ := kb BK4903 hb
                    have n5_ := kb BK4904 hb
                    have n6_ := kb BK4912 hb
                    have n7_ := kb BK4919 hb
                    have n8_ := kb BK4923 hb
                    have n9_ := kh HB hb
                    clear HO4908
                    clear HO4915
                    clear BK4901
                    clear BK4902
                    clear BK4903
                    clear BK4904
                    clear BK4912
                    clear BK4919
                    clear BK4923
                    clear HB
                    have HO4908 := n0_
                    have HO4915 := n1_
                    have BK4901 := n2_
                    have BK4902 := n3_
                    have BK4903 := n4_
                    have BK4904 := n5_
                    have BK4912 := n6_
                    have BK4919 := n7_
                    have BK4923 := n8_
                    have HB := n9_
                    clear n0_ n1_ n2_ n3_ n4_ n5_ n6_ n7_ n8_ n9_
                    (try clear hb)
                    (try clear hb2)
                    (try clear hk)
                    (try clear hi)
                    refine hK.out _ _ ⟨bc BK4901 0, bc BK4901 1, bc BK4901 2, bc BK4912 0, bc BK4912 1, bc BK4912 2, bc BK4923 0, bc BK4923 1, bc BK4923 2, bc BK4903 0, bc BK4903 1, bc BK4903 2, bc BK4902 0, bc BK4902 1, bc BK4902 2, bc BK4919 0, bc BK4919 1, bc BK4919 2⟩ (fun hHeld => ?_)
                    clear hK K
                    refine nrm (some 81) ?_
                    refine one_ (i := 56) (N := some 83) #[true, true, true, true, true, true, true, true, true, true, true, true, true, true, true, true, true, true, true, true, true, true, true, true, true, true, true, true, true, true, true, true, true, true, true, true, true, true, true, true, true, true, true, true, true, true, true, true, true, true, true, true, true, true, true, true, true, false, false, false, false, false, false, false, false, false, false] rfl rfl (one_of HT_.out (by kernel_rfl)) (by decide) (fun K hK => ?_)
                    refine gc Try.func50 #[.agg #[.bool t4909, .int .i64 t4910, .int .i64 t4911]] (ints_Abs.calls k t4909 t4910 t4911 t4958 t4959 t4960 _ A33.out) ?_
                    intro w104 hb
                    have n0_ := Aside0.mk (Kd.R_below (by (with_reducible repeat (first | apply Kd.R_alloc | apply Kd.R_drewN | apply Kd.R_drew)); exact HO4908.out) hb)
                    have n1_ := Aside0.mk (Kd.R_below (by (with_reducible repeat (first | apply Kd.R_alloc | apply Kd.R_drewN | apply Kd.R_drew)); exact HO4915.out) hb)
                    have n2_ := kb BK4901 hb
                    have n3_ := kb BK4902 hb
                    have n4_ := kb BK4903 hb
                    have n5_ := kb BK4904 hb
                    have n6_ := kb BK4912 hb
                    have n7_ := kb BK4919 hb
                    have n8_ := kb BK4923 hb
                    have n9_ := kh HB hb
                    clear HO4908
                    clear HO4915
                    clear BK4901
                    clear BK4902
                    clear BK4903
                    clear BK4904
                    clear BK4912
                    clear BK4919
                    clear BK4923
                    clear HB
                    have HO4908 := n0_
                    have HO4915 := n1_
                    have BK4901 := n2_
                    have BK4902 := n3_
                    have BK4903 := n4_
                    have BK4904 := n5_
                    have BK4912 := n6_
                    have BK4919 := n7_
                    have BK4923 := n8_
                    have HB := n9_
                    clear n0_ n1_ n2_ n3_ n4_ n5_ n6_ n7_ n8_ n9_
                    (try clear hb)
                    (try clear hb2)
                    (try clear hk)
                    (try clear hi)
                    refine hK.out _ _ ⟨bc BK4901 0, bc BK4901 1, bc BK4901 2, bc BK4912 0, bc BK4912 1, bc BK4912 2, bc BK4923 0, bc BK4923 1, bc BK4923 2, bc BK4903 0, bc BK4903 1, bc BK4903 2, bc BK4902 0, bc BK4902 1, bc BK4902 2, bc BK4919 0, bc BK4919 1, bc BK4919 2⟩ (fun hHeld => ?_)
                    clear hK K
                    refine nrm (some 83) ?_
                    refine one_ (i := 57) (N := some 84) #[true, true, true, true, true, true, true, true, true, true, true, true, true, true, true, true, true, true, true, true, true, true, true, true, true, true, true, true, true, true, true, true, true, true, true, true, true, true, true, true, true, true, true, true, true, true, true, true, true, true, true, true, true, true, true, true, true, true, false, false, false, false, false, false, false, false, false] rfl rfl (one_of HT_.out (by kernel_rfl)) (by decide) (fun K hK => ?_)
                    refine gc Try.func41 #[.agg #[.bool t4955, .int .i64 t4956, .int .i64 t4957], .agg #[.bool t4958, .int .i64 t4959, .int .i64 t4960]] (ints_Inside.calls t4955 t4956 t4957 t4958 t4959 t4960 true _ A34.out) ?_
                    intro w105 hb
                    have n0_ := Aside0.mk (Kd.R_below (by (with_reducible repeat (first | apply Kd.R_alloc | apply Kd.R_drewN | apply Kd.R_drew)); exact HO4908.out) hb)
                    have n1_ := Aside0.mk (Kd.R_below (by (with_reducible repeat (first | apply Kd.R_alloc | apply Kd.R_drewN | apply Kd.R_drew)); exact HO4915.out) hb)
                    have n2_ := kb BK4901 hb
                    have n3_ := kb BK4902 hb
                    have n4_ := kb BK4903 hb
                    have n5_ := kb BK4904 hb
                    have n6_ := kb BK4912 hb
                    have n7_ := kb BK4919 hb
                    have n8_ := kb BK4923 hb
                    have n9_ := kh HB hb
                    clear HO4908
                    clear HO4915
                    clear BK4901
                    clear BK4902
                    clear BK4903
                    clear BK4904
                    clear BK4912
                    clear BK4919
                    clear BK4923
                    clear HB
                    have HO4908 := n0_
                    have HO4915 := n1_
                    have BK4901 := n2_
                    have BK4902 := n3_
                    have BK4903 := n4_
                    have BK4904 := n5_
                    have BK4912 := n6_
                    have BK4919 := n7_
                    have BK4923 := n8_
                    have HB := n9_
                    clear n0_ n1_ n2_ n3_ n4_ n5_ n6_ n7_ n8_ n9_
                    (try clear hb)
                    (try clear hb2)
                    (try clear hk)
                    (try clear hi)
                    refine hK.out _ _ ⟨bc BK4901 0, bc BK4901 1, bc BK4901 2, bc BK4912 0, bc BK4912 1, bc BK4912 2, bc BK4923 0, bc BK4923 1, bc BK4923 2, bc BK4903 0, bc BK4903 1, bc BK4903 2, bc BK4902 0, bc BK4902 1, bc BK4902 2, bc BK4919 0, bc BK4919 1, bc BK4919 2⟩ (fun hHeld => ?_)
                    clear hK K
                    refine nrm (some 84) ?_
                    refine pur 58 (some 85) #[true, true, true, true, true, true, true, true, true, true, true, true, true, true, true, true, true, true, true, true, true, true, true, true, true, true, true, true, true, true, true, true, true, true, true, true, true, true, true, true, true, true, true, true, true, true, true, true, true, true, true, true, true, true, true, true, true, true, true, false, false, false, false, false, false, false, false] (any_of HT_.out (by kernel_rfl)) ?_
                    refine pur 59 (some 86) #[true, true, true, true, true, true, true, true, true, true, true, true, true, true, true, true, true, true, true, true, true, true, true, true, true, true, true, true, true, true, true, true, true, true, true, true, true, true, true, true, true, true, true, true, true, true, true, true, true, true, true, true, true, true, true, true, true, true, true, true, false, false, false, false, false, false, false] (any_of HT_.out (by kernel_rfl)) ?_
                    refine tak 60 (some 87) #[true, true, true, true, true, true, true, true, true, true, true, true, true, true, true, true, true, true, true, true, true, true, true, true, true, true, true, true, true, true, true, true, true, true, true, true, true, true, true, true, true, true, true, true, true, true, true, true, true, true, true, true, true, true, true, true, true, true, true, true, true, false, false, false, false, false, false] (take_ofW HT_.out HW_.out (by kernel_rfl)) hHeld ?_
                    refine tak 62 (some 89) #[true, true, true, true, true, true, true, true, true, true, true, true, true, true, true, true, true, true, true, true, true, true, true, true, true, true, true, true, true, true, true, true, true, true, true, true, true, true, true, true, true, true, true, true, true, true, true, true, true, true, true, true, true, true, true, true, true, true, true, true, true, false, true, false, false, false, false] (take_ofW HT_.out HW_.out (by kernel_rfl)) hHeld ?_
                    refine one_ (i := 61) (N := some 88) #[true, true, true, true, true, true, true, true, true, true, true, true, true, true, true, true, true, true, true, true, true, true, true, true, true, true, true, true, true, true, true, true, true, true, true, true, true, true, true, true, true, true, true, true, true, true, true, true, true, true, true, true, true, true, true, true, true, true, true, true, true, true, true, false, false, false, false] rfl rfl (one_of HT_.out (by kernel_rfl)) (by decide) (fun K hK => ?_)
                    refine gc Try.func48 #[.agg #[.bool a0_0, .int .i64 a0_1, .int .i64 a0_2]] (ints_Neg.calls a0_0 a0_1 a0_2 t4962 t4963 t4964 _ A36.out) ?_
                    intro w106 hb
                    have n0_ := Aside0.mk (Kd.R_below (by (with_reducible repeat (first | apply Kd.R_alloc | apply Kd.R_drewN | apply Kd.R_drew)); exact HO4908.out) hb)
                    have n1_ := Aside0.mk (Kd.R_below (by (with_reducible repeat (first | apply Kd.R_alloc | apply Kd.R_drewN | apply Kd.R_drew)); exact HO4915.out) hb)
                    have n2_ := kb BK4901 hb
                    have n3_ := kb BK4902 hb
                    have n4_ := kb BK4903 hb
                    have n5_ := kb BK4904 hb
                    have n6_ := kb BK4912 hb
                    have n7_ := kb BK4919 hb
                    have n8_ := kb BK4923 hb
                    have n9_ := kh HB hb
                    clear HO4908
                    clear HO4915
                    clear BK4901
                    clear BK4902
                    clear BK4903
                    clear BK4904
                    clear BK4912
                    clear BK4919
                    clear BK4923
                    clear HB
                    have HO4908 := n0_
                    have HO4915 := n1_
                    have BK4901 := n2_
                    have BK4902 := n3_
                    have BK4903 := n4_
                    have BK4904 := n5_
                    have BK4912 := n6_
                    have BK4919 := n7_
                    have BK4923 := n8_
                    have HB := n9_
                    clear n0_ n1_ n2_ n3_ n4_ n5_ n6_ n7_ n8_ n9_
                    (try clear hb)
                    (try clear hb2)
                    (try clear hk)
                    (try clear hi)
                    refine hK.out _ _ ⟨bc BK4901 0, bc BK4901 1, bc BK4901 2, bc BK4912 0, bc BK4912 1, bc BK4912 2, bc BK4923 0, bc BK4923 1, bc BK4923 2, bc BK4903 0, bc BK4903 1, bc BK4903 2, bc BK4902 0, bc BK4902 1, bc BK4902 2, bc BK4919 0, bc BK4919 1, bc BK4919 2⟩ (fun hHeld => ?_)
                    clear hK K
                    refine nrm (some 88) ?_
                    refine one_ (i := 63) (N := some 90) #[true, true, true, true, true, true, true, true, true, true, true, true, true, true, true, true, true, true, true, true, true, true, true, true, true, true, true, true, true, true, true, true, true, true, true, true, true, true, true, true, true, true, true, true, true, true, true, true, true, true, true, true, true, true, true, true, true, true, true, true, true, true, true, true, false, false, false] rfl rfl (one_of HT_.out (by kernel_rfl)) (by decide) (fun K hK => ?_)
                    refine gc Try.func48 #[.agg #[.bool t4909, .int .i64 t4910, .int .i64 t4911]] (ints_Neg.calls t4909 t4910 t4911 t4965 t4966 t4967 _ A37.out) ?_
                    intro w107 hb
                    have n0_ := Aside0.mk (Kd.R_below (by (with_reducible repeat (first | apply Kd.R_alloc | apply Kd.R_drewN | apply Kd.R_drew)); exact HO4908.out) hb)
                    have n1_ := Aside0.mk (Kd.R_below (by (with_reducible repeat (first | apply Kd.R_alloc | apply Kd.R_drewN | apply Kd.R_drew)); exact HO4915.out) hb)
                    have n2_ := kb BK4901 hb
                    have n3_ := kb BK4902 hb
                    have n4_ := kb BK4903 hb
                    have n5_ := kb BK4904 hb
                    have n6_ := kb BK4912 hb
                    have n7_ := kb BK4919 hb
                    have n8_ := kb BK4923 hb
                    have n9_ := kh HB hb
                    clear HO4908
                    clear HO4915
                    clear BK4901
                    clear BK4902
                    clear BK4903
                    clear BK4904
                    clear BK4912
                    clear BK4919
                    clear BK4923
                    clear HB
                    have HO4908 := n0_
                    have HO4915 := n1_
                    have BK4901 := n2_
                    have BK4902 := n3_
                    have BK4903 := n4_
                    have BK4904 := n5_
                    have BK4912 := n6_
                    have BK4919 := n7_
                    have BK4923 := n8_
                    have HB := n9_
                    clear n0_ n1_ n2_ n3_ n4_ n5_ n6_ n7_ n8_ n9_
                    (try clear hb)
                    (try clear hb2)
                    (try clear hk)
                    (try clear hi)
                    refine hK.out _ _ ⟨bc BK4901 0, bc BK4901 1, bc BK4901 2, bc BK4912 0, bc BK4912 1, bc BK4912 2, bc BK4923 0, bc BK4923 1, bc BK4923 2, bc BK4903 0, bc BK4903 1, bc BK4903 2, bc BK4902 0, bc BK4902 1, bc BK4902 2, bc BK4919 0, bc BK4919 1, bc BK4919 2⟩ (fun hHeld => ?_)
                    clear hK K
                    refine nrm (some 90) ?_
                    refine one_ (i := 64) (N := some 91) #[true, true, true, true, true, true, true, true, true, true, true, true, true, true, true, true, true, true, true, true, true, true, true, true, true, true, true, true, true, true, true, true, true, true, true, true, true, true, true, true, true, true, true, true, true, true, true, true, true, true, true, true, true, true, true, true, true, true, true, true, true, true, true, true, true, false, false] rfl rfl (one_of HT_.out (by kernel_rfl)) (by decide) (fun K hK => ?_)
                    refine gc Try.func41 #[.agg #[.bool t4962, .int .i64 t4963, .int .i64 t4964], .agg #[.bool t4965, .int .i64 t4966, .int .i64 t4967]] (ints_Inside.calls t4962 t4963 t4964 t4965 t4966 t4967 t4968 _ A38.out) ?_
                    intro w108 hb
                    have n0_ := Aside0.mk (Kd.R_below (by (with_reducible repeat (first | apply Kd.R_alloc | apply Kd.R_drewN | apply Kd.R_drew)); exact HO4908.out) hb)
                    have n1_ := Aside0.mk (Kd.R_below (by (with_reducible repeat (first | apply Kd.R_alloc | apply Kd.R_drewN | apply Kd.R_drew)); exact HO4915.out) hb)
                    have n2_ := kb BK4901 hb
                    have n3_ := kb BK4902 hb
                    have n4_ := kb BK4903 hb
                    have n5_ := kb BK4904 hb
                    have n6_ := kb BK4912 hb
                    have n7_ := kb BK4919 hb
                    have n8_ := kb BK4923 hb
                    have n9_ := kh HB hb
                    clear HO4908
                    clear HO4915
                    clear BK4901
                    clear BK4902
                    clear BK4903
                    clear BK4904
                    clear BK4912
                    clear BK4919
                    clear BK4923
                    clear HB
                    have HO4908 := n0_
                    have HO4915 := n1_
                    have BK4901 := n2_
                    have BK4902 := n3_
                    have BK4903 := n4_
                    have BK4904 := n5_
                    have BK4912 := n6_
                    have BK4919 := n7_
                    have BK4923 := n8_
                    have HB := n9_
                    clear n0_ n1_ n2_ n3_ n4_ n5_ n6_ n7_ n8_ n9_
                    (try clear hb)
                    (try clear hb2)
                    (try clear hk)
                    (try clear hi)
                    refine hK.out _ _ ⟨bc BK4901 0, bc BK4901 1, bc BK4901 2, bc BK4912 0, bc BK4912 1, bc BK4912 2, bc BK4923 0, bc BK4923 1, bc BK4923 2, bc BK4903 0, bc BK4903 1, bc BK4903 2, bc BK4902 0, bc BK4902 1, bc BK4902 2, bc BK4919 0, bc BK4919 1, bc BK4919 2⟩ (fun hHeld => ?_)
                    clear hK K
                    refine nrm (some 91) ?_
                    refine pur 65 (some 92) #[true, true, true, true, true, true, true, true, true, true, true, true, true, true, true, true, true, true, true, true, true, true, true, true, true, true, true, true, true, true, true, true, true, true, true, true, true, true, true, true, true, true, true, true, true, true, true, true, true, true, true, true, true, true, true, true, true, true, true, true, true, true, true, true, true, true, false] (any_of HT_.out (by kernel_rfl)) ?_
                    refine pur 66 (some 8) #[true, true, true, true, true, true, true, true, true, true, true, true, true, true, true, true, true, true, true, true, true, true, true, true, true, true, true, true, true, true, true, true, true, true, true, true, true, true, true, true, true, true, true, true, true, true, true, true, true, true, true, true, true, true, true, true, true, true, true, true, true, true, true, true, true, true, true] (any_of HT_.out (by kernel_rfl)) ?_
                    refine done_ (done_of HT_.out (by kernel_rfl)) ?_
                    try go_wp2
                    go_ret
                    exact ⟨pe, pl HB⟩
                  · replace c35 := Bool.eq_false_iff.mpr c35
                    subst c35
                    rw [if_neg (show ¬ (false = true) by decide)] at H
                    exact absurd H (by simp)
                · replace c31 := Bool.eq_false_iff.mpr c31
                  subst c31
                  rw [if_neg (show ¬ (false = true) by decide)] at H
                  exact absurd H (by simp)
              · replace c27 := Bool.eq_false_iff.mpr c27
                subst c27
                rw [if_neg (show ¬ (false = true) by decide)] at H
                exact absurd H (by simp)
            · replace c23 := Bool.eq_false_iff.mpr c23
              subst c23
              rw [if_neg (show ¬ (false = true) by decide)] at H
              exact absurd H (by simp)
          · replace c19 := Bool.eq_false_iff.mpr c19
            subst c19
            rw [if_neg (show ¬ (false = true) by decide)] at H
            exact absurd H (by simp)
        · replace c15 := Bool.eq_false_iff.mpr c15
          subst c15
          rw [if_neg (show ¬ (false = true) by decide)] at H
          exact absurd H (by simp)
      · replace c13 := Bool.eq_false_iff.mpr c13
        subst c13
        rw [if_neg (show ¬ (false = true) by decide)] at H
        exact absurd H (by simp)
    · replace c11 := Bool.eq_false_iff.mpr c11
      subst c11
      rw [if_neg (show ¬ (false = true) by decide)] at H
      exact absurd H (by simp)
  · replace c6 := Bool.eq_false_iff.mpr c6
    subst c6
    rw [if_neg (show ¬ (false = true) by decide)] at H
    obtain rfl := Option.some.inj H
    go_enter Try.func10, Try.ntmps10
    go_wp2_with (first | ((with_reducible refine gate_dst (N := 4) rfl ?_); refine kx 4 #[.bool a0_0, .int .i64 a0_1, .int .i64 a0_2] 23 ?_; intro gb4901 hg w109 hbox hb; have BK4901 := Aside0.mk (hbox); have GW4901 := kg HB hg; have GE4901 := kg HB hg; replace HB := kh HB hb; clear hb hbox hg) | ((with_reducible refine gate_dst (N := 5) rfl ?_); refine kx 5 #[.bool a1_0, .int .i64 a1_1, .int .i64 a1_2] 23 ?_; intro gb4902 hg w110 hbox hb; have BK4902 := Aside0.mk (hbox); have GW4902 := kg HB hg; have GE4902 := kg HB hg; have NB4901_4902 := kn BK4901 hg; have NB4902_4901 := km BK4901 hg; replace BK4901 := kb BK4901 hb; replace HB := kh HB hb; clear hb hbox hg) | ((with_reducible refine gate_dst (N := 6) rfl ?_); refine kx 6 #[.bool a2_0, .int .i64 a2_1, .int .i64 a2_2] 23 ?_; intro gb4903 hg w111 hbox hb; have BK4903 := Aside0.mk (hbox); have GW4903 := kg HB hg; have GE4903 := kg HB hg; have NB4901_4903 := kn BK4901 hg; have NB4903_4901 := km BK4901 hg; have NB4902_4903 := kn BK4902 hg; have NB4903_4902 := km BK4902 hg; replace BK4901 := kb BK4901 hb; replace BK4902 := kb BK4902 hb; replace HB := kh HB hb; clear hb hbox hg) | ((with_reducible refine gate_dst (N := 7) rfl ?_); refine kx 7 #[.bool a3_0, .int .i64 a3_1, .int .i64 a3_2] 23 ?_; intro gb4904 hg w112 hbox hb; have BK4904 := Aside0.mk (hbox); have GW4904 := kg HB hg; have GE4904 := kg HB hg; have NB4901_4904 := kn BK4901 hg; have NB4904_4901 := km BK4901 hg; have NB4902_4904 := kn BK4902 hg; have NB4904_4902 := km BK4902 hg; have NB4903_4904 := kn BK4903 hg; have NB4904_4903 := km BK4903 hg; replace BK4901 := kb BK4901 hb; replace BK4902 := kb BK4902 hb; replace BK4903 := kb BK4903 hb; replace HB := kh HB hb; clear hb hbox hg) | ((with_reducible refine gate_callee (f := 38) rfl ?_); refine kc (some 13) Try.func38 #[] (flyballlaw17_works.calls k  false _ A5.out) ?_; intro w113 hb; replace BK4901 := kb BK4901 hb; replace BK4902 := kb BK4902 hb; replace BK4903 := kb BK4903 hb; replace BK4904 := kb BK4904 hb; replace HB := kh HB hb; (try clear hb); (try clear hb2); (try clear hk); (try clear hi)))
    go_ret
    exact ⟨pe, pl HB⟩

end Go.Proofs.Ytinmgnlofininaa.PAll
