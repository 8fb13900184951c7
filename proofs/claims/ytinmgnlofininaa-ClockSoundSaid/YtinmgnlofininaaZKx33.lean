/- Functions of the print, turned to this claim. -/
import Derived.Test.YtinmgnlofininaaZKW
import Derived.Test.YtinmgnlofininaaZKx0
import Derived.Test.YtinmgnlofininaaZKx3
import Derived.Test.YtinmgnlofininaaZKx26
import Derived.Test.YtinmgnlofininaaZKx27
import Derived.Test.YtinmgnlofininaaZKx28
import Derived.Test.YtinmgnlofininaaZKx29
import Derived.Test.YtinmgnlofininaaZKx30
import Derived.Test.YtinmgnlofininaaZKx31
section
namespace Go.Proofs.Ytinmgnlofininaa.PAll
open Go.RowKit Go.Proofs.YtinmgnlofininaaW.PrintWords Go.Proofs.YtinmgnlofininaaW.PrintLast Go.Proofs.YtinmgnlofininaaW.PrintMore
attribute [local go_sem] max2_int min2_int max_two min_two max_three min_three max_four min_four   -- for this text's walks alone
set_option linter.unusedVariables false
set_option linter.unusedSimpArgs false
/-! ### flyballlaw21_ClockSound: function 5 -/
mutual
def flyballlaw21_ClockSound.j0 : Nat → Int → Int → Int → List Int → Bool → Bool → Bool → Int → Int → Bool → Int → Int → Bool → Int → Int → Bool → Int → Int → Bool → Int → Int → Bool → Int → Int → Option (Bool)
  | 0, _, _, _, _, _, _, _, _, _, _, _, _, _, _, _, _, _, _, _, _, _, _, _, _ => none
  | k + 1, x4, x5, x6, x7, x17, x59, x10002000, x10002001, x10002002, x10002003, x10002004, x10002005, x10003000, x10003001, x10003002, x10003003, x10003004, x10003005, x10004000, x10004001, x10004002, x10005000, x10005001, x10005002 => if x59 = true then (some x17) else ((clock_Tick.f k x10002000 x10002001 x10002002 x10002003 x10002004 x10002005).bind fun bt10007 => ((clock_Has.f k bt10007.1 bt10007.2.1 bt10007.2.2.1 bt10007.2.2.2.1 bt10007.2.2.2.2.1 bt10007.2.2.2.2.2 x4 (wrap64 (x5 + 1))).bind fun t10013 => (if t10013 = true then ((ints_Point.f x6).bind fun bt10014 => ((clock_Move.f k x10002000 x10002001 x10002002 x10002003 x10002004 x10002005 bt10014.1 bt10014.2.1 bt10014.2.2).bind fun bt10017 => ((clock_Has.f k bt10017.1 bt10017.2.1 bt10017.2.2.1 bt10017.2.2.2.1 bt10017.2.2.2.2.1 bt10017.2.2.2.2.2 (wrap64 (x4 + x6)) x5).bind fun t10023 => ((clock_Join.f k x10002000 x10002001 x10002002 x10002003 x10002004 x10002005 x10003000 x10003001 x10003002 x10003003 x10003004 x10003005).bind fun bt10024 => ((clock_Has.f k bt10024.1 bt10024.2.1 bt10024.2.2.1 bt10024.2.2.2.1 bt10024.2.2.2.2.1 bt10024.2.2.2.2.2 x4 x5).bind fun t10030 => (if t10030 = true then ((clock_Join.f k x10003000 x10003001 x10003002 x10003003 x10003004 x10003005 x10002000 x10002001 x10002002 x10002003 x10002004 x10002005).bind fun bt10031 => ((clock_Has.f k bt10031.1 bt10031.2.1 bt10031.2.2.1 bt10031.2.2.2.1 bt10031.2.2.2.2.1 bt10031.2.2.2.2.2 x4 x5).bind fun t10037 => (if t10037 = true then ((clock_Widen.f k x10002000 x10002001 x10002002 x10002003 x10002004 x10002005 x10003000 x10003001 x10003002 x10003003 x10003004 x10003005 x7).bind fun bt10038 => ((clock_Has.f k bt10038.1 bt10038.2.1 bt10038.2.2.1 bt10038.2.2.2.1 bt10038.2.2.2.2.1 bt10038.2.2.2.2.2 x4 x5).bind fun t10044 => (if t10044 = true then ((clock_Widen.f k x10003000 x10003001 x10003002 x10003003 x10003004 x10003005 x10002000 x10002001 x10002002 x10002003 x10002004 x10002005 x7).bind fun bt10045 => ((clock_Has.f k bt10045.1 bt10045.2.1 bt10045.2.2.1 bt10045.2.2.2.1 bt10045.2.2.2.2.1 bt10045.2.2.2.2.2 x4 x5).bind fun t10051 => ((clock_Meet.f k x10002000 x10002001 x10002002 x10002003 x10002004 x10002005 x10003000 x10003001 x10003002 x10003003 x10003004 x10003005).bind fun bt10052 => ((clock_Has.f k bt10052.1 bt10052.2.1 bt10052.2.2.1 bt10052.2.2.2.1 bt10052.2.2.2.2.1 bt10052.2.2.2.2.2 x4 x5).bind fun t10058 => ((clock_Has.f k x10003000 x10003001 x10003002 x10003003 x10003004 x10003005 x4 x5).bind fun t10059 => ((ints_Has.f x10004000 x10004001 x10004002 x4).bind fun t10060 => (if t10060 = true then ((ints_Has.f x10005000 x10005001 x10005002 x5).bind fun t10061 => (flyballlaw21_ClockSound.j1 k x4 x5 x17 t10023 t10051 (t10058 == t10059) t10061 x10002000 x10002001 x10002002 x10002003 x10002004 x10002005 x10004000 x10004001 x10004002 x10005000 x10005001 x10005002)) else (flyballlaw21_ClockSound.j1 k x4 x5 x17 t10023 t10051 (t10058 == t10059) false x10002000 x10002001 x10002002 x10002003 x10002004 x10002005 x10004000 x10004001 x10004002 x10005000 x10005001 x10005002)))))))) else (none)))) else (none)))) else (none))))))) else (none))))
def flyballlaw21_ClockSound.j1 : Nat → Int → Int → Bool → Bool → Bool → Bool → Bool → Bool → Int → Int → Bool → Int → Int → Bool → Int → Int → Bool → Int → Int → Option (Bool)
  | 0, _, _, _, _, _, _, _, _, _, _, _, _, _, _, _, _, _, _, _ => none
  | k + 1, x4, x5, x17, x18, x19, x20, x21, x10002000, x10002001, x10002002, x10002003, x10002004, x10002005, x10004000, x10004001, x10004002, x10005000, x10005001, x10005002 => if x21 = true then ((clock_Reduce.f k x10004000 x10004001 x10004002 x10002000 x10002001 x10002002 x10002003 x10002004 x10002005 x10005000 x10005001 x10005002).bind fun bt10062 => ((ints_Has.f bt10062.1 bt10062.2.1 bt10062.2.2 x4).bind fun t10065 => (if t10065 = true then ((clock_Tight.f k x10002000 x10002001 x10002002 x10002003 x10002004 x10002005 x10004000 x10004001 x10004002 x10005000 x10005001 x10005002).bind fun bt10066 => ((clock_Has.f k bt10066.1 bt10066.2.1 bt10066.2.2.1 bt10066.2.2.2.1 bt10066.2.2.2.2.1 bt10066.2.2.2.2.2 x4 x5).bind fun t10072 => (if t10072 = true then ((clock_Of.f k x10004000 x10004001 x10004002 x10005000 x10005001 x10005002).bind fun bt10073 => ((clock_Has.f k bt10073.1 bt10073.2.1 bt10073.2.2.1 bt10073.2.2.2.1 bt10073.2.2.2.2.1 bt10073.2.2.2.2.2 x4 x5).bind fun t10079 => (if x17 = true then (if x18 = true then (if x19 = true then (if x20 = true then (some t10079) else (none)) else (none)) else (none)) else (none)))) else (none)))) else (none)))) else (if x17 = true then (if x18 = true then (if x19 = true then (if x20 = true then (some true) else (none)) else (none)) else (none)) else (none))
end
def flyballlaw21_ClockSound.f (k : Nat) (a0_0 : Bool) (a0_1 : Int) (a0_2 : Int) (a0_3 : Bool) (a0_4 : Int) (a0_5 : Int) (a1_0 : Bool) (a1_1 : Int) (a1_2 : Int) (a1_3 : Bool) (a1_4 : Int) (a1_5 : Int) (a2_0 : Bool) (a2_1 : Int) (a2_2 : Int) (a3_0 : Bool) (a3_1 : Int) (a3_2 : Int) (a4 : Int) (a5 : Int) (a6 : Int) (l7 : List Int) : Option (Bool) := (flyballlaw21_works.f k).bind fun t10005 => (if t10005 = true then (if (l7.length : Int) > 200 then (flyballlaw21_ClockSound.j0 k a4 a5 a6 l7 t10005 true a0_0 a0_1 a0_2 a0_3 a0_4 a0_5 a1_0 a1_1 a1_2 a1_3 a1_4 a1_5 a2_0 a2_1 a2_2 a3_0 a3_1 a3_2) else (if a4 < (-34359738368) then (flyballlaw21_ClockSound.j0 k a4 a5 a6 l7 t10005 true a0_0 a0_1 a0_2 a0_3 a0_4 a0_5 a1_0 a1_1 a1_2 a1_3 a1_4 a1_5 a2_0 a2_1 a2_2 a3_0 a3_1 a3_2) else (if a4 > 34359738368 then (flyballlaw21_ClockSound.j0 k a4 a5 a6 l7 t10005 true a0_0 a0_1 a0_2 a0_3 a0_4 a0_5 a1_0 a1_1 a1_2 a1_3 a1_4 a1_5 a2_0 a2_1 a2_2 a3_0 a3_1 a3_2) else (if a5 < (-34359738368) then (flyballlaw21_ClockSound.j0 k a4 a5 a6 l7 t10005 true a0_0 a0_1 a0_2 a0_3 a0_4 a0_5 a1_0 a1_1 a1_2 a1_3 a1_4 a1_5 a2_0 a2_1 a2_2 a3_0 a3_1 a3_2) else (if a5 > 34359738368 then (flyballlaw21_ClockSound.j0 k a4 a5 a6 l7 t10005 true a0_0 a0_1 a0_2 a0_3 a0_4 a0_5 a1_0 a1_1 a1_2 a1_3 a1_4 a1_5 a2_0 a2_1 a2_2 a3_0 a3_1 a3_2) else (if a6 < (-34359738368) then (flyballlaw21_ClockSound.j0 k a4 a5 a6 l7 t10005 true a0_0 a0_1 a0_2 a0_3 a0_4 a0_5 a1_0 a1_1 a1_2 a1_3 a1_4 a1_5 a2_0 a2_1 a2_2 a3_0 a3_1 a3_2) else (if a6 > 34359738368 then (flyballlaw21_ClockSound.j0 k a4 a5 a6 l7 t10005 true a0_0 a0_1 a0_2 a0_3 a0_4 a0_5 a1_0 a1_1 a1_2 a1_3 a1_4 a1_5 a2_0 a2_1 a2_2 a3_0 a3_1 a3_2) else ((clock_Has.f k a0_0 a0_1 a0_2 a0_3 a0_4 a0_5 a4 a5).bind fun t10006 => (flyballlaw21_ClockSound.j0 k a4 a5 a6 l7 t10005 (!t10006) a0_0 a0_1 a0_2 a0_3 a0_4 a0_5 a1_0 a1_1 a1_2 a1_3 a1_4 a1_5 a2_0 a2_1 a2_2 a3_0 a3_1 a3_2))))))))) else (some false))
theorem flyballlaw21_ClockSound.mono_l : ∀ k, (∀ y0 y1 y2 y3 y4 y5 y6 y7 y8 y9 y10 y11 y12 y13 y14 y15 y16 y17 y18 y19 y20 y21 y22 y23, LeO (flyballlaw21_ClockSound.j0 k y0 y1 y2 y3 y4 y5 y6 y7 y8 y9 y10 y11 y12 y13 y14 y15 y16 y17 y18 y19 y20 y21 y22 y23) (flyballlaw21_ClockSound.j0 (k + 1) y0 y1 y2 y3 y4 y5 y6 y7 y8 y9 y10 y11 y12 y13 y14 y15 y16 y17 y18 y19 y20 y21 y22 y23)) ∧ (∀ y0 y1 y2 y3 y4 y5 y6 y7 y8 y9 y10 y11 y12 y13 y14 y15 y16 y17 y18, LeO (flyballlaw21_ClockSound.j1 k y0 y1 y2 y3 y4 y5 y6 y7 y8 y9 y10 y11 y12 y13 y14 y15 y16 y17 y18) (flyballlaw21_ClockSound.j1 (k + 1) y0 y1 y2 y3 y4 y5 y6 y7 y8 y9 y10 y11 y12 y13 y14 y15 y16 y17 y18))
  | 0 => ⟨fun _ _ _ _ _ _ _ _ _ _ _ _ _ _ _ _ _ _ _ _ _ _ _ _ r h => by simp [flyballlaw21_ClockSound.j0] at h, fun _ _ _ _ _ _ _ _ _ _ _ _ _ _ _ _ _ _ _ r h => by simp [flyballlaw21_ClockSound.j1] at h⟩
  | k + 1 => by
    obtain ⟨ih0, ih1⟩ := flyballlaw21_ClockSound.mono_l k
    refine ⟨?_, ?_⟩
    · intro y0 y1 y2 y3 y4 y5 y6 y7 y8 y9 y10 y11 y12 y13 y14 y15 y16 y17 y18 y19 y20 y21 y22 y23
      unfold flyballlaw21_ClockSound.j0
      repeat' first
      | (with_reducible exact ih0 _ _ _ _ _ _ _ _ _ _ _ _ _ _ _ _ _ _ _ _ _ _ _ _)
      | (with_reducible exact ih1 _ _ _ _ _ _ _ _ _ _ _ _ _ _ _ _ _ _ _)
      | (with_reducible exact clock_Has.mono _ _ _ _ _ _ _ _ _)
      | (with_reducible exact clock_Join.mono _ _ _ _ _ _ _ _ _ _ _ _ _)
      | (with_reducible exact clock_Meet.mono _ _ _ _ _ _ _ _ _ _ _ _ _)
      | (with_reducible exact clock_Move.mono _ _ _ _ _ _ _ _ _ _)
      | (with_reducible exact clock_Of.mono _ _ _ _ _ _ _)
      | (with_reducible exact clock_Reduce.mono _ _ _ _ _ _ _ _ _ _ _ _ _)
      | (with_reducible exact clock_Tick.mono _ _ _ _ _ _ _)
      | (with_reducible exact clock_Tight.mono _ _ _ _ _ _ _ _ _ _ _ _ _)
      | (with_reducible exact clock_Widen.mono _ _ _ _ _ _ _ _ _ _ _ _ _ _)
      | (with_reducible exact flyballlaw21_works.mono _)
      | (with_reducible exact LeO.refl _)
      | (with_reducible exact LeO.none _)
      | (with_reducible refine LeO.ite ?_ ?_)
      | (with_reducible refine LeO.bind ?_ (fun _ => ?_))
      | exact ih0 _ _ _ _ _ _ _ _ _ _ _ _ _ _ _ _ _ _ _ _ _ _ _ _
      | exact ih1 _ _ _ _ _ _ _ _ _ _ _ _ _ _ _ _ _ _ _
      | exact clock_Has.mono _ _ _ _ _ _ _ _ _
      | exact clock_Join.mono _ _ _ _ _ _ _ _ _ _ _ _ _
      | exact clock_Meet.mono _ _ _ _ _ _ _ _ _ _ _ _ _
      | exact clock_Move.mono _ _ _ _ _ _ _ _ _ _
      | exact clock_Of.mono _ _ _ _ _ _ _
      | exact clock_Reduce.mono _ _ _ _ _ _ _ _ _ _ _ _ _
      | exact clock_Tick.mono _ _ _ _ _ _ _
      | exact clock_Tight.mono _ _ _ _ _ _ _ _ _ _ _ _ _
      | exact clock_Widen.mono _ _ _ _ _ _ _ _ _ _ _ _ _ _
      | exact flyballlaw21_works.mono _
      | exact LeO.none _
      | refine LeO.ite ?_ ?_
      | refine LeO.bind ?_ (fun _ => ?_)
    · intro y0 y1 y2 y3 y4 y5 y6 y7 y8 y9 y10 y11 y12 y13 y14 y15 y16 y17 y18
      unfold flyballlaw21_ClockSound.j1
      repeat' first
      | (with_reducible exact ih0 _ _ _ _ _ _ _ _ _ _ _ _ _ _ _ _ _ _ _ _ _ _ _ _)
      | (with_reducible exact ih1 _ _ _ _ _ _ _ _ _ _ _ _ _ _ _ _ _ _ _)
      | (with_reducible exact clock_Has.mono _ _ _ _ _ _ _ _ _)
      | (with_reducible exact clock_Join.mono _ _ _ _ _ _ _ _ _ _ _ _ _)
      | (with_reducible exact clock_Meet.mono _ _ _ _ _ _ _ _ _ _ _ _ _)
      | (with_reducible exact clock_Move.mono _ _ _ _ _ _ _ _ _ _)
      | (with_reducible exact clock_Of.mono _ _ _ _ _ _ _)
      | (with_reducible exact clock_Reduce.mono _ _ _ _ _ _ _ _ _ _ _ _ _)
      | (with_reducible exact clock_Tick.mono _ _ _ _ _ _ _)
      | (with_reducible exact clock_Tight.mono _ _ _ _ _ _ _ _ _ _ _ _ _)
      | (with_reducible exact clock_Widen.mono _ _ _ _ _ _ _ _ _ _ _ _ _ _)
      | (with_reducible exact flyballlaw21_works.mono _)
      | (with_reducible exact LeO.refl _)
      | (with_reducible exact LeO.none _)
      | (with_reducible refine LeO.ite ?_ ?_)
      | (with_reducible refine LeO.bind ?_ (fun _ => ?_))
      | exact ih0 _ _ _ _ _ _ _ _ _ _ _ _ _ _ _ _ _ _ _ _ _ _ _ _
      | exact ih1 _ _ _ _ _ _ _ _ _ _ _ _ _ _ _ _ _ _ _
      | exact clock_Has.mono _ _ _ _ _ _ _ _ _
      | exact clock_Join.mono _ _ _ _ _ _ _ _ _ _ _ _ _
      | exact clock_Meet.mono _ _ _ _ _ _ _ _ _ _ _ _ _
      | exact clock_Move.mono _ _ _ _ _ _ _ _ _ _
      | exact clock_Of.mono _ _ _ _ _ _ _
      | exact clock_Reduce.mono _ _ _ _ _ _ _ _ _ _ _ _ _
      | exact clock_Tick.mono _ _ _ _ _ _ _
      | exact clock_Tight.mono _ _ _ _ _ _ _ _ _ _ _ _ _
      | exact clock_Widen.mono _ _ _ _ _ _ _ _ _ _ _ _ _ _
      | exact flyballlaw21_works.mono _
      | exact LeO.none _
      | refine LeO.ite ?_ ?_
      | refine LeO.bind ?_ (fun _ => ?_)
theorem flyballlaw21_ClockSound.mono : ∀ a0 a1 a2 a3 a4 a5 a6 a7 a8 a9 a10 a11 a12 a13 a14 a15 a16 a17 a18 a19 a20 a21 k, LeO (flyballlaw21_ClockSound.f k a0 a1 a2 a3 a4 a5 a6 a7 a8 a9 a10 a11 a12 a13 a14 a15 a16 a17 a18 a19 a20 a21) (flyballlaw21_ClockSound.f (k + 1) a0 a1 a2 a3 a4 a5 a6 a7 a8 a9 a10 a11 a12 a13 a14 a15 a16 a17 a18 a19 a20 a21) := by
  intro a0 a1 a2 a3 a4 a5 a6 a7 a8 a9 a10 a11 a12 a13 a14 a15 a16 a17 a18 a19 a20 a21 k
  obtain ⟨ih0, ih1⟩ := flyballlaw21_ClockSound.mono_l k
  unfold flyballlaw21_ClockSound.f
  repeat' first
      | (with_reducible exact ih0 _ _ _ _ _ _ _ _ _ _ _ _ _ _ _ _ _ _ _ _ _ _ _ _)
      | (with_reducible exact ih1 _ _ _ _ _ _ _ _ _ _ _ _ _ _ _ _ _ _ _)
      | (with_reducible exact clock_Has.mono _ _ _ _ _ _ _ _ _)
      | (with_reducible exact clock_Join.mono _ _ _ _ _ _ _ _ _ _ _ _ _)
      | (with_reducible exact clock_Meet.mono _ _ _ _ _ _ _ _ _ _ _ _ _)
      | (with_reducible exact clock_Move.mono _ _ _ _ _ _ _ _ _ _)
      | (with_reducible exact clock_Of.mono _ _ _ _ _ _ _)
      | (with_reducible exact clock_Reduce.mono _ _ _ _ _ _ _ _ _ _ _ _ _)
      | (with_reducible exact clock_Tick.mono _ _ _ _ _ _ _)
      | (with_reducible exact clock_Tight.mono _ _ _ _ _ _ _ _ _ _ _ _ _)
      | (with_reducible exact clock_Widen.mono _ _ _ _ _ _ _ _ _ _ _ _ _ _)
      | (with_reducible exact flyballlaw21_works.mono _)
      | (with_reducible exact LeO.refl _)
      | (with_reducible exact LeO.none _)
      | (with_reducible refine LeO.ite ?_ ?_)
      | (with_reducible refine LeO.bind ?_ (fun _ => ?_))
      | exact ih0 _ _ _ _ _ _ _ _ _ _ _ _ _ _ _ _ _ _ _ _ _ _ _ _
      | exact ih1 _ _ _ _ _ _ _ _ _ _ _ _ _ _ _ _ _ _ _
      | exact clock_Has.mono _ _ _ _ _ _ _ _ _
      | exact clock_Join.mono _ _ _ _ _ _ _ _ _ _ _ _ _
      | exact clock_Meet.mono _ _ _ _ _ _ _ _ _ _ _ _ _
      | exact clock_Move.mono _ _ _ _ _ _ _ _ _ _
      | exact clock_Of.mono _ _ _ _ _ _ _
      | exact clock_Reduce.mono _ _ _ _ _ _ _ _ _ _ _ _ _
      | exact clock_Tick.mono _ _ _ _ _ _ _
      | exact clock_Tight.mono _ _ _ _ _ _ _ _ _ _ _ _ _
      | exact clock_Widen.mono _ _ _ _ _ _ _ _ _ _ _ _ _ _
      | exact flyballlaw21_works.mono _
      | exact LeO.none _
      | refine LeO.ite ?_ ?_
      | refine LeO.bind ?_ (fun _ => ?_)
def flyballlaw21_ClockSound.T6 : Bool × List (List Nat × List Nat) := (true, [([], []), ([0], [0]), ([], []), ([], []), ([3], [3]), ([1, 2, 4, 1], [1, 2, 4]), ([5, 5], [5]), ([6], [6]), ([6], [6]), ([8, 6, 6], [6, 8]), ([7, 9, 9, 6], [6, 7, 9]), ([6], [6]), ([6], [6]), ([11, 12, 6], [6, 11, 12]), ([6], [6]), ([10, 13, 14, 10, 6], [6, 10, 13, 14]), ([6, 15], [6, 15]), ([16, 15, 0, 1, 2, 3, 4, 5, 6, 7, 8, 9, 10, 11, 12, 13, 14, 15, 16], [16])])
def flyballlaw21_ClockSound.B6 : List Nat := [0, 1, 0, 0, 8, 31, 63, 127, 127, 383, 1023, 127, 127, 6271, 127, 32767, 65535, 131071]
theorem flyballlaw21_ClockSound.tab6 : rtab .any (opsOf Try.f5 6) = flyballlaw21_ClockSound.T6 := by kernel_rfl
theorem flyballlaw21_ClockSound.bits6 : waitsOk flyballlaw21_ClockSound.T6.2 flyballlaw21_ClockSound.B6 = true := by kernel_rfl
def flyballlaw21_ClockSound.T8 : Bool × List (List Nat × List Nat) := (true, [([], []), ([], []), ([0, 1], [0, 1]), ([], []), ([], []), ([2, 3, 4, 2], [2, 3, 4]), ([], []), ([], []), ([], []), ([6, 7, 8, 5], [6, 7, 8]), ([5, 9], [5, 9]), ([10, 9, 0, 1, 2, 3, 4, 5, 6, 7, 8, 9, 10], [10])])
def flyballlaw21_ClockSound.B8 : List Nat := [0, 0, 3, 0, 0, 31, 0, 0, 0, 511, 1023, 2047]
theorem flyballlaw21_ClockSound.tab8 : rtab .any (opsOf Try.f5 8) = flyballlaw21_ClockSound.T8 := by kernel_rfl
theorem flyballlaw21_ClockSound.bits8 : waitsOk flyballlaw21_ClockSound.T8.2 flyballlaw21_ClockSound.B8 = true := by kernel_rfl
set_option maxHeartbeats 8000000 in
set_option maxRecDepth 100000 in
theorem flyballlaw21_ClockSound.calls (k : Nat) (a0_0 : Bool) (a0_1 : Int) (a0_2 : Int) (a0_3 : Bool) (a0_4 : Int) (a0_5 : Int) (a1_0 : Bool) (a1_1 : Int) (a1_2 : Int) (a1_3 : Bool) (a1_4 : Int) (a1_5 : Int) (a2_0 : Bool) (a2_1 : Int) (a2_2 : Int) (a3_0 : Bool) (a3_1 : Int) (a3_2 : Int) (a4 : Int) (a5 : Int) (a6 : Int) (A7 : Option Addr) (c7 : Nat) (l7 : List Int) (r : Bool) (w : World) (hr7 : Kd.C (Kd.int .i64) w A7 l7.length l7) (hc7 : l7.length ≤ c7) (h : flyballlaw21_ClockSound.f k a0_0 a0_1 a0_2 a0_3 a0_4 a0_5 a1_0 a1_1 a1_2 a1_3 a1_4 a1_5 a2_0 a2_1 a2_2 a3_0 a3_1 a3_2 a4 a5 a6 l7 = some r) :
    Calls Try.prog 5 #[.agg #[.bool a0_0, .int .i64 a0_1, .int .i64 a0_2, .bool a0_3, .int .i64 a0_4, .int .i64 a0_5], .agg #[.bool a1_0, .int .i64 a1_1, .int .i64 a1_2, .bool a1_3, .int .i64 a1_4, .int .i64 a1_5], .agg #[.bool a2_0, .int .i64 a2_1, .int .i64 a2_2], .agg #[.bool a3_0, .int .i64 a3_1, .int .i64 a3_2], .int .i64 a4, .int .i64 a5, .int .i64 a6, .slice A7 l7.length c7] w fun e w' => e = .returned (.bool r) ∧ Below w.heap.size w w' := by
  have hu25 := Try.underlying25
  have hu23 := Try.underlying23
  have HR7 := Aside0.mk hr7
  have HC7 := Aside0.mk hc7
  clear hr7 hc7
  have HB := Aside0.mk (Below.refl w.heap.size w)
  have H := h
  clear h
  unfold flyballlaw21_ClockSound.f at H
  obtain ⟨t10005, A90, H⟩ := Option.bind_eq_some_iff.mp H
  have A9 := Aside0.mk A90
  clear A90
  (try dsimp only at H)
  by_cases c10 : t10005 = true
  · subst c10
    rw [if_pos rfl] at H
    have HC11 := Aside0.mk H
    clear H
    go_enter Try.func5, Try.ntmps5
    go_upto_region 4 with (first | ((with_reducible refine gate_dst (N := 8) rfl ?_); refine kx 8 #[.bool a0_0, .int .i64 a0_1, .int .i64 a0_2, .bool a0_3, .int .i64 a0_4, .int .i64 a0_5] 25 ?_; intro gb10001 hg w12 hbox hb; have BK10001 := Aside0.mk (hbox); have GW10001 := kg HB hg; have GE10001 := kg HB hg; replace HB := kh HB hb; clear hb hbox hg) | ((with_reducible refine gate_dst (N := 9) rfl ?_); refine kx 9 #[.bool a1_0, .int .i64 a1_1, .int .i64 a1_2, .bool a1_3, .int .i64 a1_4, .int .i64 a1_5] 25 ?_; intro gb10002 hg w13 hbox hb; have BK10002 := Aside0.mk (hbox); have GW10002 := kg HB hg; have GE10002 := kg HB hg; have NB10001_10002 := kn BK10001 hg; have NB10002_10001 := km BK10001 hg; replace BK10001 := kb BK10001 hb; replace HB := kh HB hb; clear hb hbox hg) | ((with_reducible refine gate_dst (N := 10) rfl ?_); refine kx 10 #[.bool a2_0, .int .i64 a2_1, .int .i64 a2_2] 23 ?_; intro gb10003 hg w14 hbox hb; have BK10003 := Aside0.mk (hbox); have GW10003 := kg HB hg; have GE10003 := kg HB hg; have NB10001_10003 := kn BK10001 hg; have NB10003_10001 := km BK10001 hg; have NB10002_10003 := kn BK10002 hg; have NB10003_10002 := km BK10002 hg; replace BK10001 := kb BK10001 hb; replace BK10002 := kb BK10002 hb; replace HB := kh HB hb; clear hb hbox hg) | ((with_reducible refine gate_dst (N := 11) rfl ?_); refine kx 11 #[.bool a3_0, .int .i64 a3_1, .int .i64 a3_2] 23 ?_; intro gb10004 hg w15 hbox hb; have BK10004 := Aside0.mk (hbox); have GW10004 := kg HB hg; have GE10004 := kg HB hg; have NB10001_10004 := kn BK10001 hg; have NB10004_10001 := km BK10001 hg; have NB10002_10004 := kn BK10002 hg; have NB10004_10002 := km BK10002 hg; have NB10003_10004 := kn BK10003 hg; have NB10004_10003 := km BK10003 hg; replace BK10001 := kb BK10001 hb; replace BK10002 := kb BK10002 hb; replace BK10003 := kb BK10003 hb; replace HB := kh HB hb; clear hb hbox hg) | ((with_reducible refine gate_callee (f := 13) rfl ?_); refine kc (some 23) Try.func13 #[] (flyballlaw21_works.calls k  true _ A9.out) ?_; intro w16 hb; replace BK10001 := kb BK10001 hb; replace BK10002 := kb BK10002 hb; replace BK10003 := kb BK10003 hb; replace BK10004 := kb BK10004 hb; replace HB := kh HB hb; (try clear hb)))
    (try simp only [Act.put, List.setIfInBounds_toArray, List.set_cons_zero, List.set_cons_succ])
    go_cut [59] (fun v59 wc => ∃ (kq : Nat) (x59_10 : Bool), v59 = .bool x59_10 ∧ Aside0 (flyballlaw21_ClockSound.j0 kq a4 a5 a6 l7 true x59_10 a0_0 a0_1 a0_2 a0_3 a0_4 a0_5 a1_0 a1_1 a1_2 a1_3 a1_4 a1_5 a2_0 a2_1 a2_2 a3_0 a3_1 a3_2 = some r) ∧ Aside0 (kq ≤ k) ∧ Aside0 (wc.heap[gb10001]? = some (.cells #[.bool a0_0, .int .i64 a0_1, .int .i64 a0_2, .bool a0_3, .int .i64 a0_4, .int .i64 a0_5] 25 (0, 0))) ∧ Aside0 (wc.heap[gb10002]? = some (.cells #[.bool a1_0, .int .i64 a1_1, .int .i64 a1_2, .bool a1_3, .int .i64 a1_4, .int .i64 a1_5] 25 (0, 0))) ∧ Aside0 (wc.heap[gb10003]? = some (.cells #[.bool a2_0, .int .i64 a2_1, .int .i64 a2_2] 23 (0, 0))) ∧ Aside0 (wc.heap[gb10004]? = some (.cells #[.bool a3_0, .int .i64 a3_1, .int .i64 a3_2] 23 (0, 0))) ∧ Aside0 (Below w.heap.size w wc))
    case first =>
      have H := HC11.out
      clear HC11
      by_cases c17 : (l7.length : Int) > 200
      · rw [if_pos c17] at H
        have c17b0 : decide (200 < (l7.length : Int)) = true := decide_eq_true c17
        have c17b1 : decide (200 < l7.length) = true := decide_eq_true (by omega)
        clear c17
        (first | rw [c17b0] | (simp only [i64_w, i32_w]; rw [c17b0]) | skip)
        have H' := Aside0.mk H
        clear H
        go_wp2
        go_meet
        case rel => exact ⟨_, (true), (by first | rfl | (simp; done) | (simp [*]; done)), H', ⟨by first | omega | exact Nat.le_refl _⟩, ⟨pk BK10001⟩, ⟨pk BK10002⟩, ⟨pk BK10003⟩, ⟨pk BK10004⟩, ⟨pl HB⟩⟩
      · rw [if_neg c17] at H
        have c17b0 : decide (200 < (l7.length : Int)) = false := decide_eq_false c17
        have c17b1 : decide (200 < l7.length) = false := decide_eq_false (by omega)
        clear c17
        (first | rw [c17b0] | (simp only [i64_w, i32_w]; rw [c17b0]) | skip)
        by_cases c18 : a4 < (-34359738368)
        · rw [if_pos c18] at H
          have c18b0 : decide (a4 < (-34359738368)) = true := decide_eq_true c18
          clear c18
          have H' := Aside0.mk H
          clear H
          go_wp2
          go_meet
          case rel => exact ⟨_, (true), (by first | rfl | (simp; done) | (simp [*]; done)), H', ⟨by first | omega | exact Nat.le_refl _⟩, ⟨pk BK10001⟩, ⟨pk BK10002⟩, ⟨pk BK10003⟩, ⟨pk BK10004⟩, ⟨pl HB⟩⟩
        · rw [if_neg c18] at H
          have c18b0 : decide (a4 < (-34359738368)) = false := decide_eq_false c18
          clear c18
          by_cases c19 : a4 > 34359738368
          · rw [if_pos c19] at H
            have c19b0 : decide (34359738368 < a4) = true := decide_eq_true c19
            clear c19
            have H' := Aside0.mk H
            clear H
            go_wp2
            go_meet
            case rel => exact ⟨_, (true), (by first | rfl | (simp; done) | (simp [*]; done)), H', ⟨by first | omega | exact Nat.le_refl _⟩, ⟨pk BK10001⟩, ⟨pk BK10002⟩, ⟨pk BK10003⟩, ⟨pk BK10004⟩, ⟨pl HB⟩⟩
          · rw [if_neg c19] at H
            have c19b0 : decide (34359738368 < a4) = false := decide_eq_false c19
            clear c19
            by_cases c20 : a5 < (-34359738368)
            · rw [if_pos c20] at H
              have c20b0 : decide (a5 < (-34359738368)) = true := decide_eq_true c20
              clear c20
              have H' := Aside0.mk H
              clear H
              go_wp2
              go_meet
              case rel => exact ⟨_, (true), (by first | rfl | (simp; done) | (simp [*]; done)), H', ⟨by first | omega | exact Nat.le_refl _⟩, ⟨pk BK10001⟩, ⟨pk BK10002⟩, ⟨pk BK10003⟩, ⟨pk BK10004⟩, ⟨pl HB⟩⟩
            · rw [if_neg c20] at H
              have c20b0 : decide (a5 < (-34359738368)) = false := decide_eq_false c20
              clear c20
              by_cases c21 : a5 > 34359738368
              · rw [if_pos c21] at H
                have c21b0 : decide (34359738368 < a5) = true := decide_eq_true c21
                clear c21
                have H' := Aside0.mk H
                clear H
                go_wp2
                go_meet
                case rel => exact ⟨_, (true), (by first | rfl | (simp; done) | (simp [*]; done)), H', ⟨by first | omega | exact Nat.le_refl _⟩, ⟨pk BK10001⟩, ⟨pk BK10002⟩, ⟨pk BK10003⟩, ⟨pk BK10004⟩, ⟨pl HB⟩⟩
              · rw [if_neg c21] at H
                have c21b0 : decide (34359738368 < a5) = false := decide_eq_false c21
                clear c21
                by_cases c22 : a6 < (-34359738368)
                · rw [if_pos c22] at H
                  have c22b0 : decide (a6 < (-34359738368)) = true := decide_eq_true c22
                  clear c22
                  have H' := Aside0.mk H
                  clear H
                  go_wp2
                  go_meet
                  case rel => exact ⟨_, (true), (by first | rfl | (simp; done) | (simp [*]; done)), H', ⟨by first | omega | exact Nat.le_refl _⟩, ⟨pk BK10001⟩, ⟨pk BK10002⟩, ⟨pk BK10003⟩, ⟨pk BK10004⟩, ⟨pl HB⟩⟩
                · rw [if_neg c22] at H
                  have c22b0 : decide (a6 < (-34359738368)) = false := decide_eq_false c22
                  clear c22
                  by_cases c23 : a6 > 34359738368
                  · rw [if_pos c23] at H
                    have c23b0 : decide (34359738368 < a6) = true := decide_eq_true c23
                    clear c23
                    have H' := Aside0.mk H
                    clear H
                    go_wp2
                    go_meet
                    case rel => exact ⟨_, (true), (by first | rfl | (simp; done) | (simp [*]; done)), H', ⟨by first | omega | exact Nat.le_refl _⟩, ⟨pk BK10001⟩, ⟨pk BK10002⟩, ⟨pk BK10003⟩, ⟨pk BK10004⟩, ⟨pl HB⟩⟩
                  · rw [if_neg c23] at H
                    have c23b0 : decide (34359738368 < a6) = false := decide_eq_false c23
                    clear c23
                    obtain ⟨t10006, A240, H⟩ := Option.bind_eq_some_iff.mp H
                    have A24 := Aside0.mk A240
                    clear A240
                    (try dsimp only at H)
                    have H' := Aside0.mk H
                    clear H
                    have hnb25 := NB10001_10002.out
                    have hnc25 := NB10002_10001.out
                    have hnb26 := NB10001_10003.out
                    have hnc26 := NB10003_10001.out
                    have hnb27 := NB10001_10004.out
                    have hnc27 := NB10004_10001.out
                    have ⟨hcz28_0, hcz28_1, hcz28_2, hcz28_3, hcz28_4, hcz28_5, hfz28_0, hfz28_1, hfz28_2, hfz28_3, hfz28_4, hfz28_5⟩ := kz6f BK10001
                    go_wp2_with (first | (go_at_call 33; (with_reducible refine (clock_Has.calls k a0_0 a0_1 a0_2 a0_3 a0_4 a0_5 a4 a5 t10006 _ A24.out).mono ?_); rintro e w29 ⟨rfl, hb⟩; replace BK10001 := kb BK10001 hb; replace BK10002 := kb BK10002 hb; replace BK10003 := kb BK10003 hb; replace BK10004 := kb BK10004 hb; replace HB := kh HB hb; (try clear hb)))
                    go_meet
                    case rel => exact ⟨_, (!t10006), (by first | rfl | (simp; done) | (simp [*]; done)), H', ⟨by first | omega | exact Nat.le_refl _⟩, ⟨pk BK10001⟩, ⟨pk BK10002⟩, ⟨pk BK10003⟩, ⟨pk BK10004⟩, ⟨pl HB⟩⟩
    case rest =>
      clear HC11
      try clear c1
      try clear c2
      try clear p2
      try clear c5
      try clear c7
      try clear c10
      try clear c13
      try clear c17
      try clear c17b0
      try clear c17b1
      try clear c18
      try clear c18b0
      try clear c19
      try clear c19b0
      try clear c20
      try clear c20b0
      try clear c21
      try clear c21b0
      try clear c22
      try clear c22b0
      try clear c23
      try clear c23b0
      try clear c25
      try clear c26
      try clear c27
      try clear hcz28_0
      try clear hcz28_1
      try clear hcz28_2
      try clear hcz28_3
      try clear hcz28_4
      try clear hcz28_5
      try clear hfz28_0
      try clear hfz28_1
      try clear hfz28_2
      try clear hfz28_3
      try clear hfz28_4
      try clear hfz28_5
      obtain ⟨kq, x59_10, rfl, HA, HJ10, BK10001, BK10002, BK10003, BK10004, HB⟩ := hcut
      cases kq with
      | zero => exact absurd HA.out (by simp [flyballlaw21_ClockSound.j0])
      | succ kj10 =>
        have H := HA.out
        clear HA
        simp only [flyballlaw21_ClockSound.j0] at H
        by_cases c30 : x59_10 = true
        · subst c30
          rw [if_pos rfl] at H
          obtain rfl := Option.some.inj H
          go_wp2
          go_ret
          exact ⟨pe, pl HB⟩
        · replace c30 := Bool.eq_false_iff.mpr c30
          subst c30
          rw [if_neg (show ¬ (false = true) by decide)] at H
          obtain ⟨⟨t10007, t10008, t10009, t10010, t10011, t10012⟩, A310, H⟩ := Option.bind_eq_some_iff.mp H
          have A31 := Aside0.mk A310
          clear A310
          (try dsimp only at H)
          obtain ⟨t10013, A320, H⟩ := Option.bind_eq_some_iff.mp H
          have A32 := Aside0.mk A320
          clear A320
          (try dsimp only at H)
          by_cases c33 : t10013 = true
          · subst c33
            rw [if_pos rfl] at H
            obtain ⟨⟨t10014, t10015, t10016⟩, A340, H⟩ := Option.bind_eq_some_iff.mp H
            have A34 := Aside0.mk A340
            clear A340
            (try dsimp only at H)
            obtain ⟨⟨t10017, t10018, t10019, t10020, t10021, t10022⟩, A350, H⟩ := Option.bind_eq_some_iff.mp H
            have A35 := Aside0.mk A350
            clear A350
            (try dsimp only at H)
            obtain ⟨t10023, A360, H⟩ := Option.bind_eq_some_iff.mp H
            have A36 := Aside0.mk A360
            clear A360
            (try dsimp only at H)
            obtain ⟨⟨t10024, t10025, t10026, t10027, t10028, t10029⟩, A370, H⟩ := Option.bind_eq_some_iff.mp H
            have A37 := Aside0.mk A370
            clear A370
            (try dsimp only at H)
            obtain ⟨t10030, A380, H⟩ := Option.bind_eq_some_iff.mp H
            have A38 := Aside0.mk A380
            clear A380
            (try dsimp only at H)
            by_cases c39 : t10030 = true
            · subst c39
              rw [if_pos rfl] at H
              obtain ⟨⟨t10031, t10032, t10033, t10034, t10035, t10036⟩, A400, H⟩ := Option.bind_eq_some_iff.mp H
              have A40 := Aside0.mk A400
              clear A400
              (try dsimp only at H)
              obtain ⟨t10037, A410, H⟩ := Option.bind_eq_some_iff.mp H
              have A41 := Aside0.mk A410
              clear A410
              (try dsimp only at H)
              by_cases c42 : t10037 = true
              · subst c42
                rw [if_pos rfl] at H
                obtain ⟨⟨t10038, t10039, t10040, t10041, t10042, t10043⟩, A430, H⟩ := Option.bind_eq_some_iff.mp H
                have A43 := Aside0.mk A430
                clear A430
                (try dsimp only at H)
                obtain ⟨t10044, A440, H⟩ := Option.bind_eq_some_iff.mp H
                have A44 := Aside0.mk A440
                clear A440
                (try dsimp only at H)
                by_cases c45 : t10044 = true
                · subst c45
                  rw [if_pos rfl] at H
                  obtain ⟨⟨t10045, t10046, t10047, t10048, t10049, t10050⟩, A460, H⟩ := Option.bind_eq_some_iff.mp H
                  have A46 := Aside0.mk A460
                  clear A460
                  (try dsimp only at H)
                  obtain ⟨t10051, A470, H⟩ := Option.bind_eq_some_iff.mp H
                  have A47 := Aside0.mk A470
                  clear A470
                  (try dsimp only at H)
                  obtain ⟨⟨t10052, t10053, t10054, t10055, t10056, t10057⟩, A480, H⟩ := Option.bind_eq_some_iff.mp H
                  have A48 := Aside0.mk A480
                  clear A480
                  (try dsimp only at H)
                  obtain ⟨t10058, A490, H⟩ := Option.bind_eq_some_iff.mp H
                  have A49 := Aside0.mk A490
                  clear A490
                  (try dsimp only at H)
                  obtain ⟨t10059, A500, H⟩ := Option.bind_eq_some_iff.mp H
                  have A50 := Aside0.mk A500
                  clear A500
                  (try dsimp only at H)
                  have HC51 := Aside0.mk H
                  clear H
                  try go_wp2
                  replace BK10001 := Aside0.mk (blk_drew BK10001.out)
                  replace BK10002 := Aside0.mk (blk_drew BK10002.out)
                  replace BK10003 := Aside0.mk (blk_drew BK10003.out)
                  replace BK10004 := Aside0.mk (blk_drew BK10004.out)
                  replace HB := Aside0.mk (below_drew1 HB.out)
                  refine start_ (n := 18) (S := fun w' => w'.cell? ⟨gb10001, 0, none⟩ = some (.bool a0_0) ∧ w'.cell? ⟨gb10001, 1, none⟩ = some (.int .i64 a0_1) ∧ w'.cell? ⟨gb10001, 2, none⟩ = some (.int .i64 a0_2) ∧ w'.cell? ⟨gb10001, 3, none⟩ = some (.bool a0_3) ∧ w'.cell? ⟨gb10001, 4, none⟩ = some (.int .i64 a0_4) ∧ w'.cell? ⟨gb10001, 5, none⟩ = some (.int .i64 a0_5)) (ds := []) #[false, false, false, false, false, false, false, false, false, false, false, false, false, false, false, false, false, false] (by kernel_rfl) rfl rfl ⟨bc BK10001 0, bc BK10001 1, bc BK10001 2, bc BK10001 3, bc BK10001 4, bc BK10001 5⟩ (fun hHeld => ?_); refine with_tabW flyballlaw21_ClockSound.tab6 flyballlaw21_ClockSound.bits6 (fun HT_ HW_ => ?_)
                  generalize wc.drew = w52 at BK10001 BK10002 BK10003 BK10004 HB hHeld ⊢
                  refine pur 2 (some 63) #[false, false, true, false, false, false, false, false, false, false, false, false, false, false, false, false, false, false] (any_of HT_.out (by kernel_rfl)) ?_
                  refine pur 3 (some 64) #[false, false, true, true, false, false, false, false, false, false, false, false, false, false, false, false, false, false] (any_of HT_.out (by kernel_rfl)) ?_
                  refine pur 4 (some 65) #[false, false, true, true, true, false, false, false, false, false, false, false, false, false, false, false, false, false] (any_of HT_.out (by kernel_rfl)) ?_
                  refine tak 0 (some 61) #[true, false, true, true, true, false, false, false, false, false, false, false, false, false, false, false, false, false] (take_ofW HT_.out HW_.out (by kernel_rfl)) hHeld ?_
                  refine one_ (i := 1) (N := some 62) #[true, true, true, true, true, false, false, false, false, false, false, false, false, false, false, false, false, false] rfl rfl (one_of HT_.out (by kernel_rfl)) (by decide) (fun K hK => ?_)
                  refine gc Try.func20 #[.agg #[.bool a0_0, .int .i64 a0_1, .int .i64 a0_2, .bool a0_3, .int .i64 a0_4, .int .i64 a0_5]] (clock_Tick.calls kj10 a0_0 a0_1 a0_2 a0_3 a0_4 a0_5 t10007 t10008 t10009 t10010 t10011 t10012 _ A31.out) ?_
                  intro w53 hb
                  replace BK10001 := kb BK10001 hb
                  replace BK10002 := kb BK10002 hb
                  replace BK10003 := kb BK10003 hb
                  replace BK10004 := kb BK10004 hb
                  replace HB := kh HB hb
                  (try clear hb)
                  refine hK.out _ _ ⟨bc BK10001 0, bc BK10001 1, bc BK10001 2, bc BK10001 3, bc BK10001 4, bc BK10001 5⟩ (fun hHeld => ?_)
                  clear hK K
                  refine nrm (some 62) ?_
                  refine one_ (i := 5) (N := some 66) #[true, true, true, true, true, true, false, false, false, false, false, false, false, false, false, false, false, false] rfl rfl (one_of HT_.out (by kernel_rfl)) (by decide) (fun K hK => ?_)
                  refine gc Try.func33 #[.agg #[.bool t10007, .int .i64 t10008, .int .i64 t10009, .bool t10010, .int .i64 t10011, .int .i64 t10012], .int .i64 a4, .int .i64 (wrap64 (a5 + 1))] (clock_Has.calls kj10 t10007 t10008 t10009 t10010 t10011 t10012 a4 (wrap64 (a5 + 1)) true _ A32.out) ?_
                  intro w54 hb
                  replace BK10001 := kb BK10001 hb
                  replace BK10002 := kb BK10002 hb
                  replace BK10003 := kb BK10003 hb
                  replace BK10004 := kb BK10004 hb
                  replace HB := kh HB hb
                  (try clear hb)
                  refine hK.out _ _ ⟨bc BK10001 0, bc BK10001 1, bc BK10001 2, bc BK10001 3, bc BK10001 4, bc BK10001 5⟩ (fun hHeld => ?_)
                  clear hK K
                  refine nrm (some 66) ?_
                  refine pur 6 (some 67) #[true, true, true, true, true, true, true, false, false, false, false, false, false, false, false, false, false, false] (any_of HT_.out (by kernel_rfl)) ?_
                  refine pur 8 (some 69) #[true, true, true, true, true, true, true, false, true, false, false, false, false, false, false, false, false, false] (any_of HT_.out (by kernel_rfl)) ?_
                  refine pur 11 (some 72) #[true, true, true, true, true, true, true, false, true, false, false, true, false, false, false, false, false, false] (any_of HT_.out (by kernel_rfl)) ?_
                  refine pur 12 (some 73) #[true, true, true, true, true, true, true, false, true, false, false, true, true, false, false, false, false, false] (any_of HT_.out (by kernel_rfl)) ?_
                  refine pur 13 (some 74) #[true, true, true, true, true, true, true, false, true, false, false, true, true, true, false, false, false, false] (any_of HT_.out (by kernel_rfl)) ?_
                  refine pur 14 (some 75) #[true, true, true, true, true, true, true, false, true, false, false, true, true, true, true, false, false, false] (any_of HT_.out (by kernel_rfl)) ?_
                  refine tak 7 (some 68) #[true, true, true, true, true, true, true, true, true, false, false, true, true, true, true, false, false, false] (take_ofW HT_.out HW_.out (by kernel_rfl)) hHeld ?_
                  refine one_ (i := 9) (N := some 70) #[true, true, true, true, true, true, true, true, true, true, false, true, true, true, true, false, false, false] rfl rfl (one_of HT_.out (by kernel_rfl)) (by decide) (fun K hK => ?_)
                  refine gc Try.func35 #[.int .i64 a6] (ints_Point.calls a6 t10014 t10015 t10016 _ A34.out) ?_
                  intro w55 hb
                  replace BK10001 := kb BK10001 hb
                  replace BK10002 := kb BK10002 hb
                  replace BK10003 := kb BK10003 hb
                  replace BK10004 := kb BK10004 hb
                  replace HB := kh HB hb
                  (try clear hb)
                  refine hK.out _ _ ⟨bc BK10001 0, bc BK10001 1, bc BK10001 2, bc BK10001 3, bc BK10001 4, bc BK10001 5⟩ (fun hHeld => ?_)
                  clear hK K
                  refine nrm (some 70) ?_
                  refine one_ (i := 10) (N := some 71) #[true, true, true, true, true, true, true, true, true, true, true, true, true, true, true, false, false, false] rfl rfl (one_of HT_.out (by kernel_rfl)) (by decide) (fun K hK => ?_)
                  refine gc Try.func17 #[.agg #[.bool a0_0, .int .i64 a0_1, .int .i64 a0_2, .bool a0_3, .int .i64 a0_4, .int .i64 a0_5], .agg #[.bool t10014, .int .i64 t10015, .int .i64 t10016]] (clock_Move.calls kj10 a0_0 a0_1 a0_2 a0_3 a0_4 a0_5 t10014 t10015 t10016 t10017 t10018 t10019 t10020 t10021 t10022 _ A35.out) ?_
                  intro w56 hb
                  replace BK10001 := kb BK10001 hb
                  replace BK10002 := kb BK10002 hb
                  replace BK10003 := kb BK10003 hb
                  replace BK10004 := kb BK10004 hb
                  replace HB := kh HB hb
                  (try clear hb)
                  refine hK.out _ _ ⟨bc BK10001 0, bc BK10001 1, bc BK10001 2, bc BK10001 3, bc BK10001 4, bc BK10001 5⟩ (fun hHeld => ?_)
                  clear hK K
                  refine nrm (some 71) ?_
                  refine one_ (i := 15) (N := some 76) #[true, true, true, true, true, true, true, true, true, true, true, true, true, true, true, true, false, false] rfl rfl (one_of HT_.out (by kernel_rfl)) (by decide) (fun K hK => ?_)
                  refine gc Try.func33 #[.agg #[.bool t10017, .int .i64 t10018, .int .i64 t10019, .bool t10020, .int .i64 t10021, .int .i64 t10022], .int .i64 (wrap64 (a4 + a6)), .int .i64 a5] (clock_Has.calls kj10 t10017 t10018 t10019 t10020 t10021 t10022 (wrap64 (a4 + a6)) a5 t10023 _ A36.out) ?_
                  intro w57 hb
                  replace BK10001 := kb BK10001 hb
                  replace BK10002 := kb BK10002 hb
                  replace BK10003 := kb BK10003 hb
                  replace BK10004 := kb BK10004 hb
                  replace HB := kh HB hb
                  (try clear hb)
                  refine hK.out _ _ ⟨bc BK10001 0, bc BK10001 1, bc BK10001 2, bc BK10001 3, bc BK10001 4, bc BK10001 5⟩ (fun hHeld => ?_)
                  clear hK K
                  refine nrm (some 76) ?_
                  refine pur 16 (some 77) #[true, true, true, true, true, true, true, true, true, true, true, true, true, true, true, true, true, false] (any_of HT_.out (by kernel_rfl)) ?_
                  refine pur 17 (some 18) #[true, true, true, true, true, true, true, true, true, true, true, true, true, true, true, true, true, true] (any_of HT_.out (by kernel_rfl)) ?_
                  refine done_ (done_of HT_.out (by kernel_rfl)) ?_
                  have hnb58 := NB10001_10002.out
                  have hnc58 := NB10002_10001.out
                  have hnb59 := NB10001_10003.out
                  have hnc59 := NB10003_10001.out
                  have hnb60 := NB10001_10004.out
                  have hnc60 := NB10004_10001.out
                  have ⟨hcz61_0, hcz61_1, hcz61_2, hcz61_3, hcz61_4, hcz61_5, hfz61_0, hfz61_1, hfz61_2, hfz61_3, hfz61_4, hfz61_5⟩ := kz6f BK10001
                  have hnb62 := NB10002_10003.out
                  have hnc62 := NB10003_10002.out
                  have hnb63 := NB10002_10004.out
                  have hnc63 := NB10004_10002.out
                  have ⟨hcz64_0, hcz64_1, hcz64_2, hcz64_3, hcz64_4, hcz64_5, hfz64_0, hfz64_1, hfz64_2, hfz64_3, hfz64_4, hfz64_5⟩ := kz6f BK10002
                  try go_wp2_with (first | ((with_reducible refine gate_callee (f := 26) rfl ?_); refine kc (some 80) Try.func26 #[.agg #[.bool a0_0, .int .i64 a0_1, .int .i64 a0_2, .bool a0_3, .int .i64 a0_4, .int .i64 a0_5], .agg #[.bool a1_0, .int .i64 a1_1, .int .i64 a1_2, .bool a1_3, .int .i64 a1_4, .int .i64 a1_5]] (clock_Join.calls kj10 a0_0 a0_1 a0_2 a0_3 a0_4 a0_5 a1_0 a1_1 a1_2 a1_3 a1_4 a1_5 t10024 t10025 t10026 t10027 t10028 t10029 _ A37.out) ?_; intro w65 hb; replace BK10001 := kb BK10001 hb; replace BK10002 := kb BK10002 hb; replace BK10003 := kb BK10003 hb; replace BK10004 := kb BK10004 hb; replace HB := kh HB hb; (try clear hb)) | ((with_reducible refine gate_callee (f := 33) rfl ?_); refine kc (some 83) Try.func33 #[.agg #[.bool t10024, .int .i64 t10025, .int .i64 t10026, .bool t10027, .int .i64 t10028, .int .i64 t10029], .int .i64 a4, .int .i64 a5] (clock_Has.calls kj10 t10024 t10025 t10026 t10027 t10028 t10029 a4 a5 true _ A38.out) ?_; intro w66 hb; replace BK10001 := kb BK10001 hb; replace BK10002 := kb BK10002 hb; replace BK10003 := kb BK10003 hb; replace BK10004 := kb BK10004 hb; replace HB := kh HB hb; (try clear hb); have ⟨hcz67_0, hcz67_1, hcz67_2, hcz67_3, hcz67_4, hcz67_5, hfz67_0, hfz67_1, hfz67_2, hfz67_3, hfz67_4, hfz67_5⟩ := kz6f BK10002; have ⟨hcz68_0, hcz68_1, hcz68_2, hcz68_3, hcz68_4, hcz68_5, hfz68_0, hfz68_1, hfz68_2, hfz68_3, hfz68_4, hfz68_5⟩ := kz6f BK10001) | (go_at_call 26; (with_reducible refine (clock_Join.calls kj10 a1_0 a1_1 a1_2 a1_3 a1_4 a1_5 a0_0 a0_1 a0_2 a0_3 a0_4 a0_5 t10031 t10032 t10033 t10034 t10035 t10036 _ A40.out).mono ?_); rintro e w69 ⟨rfl, hb⟩; replace BK10001 := kb BK10001 hb; replace BK10002 := kb BK10002 hb; replace BK10003 := kb BK10003 hb; replace BK10004 := kb BK10004 hb; replace HB := kh HB hb; (try clear hb)) | (go_at_call 33; (with_reducible refine (clock_Has.calls kj10 t10031 t10032 t10033 t10034 t10035 t10036 a4 a5 true _ A41.out).mono ?_); rintro e w70 ⟨rfl, hb⟩; replace BK10001 := kb BK10001 hb; replace BK10002 := kb BK10002 hb; replace BK10003 := kb BK10003 hb; replace BK10004 := kb BK10004 hb; replace HB := kh HB hb; (try clear hb); have ⟨hcz71_0, hcz71_1, hcz71_2, hcz71_3, hcz71_4, hcz71_5, hfz71_0, hfz71_1, hfz71_2, hfz71_3, hfz71_4, hfz71_5⟩ := kz6f BK10001; have ⟨hcz72_0, hcz72_1, hcz72_2, hcz72_3, hcz72_4, hcz72_5, hfz72_0, hfz72_1, hfz72_2, hfz72_3, hfz72_4, hfz72_5⟩ := kz6f BK10002) | (go_at_call 29; (with_reducible refine (clock_Widen.calls kj10 a0_0 a0_1 a0_2 a0_3 a0_4 a0_5 a1_0 a1_1 a1_2 a1_3 a1_4 a1_5 _ _ l7 t10038 t10039 t10040 t10041 t10042 t10043 _ ?side1 ?side2 A43.out).mono ?_); (case side1 => repeat (first | exact (Kd.C_below HR7.out HB.out) | (with_reducible refine Kd.C_alloc ?_ _) | (with_reducible refine Kd.C_drewN ?_ _) | (with_reducible refine Kd.C_drew ?_))); (case side2 => exact HC7.out); rintro e w73 ⟨rfl, hb⟩; replace BK10001 := kb BK10001 hb; replace BK10002 := kb BK10002 hb; replace BK10003 := kb BK10003 hb; replace BK10004 := kb BK10004 hb; replace HB := kh HB hb; (try clear hb)) | (go_at_call 33; (with_reducible refine (clock_Has.calls kj10 t10038 t10039 t10040 t10041 t10042 t10043 a4 a5 true _ A44.out).mono ?_); rintro e w74 ⟨rfl, hb⟩; replace BK10001 := kb BK10001 hb; replace BK10002 := kb BK10002 hb; replace BK10003 := kb BK10003 hb; replace BK10004 := kb BK10004 hb; replace HB := kh HB hb; (try clear hb); have ⟨hcz75_0, hcz75_1, hcz75_2, hcz75_3, hcz75_4, hcz75_5, hfz75_0, hfz75_1, hfz75_2, hfz75_3, hfz75_4, hfz75_5⟩ := kz6f BK10002; have ⟨hcz76_0, hcz76_1, hcz76_2, hcz76_3, hcz76_4, hcz76_5, hfz76_0, hfz76_1, hfz76_2, hfz76_3, hfz76_4, hfz76_5⟩ := kz6f BK10001) | (go_at_call 29; (with_reducible refine (clock_Widen.calls kj10 a1_0 a1_1 a1_2 a1_3 a1_4 a1_5 a0_0 a0_1 a0_2 a0_3 a0_4 a0_5 _ _ l7 t10045 t10046 t10047 t10048 t10049 t10050 _ ?side1 ?side2 A46.out).mono ?_); (case side1 => repeat (first | exact (Kd.C_below HR7.out HB.out) | (with_reducible refine Kd.C_alloc ?_ _) | (with_reducible refine Kd.C_drewN ?_ _) | (with_reducible refine Kd.C_drew ?_))); (case side2 => exact HC7.out); rintro e w77 ⟨rfl, hb⟩; replace BK10001 := kb BK10001 hb; replace BK10002 := kb BK10002 hb; replace BK10003 := kb BK10003 hb; replace BK10004 := kb BK10004 hb; replace HB := kh HB hb; (try clear hb)) | (go_at_call 33; (with_reducible refine (clock_Has.calls kj10 t10045 t10046 t10047 t10048 t10049 t10050 a4 a5 t10051 _ A47.out).mono ?_); rintro e w78 ⟨rfl, hb⟩; replace BK10001 := kb BK10001 hb; replace BK10002 := kb BK10002 hb; replace BK10003 := kb BK10003 hb; replace BK10004 := kb BK10004 hb; replace HB := kh HB hb; (try clear hb)))
                  replace BK10001 := Aside0.mk (blk_drew BK10001.out)
                  replace BK10002 := Aside0.mk (blk_drew BK10002.out)
                  replace BK10003 := Aside0.mk (blk_drew BK10003.out)
                  replace BK10004 := Aside0.mk (blk_drew BK10004.out)
                  replace HB := Aside0.mk (below_drew1 HB.out)
                  refine start_ (n := 12) (S := fun w' => w'.cell? ⟨gb10001, 0, none⟩ = some (.bool a0_0) ∧ w'.cell? ⟨gb10001, 1, none⟩ = some (.int .i64 a0_1) ∧ w'.cell? ⟨gb10001, 2, none⟩ = some (.int .i64 a0_2) ∧ w'.cell? ⟨gb10001, 3, none⟩ = some (.bool a0_3) ∧ w'.cell? ⟨gb10001, 4, none⟩ = some (.int .i64 a0_4) ∧ w'.cell? ⟨gb10001, 5, none⟩ = some (.int .i64 a0_5) ∧ w'.cell? ⟨gb10002, 0, none⟩ = some (.bool a1_0) ∧ w'.cell? ⟨gb10002, 1, none⟩ = some (.int .i64 a1_1) ∧ w'.cell? ⟨gb10002, 2, none⟩ = some (.int .i64 a1_2) ∧ w'.cell? ⟨gb10002, 3, none⟩ = some (.bool a1_3) ∧ w'.cell? ⟨gb10002, 4, none⟩ = some (.int .i64 a1_4) ∧ w'.cell? ⟨gb10002, 5, none⟩ = some (.int .i64 a1_5)) (ds := []) #[false, false, false, false, false, false, false, false, false, false, false, false] (by kernel_rfl) rfl rfl ⟨bc BK10001 0, bc BK10001 1, bc BK10001 2, bc BK10001 3, bc BK10001 4, bc BK10001 5, bc BK10002 0, bc BK10002 1, bc BK10002 2, bc BK10002 3, bc BK10002 4, bc BK10002 5⟩ (fun hHeld => ?_); refine with_tabW flyballlaw21_ClockSound.tab8 flyballlaw21_ClockSound.bits8 (fun HT_ HW_ => ?_)
                  generalize w78.drew = w79 at BK10001 BK10002 BK10003 BK10004 HB hHeld ⊢
                  refine pur 3 (some 113) #[false, false, false, true, false, false, false, false, false, false, false, false] (any_of HT_.out (by kernel_rfl)) ?_
                  refine pur 4 (some 114) #[false, false, false, true, true, false, false, false, false, false, false, false] (any_of HT_.out (by kernel_rfl)) ?_
                  refine pur 7 (some 117) #[false, false, false, true, true, false, false, true, false, false, false, false] (any_of HT_.out (by kernel_rfl)) ?_
                  refine pur 8 (some 118) #[false, false, false, true, true, false, false, true, true, false, false, false] (any_of HT_.out (by kernel_rfl)) ?_
                  refine tak 0 (some 110) #[true, false, false, true, true, false, false, true, true, false, false, false] (take_ofW HT_.out HW_.out (by kernel_rfl)) hHeld ?_
                  refine tak 1 (some 111) #[true, true, false, true, true, false, false, true, true, false, false, false] (take_ofW HT_.out HW_.out (by kernel_rfl)) hHeld ?_
                  refine tak 6 (some 116) #[true, true, false, true, true, false, true, true, true, false, false, false] (take_ofW HT_.out HW_.out (by kernel_rfl)) hHeld ?_
                  refine one_ (i := 2) (N := some 112) #[true, true, true, true, true, false, true, true, true, false, false, false] rfl rfl (one_of HT_.out (by kernel_rfl)) (by decide) (fun K hK => ?_)
                  refine gc Try.func28 #[.agg #[.bool a0_0, .int .i64 a0_1, .int .i64 a0_2, .bool a0_3, .int .i64 a0_4, .int .i64 a0_5], .agg #[.bool a1_0, .int .i64 a1_1, .int .i64 a1_2, .bool a1_3, .int .i64 a1_4, .int .i64 a1_5]] (clock_Meet.calls kj10 a0_0 a0_1 a0_2 a0_3 a0_4 a0_5 a1_0 a1_1 a1_2 a1_3 a1_4 a1_5 t10052 t10053 t10054 t10055 t10056 t10057 _ A48.out) ?_
                  intro w80 hb
                  replace BK10001 := kb BK10001 hb
                  replace BK10002 := kb BK10002 hb
                  replace BK10003 := kb BK10003 hb
                  replace BK10004 := kb BK10004 hb
                  replace HB := kh HB hb
                  (try clear hb)
                  refine hK.out _ _ ⟨bc BK10001 0, bc BK10001 1, bc BK10001 2, bc BK10001 3, bc BK10001 4, bc BK10001 5, bc BK10002 0, bc BK10002 1, bc BK10002 2, bc BK10002 3, bc BK10002 4, bc BK10002 5⟩ (fun hHeld => ?_)
                  clear hK K
                  refine nrm (some 112) ?_
                  refine one_ (i := 5) (N := some 115) #[true, true, true, true, true, true, true, true, true, false, false, false] rfl rfl (one_of HT_.out (by kernel_rfl)) (by decide) (fun K hK => ?_)
                  refine gc Try.func33 #[.agg #[.bool t10052, .int .i64 t10053, .int .i64 t10054, .bool t10055, .int .i64 t10056, .int .i64 t10057], .int .i64 a4, .int .i64 a5] (clock_Has.calls kj10 t10052 t10053 t10054 t10055 t10056 t10057 a4 a5 t10058 _ A49.out) ?_
                  intro w81 hb
                  replace BK10001 := kb BK10001 hb
                  replace BK10002 := kb BK10002 hb
                  replace BK10003 := kb BK10003 hb
                  replace BK10004 := kb BK10004 hb
                  replace HB := kh HB hb
                  (try clear hb)
                  refine hK.out _ _ ⟨bc BK10001 0, bc BK10001 1, bc BK10001 2, bc BK10001 3, bc BK10001 4, bc BK10001 5, bc BK10002 0, bc BK10002 1, bc BK10002 2, bc BK10002 3, bc BK10002 4, bc BK10002 5⟩ (fun hHeld => ?_)
                  clear hK K
                  refine nrm (some 115) ?_
                  refine one_ (i := 9) (N := some 119) #[true, true, true, true, true, true, true, true, true, true, false, false] rfl rfl (one_of HT_.out (by kernel_rfl)) (by decide) (fun K hK => ?_)
                  refine gc Try.func33 #[.agg #[.bool a1_0, .int .i64 a1_1, .int .i64 a1_2, .bool a1_3, .int .i64 a1_4, .int .i64 a1_5], .int .i64 a4, .int .i64 a5] (clock_Has.calls kj10 a1_0 a1_1 a1_2 a1_3 a1_4 a1_5 a4 a5 t10059 _ A50.out) ?_
                  intro w82 hb
                  replace BK10001 := kb BK10001 hb
                  replace BK10002 := kb BK10002 hb
                  replace BK10003 := kb BK10003 hb
                  replace BK10004 := kb BK10004 hb
                  replace HB := kh HB hb
                  (try clear hb)
                  refine hK.out _ _ ⟨bc BK10001 0, bc BK10001 1, bc BK10001 2, bc BK10001 3, bc BK10001 4, bc BK10001 5, bc BK10002 0, bc BK10002 1, bc BK10002 2, bc BK10002 3, bc BK10002 4, bc BK10002 5⟩ (fun hHeld => ?_)
                  clear hK K
                  refine nrm (some 119) ?_
                  refine pur 10 (some 120) #[true, true, true, true, true, true, true, true, true, true, true, false] (any_of HT_.out (by kernel_rfl)) ?_
                  refine pur 11 (some 20) #[true, true, true, true, true, true, true, true, true, true, true, true] (any_of HT_.out (by kernel_rfl)) ?_
                  refine done_ (done_of HT_.out (by kernel_rfl)) ?_
                  go_upto_region 9 with (fail)
                  go_cut [21] (fun v21 wc => ∃ (kq : Nat) (x21_50 : Bool), v21 = .bool x21_50 ∧ Aside0 (flyballlaw21_ClockSound.j1 kq a4 a5 true t10023 t10051 (t10058 == t10059) x21_50 a0_0 a0_1 a0_2 a0_3 a0_4 a0_5 a2_0 a2_1 a2_2 a3_0 a3_1 a3_2 = some r) ∧ Aside0 (kq ≤ kj10) ∧ Aside0 (wc.heap[gb10001]? = some (.cells #[.bool a0_0, .int .i64 a0_1, .int .i64 a0_2, .bool a0_3, .int .i64 a0_4, .int .i64 a0_5] 25 (0, 0))) ∧ Aside0 (wc.heap[gb10002]? = some (.cells #[.bool a1_0, .int .i64 a1_1, .int .i64 a1_2, .bool a1_3, .int .i64 a1_4, .int .i64 a1_5] 25 (0, 0))) ∧ Aside0 (wc.heap[gb10003]? = some (.cells #[.bool a2_0, .int .i64 a2_1, .int .i64 a2_2] 23 (0, 0))) ∧ Aside0 (wc.heap[gb10004]? = some (.cells #[.bool a3_0, .int .i64 a3_1, .int .i64 a3_2] 23 (0, 0))) ∧ Aside0 (Below w.heap.size w wc))
                  case first =>
                    have H := HC51.out
                    clear HC51
                    obtain ⟨t10060, A830, H⟩ := Option.bind_eq_some_iff.mp H
                    have A83 := Aside0.mk A830
                    clear A830
                    (try dsimp only at H)
                    by_cases c84 : t10060 = true
                    · subst c84
                      rw [if_pos rfl] at H
                      obtain ⟨t10061, A850, H⟩ := Option.bind_eq_some_iff.mp H
                      have A85 := Aside0.mk A850
                      clear A850
                      (try dsimp only at H)
                      have H' := Aside0.mk H
                      clear H
                      have hnb86 := NB10003_10001.out
                      have hnc86 := NB10001_10003.out
                      have hnb87 := NB10003_10002.out
                      have hnc87 := NB10002_10003.out
                      have hnb88 := NB10003_10004.out
                      have hnc88 := NB10004_10003.out
                      have ⟨hcz89_0, hcz89_1, hcz89_2, hfz89_0, hfz89_1, hfz89_2⟩ := kz3f BK10003
                      go_wp2_with (first | ((with_reducible refine gate_callee (f := 36) rfl ?_); refine kc (some 123) Try.func36 #[.agg #[.bool a2_0, .int .i64 a2_1, .int .i64 a2_2], .int .i64 a4] (ints_Has.calls a2_0 a2_1 a2_2 a4 true _ A83.out) ?_; intro w90 hb; replace BK10001 := kb BK10001 hb; replace BK10002 := kb BK10002 hb; replace BK10003 := kb BK10003 hb; replace BK10004 := kb BK10004 hb; replace HB := kh HB hb; (try clear hb); have hnb91 := NB10004_10001.out; have hnc91 := NB10001_10004.out; have hnb92 := NB10004_10002.out; have hnc92 := NB10002_10004.out; have ⟨hcz93_0, hcz93_1, hcz93_2, hfz93_0, hfz93_1, hfz93_2⟩ := kz3f BK10004) | (go_at_call 36; (with_reducible refine (ints_Has.calls a3_0 a3_1 a3_2 a5 t10061 _ A85.out).mono ?_); rintro e w94 ⟨rfl, hb⟩; replace BK10001 := kb BK10001 hb; replace BK10002 := kb BK10002 hb; replace BK10003 := kb BK10003 hb; replace BK10004 := kb BK10004 hb; replace HB := kh HB hb; (try clear hb)))
                      go_meet
                      case rel => exact ⟨_, (t10061), (by first | rfl | (simp; done) | (simp [*]; done)), H', ⟨by have := HJ10.out; first | omega | exact Nat.le_refl _⟩, ⟨pk BK10001⟩, ⟨pk BK10002⟩, ⟨pk BK10003⟩, ⟨pk BK10004⟩, ⟨pl HB⟩⟩
                    · replace c84 := Bool.eq_false_iff.mpr c84
                      subst c84
                      rw [if_neg (show ¬ (false = true) by decide)] at H
                      have H' := Aside0.mk H
                      clear H
                      have hnb95 := NB10003_10001.out
                      have hnc95 := NB10001_10003.out
                      have hnb96 := NB10003_10002.out
                      have hnc96 := NB10002_10003.out
                      have hnb97 := NB10003_10004.out
                      have hnc97 := NB10004_10003.out
                      have ⟨hcz98_0, hcz98_1, hcz98_2, hfz98_0, hfz98_1, hfz98_2⟩ := kz3f BK10003
                      go_wp2_with (first | ((with_reducible refine gate_callee (f := 36) rfl ?_); refine kc (some 123) Try.func36 #[.agg #[.bool a2_0, .int .i64 a2_1, .int .i64 a2_2], .int .i64 a4] (ints_Has.calls a2_0 a2_1 a2_2 a4 false _ A83.out) ?_; intro w99 hb; replace BK10001 := kb BK10001 hb; replace BK10002 := kb BK10002 hb; replace BK10003 := kb BK10003 hb; replace BK10004 := kb BK10004 hb; replace HB := kh HB hb; (try clear hb)))
                      go_meet
                      case rel => exact ⟨_, (false), (by first | rfl | (simp; done) | (simp [*]; done)), H', ⟨by have := HJ10.out; first | omega | exact Nat.le_refl _⟩, ⟨pk BK10001⟩, ⟨pk BK10002⟩, ⟨pk BK10003⟩, ⟨pk BK10004⟩, ⟨pl HB⟩⟩
                  case rest =>
                    clear HC51
                    try clear c1
                    try clear c2
                    try clear p2
                    try clear c3
                    try clear c5
                    try clear c6
                    try clear p6
                    try clear c8
                    try clear c9
                    try clear c17
                    try clear c20
                    try clear c26
                    try clear c28
                    try clear c33
                    try clear c35
                    try clear c36
                    try clear c58
                    try clear c59
                    try clear c60
                    try clear c62
                    try clear c63
                    try clear p64
                    try clear c84
                    try clear c86
                    try clear c87
                    try clear c88
                    try clear c91
                    try clear c92
                    try clear c95
                    try clear c96
                    try clear c97
                    try clear hcz61_0
                    try clear hcz61_1
                    try clear hcz61_2
                    try clear hcz61_3
                    try clear hcz61_4
                    try clear hcz61_5
                    try clear hcz64_0
                    try clear hcz64_1
                    try clear hcz64_2
                    try clear hcz64_3
                    try clear hcz64_4
                    try clear hcz64_5
                    try clear hcz67_0
                    try clear hcz67_1
                    try clear hcz67_2
                    try clear hcz67_3
                    try clear hcz67_4
                    try clear hcz67_5
                    try clear hcz68_0
                    try clear hcz68_1
                    try clear hcz68_2
                    try clear hcz68_3
                    try clear hcz68_4
                    try clear hcz68_5
                    try clear hcz71_0
                    try clear hcz71_1
                    try clear hcz71_2
                    try clear hcz71_3
                    try clear hcz71_4
                    try clear hcz71_5
                    try clear hcz72_0
                    try clear hcz72_1
                    try clear hcz72_2
                    try clear hcz72_3
                    try clear hcz72_4
                    try clear hcz72_5
                    try clear hcz75_0
                    try clear hcz75_1
                    try clear hcz75_2
                    try clear hcz75_3
                    try clear hcz75_4
                    try clear hcz75_5
                    try clear hcz76_0
                    try clear hcz76_1
                    try clear hcz76_2
                    try clear hcz76_3
                    try clear hcz76_4
                    try clear hcz76_5
                    try clear hcz89_0
                    try clear hcz89_1
                    try clear hcz89_2
                    try clear hcz93_0
                    try clear hcz93_1
                    try clear hcz93_2
                    try clear hcz98_0
                    try clear hcz98_1
                    try clear hcz98_2
                    try clear hfz61_0
                    try clear hfz61_1
                    try clear hfz61_2
                    try clear hfz61_3
                    try clear hfz61_4
                    try clear hfz61_5
                    try clear hfz64_0
                    try clear hfz64_1
                    try clear hfz64_2
                    try clear hfz64_3
                    try clear hfz64_4
                    try clear hfz64_5
                    try clear hfz67_0
                    try clear hfz67_1
                    try clear hfz67_2
                    try clear hfz67_3
                    try clear hfz67_4
                    try clear hfz67_5
                    try clear hfz68_0
                    try clear hfz68_1
                    try clear hfz68_2
                    try clear hfz68_3
                    try clear hfz68_4
                    try clear hfz68_5
                    try clear hfz71_0
                    try clear hfz71_1
                    try clear hfz71_2
                    try clear hfz71_3
                    try clear hfz71_4
                    try clear hfz71_5
                    try clear hfz72_0
                    try clear hfz72_1
                    try clear hfz72_2
                    try clear hfz72_3
                    try clear hfz72_4
                    try clear hfz72_5
                    try clear hfz75_0
                    try clear hfz75_1
                    try clear hfz75_2
                    try clear hfz75_3
                    try clear hfz75_4
                    try clear hfz75_5
                    try clear hfz76_0
                    try clear hfz76_1
                    try clear hfz76_2
                    try clear hfz76_3
                    try clear hfz76_4
                    try clear hfz76_5
                    try clear hfz89_0
                    try clear hfz89_1
                    try clear hfz89_2
                    try clear hfz93_0
                    try clear hfz93_1
                    try clear hfz93_2
                    try clear hfz98_0
                    try clear hfz98_1
                    try clear hfz98_2
                    obtain ⟨kq, x21_50, rfl, HA, HJ50, BK10001, BK10002, BK10003, BK10004, HB⟩ := hcut
                    cases kq with
                    | zero => exact absurd HA.out (by simp [flyballlaw21_ClockSound.j1])
                    | succ kj50 =>
                      have H := HA.out
                      clear HA
                      simp only [flyballlaw21_ClockSound.j1] at H
                      by_cases c100 : x21_50 = true
                      · subst c100
                        rw [if_pos rfl] at H
                        obtain ⟨⟨t10062, t10063, t10064⟩, A1010, H⟩ := Option.bind_eq_some_iff.mp H
                        have A101 := Aside0.mk A1010
                        clear A1010
                        (try dsimp only at H)
                        obtain ⟨t10065, A1020, H⟩ := Option.bind_eq_some_iff.mp H
                        have A102 := Aside0.mk A1020
                        clear A1020
                        (try dsimp only at H)
                        by_cases c103 : t10065 = true
                        · subst c103
                          rw [if_pos rfl] at H
                          obtain ⟨⟨t10066, t10067, t10068, t10069, t10070, t10071⟩, A1040, H⟩ := Option.bind_eq_some_iff.mp H
                          have A104 := Aside0.mk A1040
                          clear A1040
                          (try dsimp only at H)
                          obtain ⟨t10072, A1050, H⟩ := Option.bind_eq_some_iff.mp H
                          have A105 := Aside0.mk A1050
                          clear A1050
                          (try dsimp only at H)
                          by_cases c106 : t10072 = true
                          · subst c106
                            rw [if_pos rfl] at H
                            obtain ⟨⟨t10073, t10074, t10075, t10076, t10077, t10078⟩, A1070, H⟩ := Option.bind_eq_some_iff.mp H
                            have A107 := Aside0.mk A1070
                            clear A1070
                            (try dsimp only at H)
                            obtain ⟨t10079, A1080, H⟩ := Option.bind_eq_some_iff.mp H
                            have A108 := Aside0.mk A1080
                            clear A1080
                            (try dsimp only at H)
                            by_cases c109 : true = true
                            · clear c109
                              (try rw [if_pos rfl] at H)
                              by_cases c110 : t10023 = true
                              · subst c110
                                rw [if_pos rfl] at H
                                by_cases c111 : t10051 = true
                                · subst c111
                                  rw [if_pos rfl] at H
                                  by_cases c112 : (t10058 == t10059) = true
                                  · rw [if_pos c112] at H
                                    have c112b0 : (t10058 == t10059) = true := c112
                                    (try (have c112b1 : decide (t10058 = t10059) = true := by simpa using c112))
                                    (try (have c112b2 : (t10058 == t10059) = true := by simpa using c112))
                                    clear c112
                                    obtain rfl := Option.some.inj H
                                    have hnb113 := NB10003_10001.out
                                    have hnc113 := NB10001_10003.out
                                    have hnb114 := NB10003_10002.out
                                    have hnc114 := NB10002_10003.out
                                    have hnb115 := NB10003_10004.out
                                    have hnc115 := NB10004_10003.out
                                    have hcz116_0 : wc.cell? ⟨gb10003, 0, none⟩ = some (.bool a2_0) := bc BK10003 0
                                    have hcz116_1 : wc.cell? ⟨gb10003, 1, none⟩ = some (.int .i64 a2_1) := bc BK10003 1
                                    have hcz116_2 : wc.cell? ⟨gb10003, 2, none⟩ = some (.int .i64 a2_2) := bc BK10003 2
                                    have hfz116_0 := blk_frozen BK10003.out 0
                                    have hfz116_1 := blk_frozen BK10003.out 1
                                    have hfz116_2 := blk_frozen BK10003.out 2
                                    have hnb117 := NB10001_10002.out
                                    have hnc117 := NB10002_10001.out
                                    have hnb118 := NB10001_10004.out
                                    have hnc118 := NB10004_10001.out
                                    have hcz119_0 : wc.cell? ⟨gb10001, 0, none⟩ = some (.bool a0_0) := bc BK10001 0
                                    have hcz119_1 : wc.cell? ⟨gb10001, 1, none⟩ = some (.int .i64 a0_1) := bc BK10001 1
                                    have hcz119_2 : wc.cell? ⟨gb10001, 2, none⟩ = some (.int .i64 a0_2) := bc BK10001 2
                                    have hcz119_3 : wc.cell? ⟨gb10001, 3, none⟩ = some (.bool a0_3) := bc BK10001 3
                                    have hcz119_4 : wc.cell? ⟨gb10001, 4, none⟩ = some (.int .i64 a0_4) := bc BK10001 4
                                    have hcz119_5 : wc.cell? ⟨gb10001, 5, none⟩ = some (.int .i64 a0_5) := bc BK10001 5
                                    have hfz119_0 := blk_frozen BK10001.out 0
                                    have hfz119_1 := blk_frozen BK10001.out 1
                                    have hfz119_2 := blk_frozen BK10001.out 2
                                    have hfz119_3 := blk_frozen BK10001.out 3
                                    have hfz119_4 := blk_frozen BK10001.out 4
                                    have hfz119_5 := blk_frozen BK10001.out 5
                                    have hnb120 := NB10004_10002.out
                                    have hnc120 := NB10002_10004.out
                                    have hcz121_0 : wc.cell? ⟨gb10004, 0, none⟩ = some (.bool a3_0) := bc BK10004 0
                                    have hcz121_1 : wc.cell? ⟨gb10004, 1, none⟩ = some (.int .i64 a3_1) := bc BK10004 1
                                    have hcz121_2 : wc.cell? ⟨gb10004, 2, none⟩ = some (.int .i64 a3_2) := bc BK10004 2
                                    have hfz121_0 := blk_frozen BK10004.out 0
                                    have hfz121_1 := blk_frozen BK10004.out 1
                                    have hfz121_2 := blk_frozen BK10004.out 2
                                    go_wp2_with (first | (go_at_call 24; (with_reducible refine (clock_Reduce.calls kj50 a2_0 a2_1 a2_2 a0_0 a0_1 a0_2 a0_3 a0_4 a0_5 a3_0 a3_1 a3_2 t10062 t10063 t10064 _ A101.out).mono ?_); rintro e w122 ⟨rfl, hb⟩; replace BK10001 := kb BK10001 hb; replace BK10002 := kb BK10002 hb; replace BK10003 := kb BK10003 hb; replace BK10004 := kb BK10004 hb; replace HB := kh HB hb; (try clear hb)) | (go_at_call 36; (with_reducible refine (ints_Has.calls t10062 t10063 t10064 a4 true _ A102.out).mono ?_); rintro e w123 ⟨rfl, hb⟩; replace BK10001 := kb BK10001 hb; replace BK10002 := kb BK10002 hb; replace BK10003 := kb BK10003 hb; replace BK10004 := kb BK10004 hb; replace HB := kh HB hb; (try clear hb); have ⟨hcz124_0, hcz124_1, hcz124_2, hcz124_3, hcz124_4, hcz124_5, hfz124_0, hfz124_1, hfz124_2, hfz124_3, hfz124_4, hfz124_5⟩ := kz6f BK10001; have ⟨hcz125_0, hcz125_1, hcz125_2, hfz125_0, hfz125_1, hfz125_2⟩ := kz3f BK10003; have ⟨hcz126_0, hcz126_1, hcz126_2, hfz126_0, hfz126_1, hfz126_2⟩ := kz3f BK10004) | (go_at_call 22; (with_reducible refine (clock_Tight.calls kj50 a0_0 a0_1 a0_2 a0_3 a0_4 a0_5 a2_0 a2_1 a2_2 a3_0 a3_1 a3_2 t10066 t10067 t10068 t10069 t10070 t10071 _ A104.out).mono ?_); rintro e w127 ⟨rfl, hb⟩; replace BK10001 := kb BK10001 hb; replace BK10002 := kb BK10002 hb; replace BK10003 := kb BK10003 hb; replace BK10004 := kb BK10004 hb; replace HB := kh HB hb; (try clear hb)) | (go_at_call 33; (with_reducible refine (clock_Has.calls kj50 t10066 t10067 t10068 t10069 t10070 t10071 a4 a5 true _ A105.out).mono ?_); rintro e w128 ⟨rfl, hb⟩; replace BK10001 := kb BK10001 hb; replace BK10002 := kb BK10002 hb; replace BK10003 := kb BK10003 hb; replace BK10004 := kb BK10004 hb; replace HB := kh HB hb; (try clear hb); have ⟨hcz129_0, hcz129_1, hcz129_2, hfz129_0, hfz129_1, hfz129_2⟩ := kz3f BK10003; have ⟨hcz130_0, hcz130_1, hcz130_2, hfz130_0, hfz130_1, hfz130_2⟩ := kz3f BK10004) | (go_at_call 15; (with_reducible refine (clock_Of.calls kj50 a2_0 a2_1 a2_2 a3_0 a3_1 a3_2 t10073 t10074 t10075 t10076 t10077 t10078 _ A107.out).mono ?_); rintro e w131 ⟨rfl, hb⟩; replace BK10001 := kb BK10001 hb; replace BK10002 := kb BK10002 hb; replace BK10003 := kb BK10003 hb; replace BK10004 := kb BK10004 hb; replace HB := kh HB hb; (try clear hb)) | (go_at_call 33; (with_reducible refine (clock_Has.calls kj50 t10073 t10074 t10075 t10076 t10077 t10078 a4 a5 t10079 _ A108.out).mono ?_); rintro e w132 ⟨rfl, hb⟩; replace BK10001 := kb BK10001 hb; replace BK10002 := kb BK10002 hb; replace BK10003 := kb BK10003 hb; replace BK10004 := kb BK10004 hb; replace HB := kh HB hb; (try clear hb)))
                                    go_ret
                                    exact ⟨pe, pl HB⟩
                                  · rw [if_neg c112] at H
                                    exact absurd H (by simp)
                                · replace c111 := Bool.eq_false_iff.mpr c111
                                  subst c111
                                  rw [if_neg (show ¬ (false = true) by decide)] at H
                                  exact absurd H (by simp)
                              · replace c110 := Bool.eq_false_iff.mpr c110
                                subst c110
                                rw [if_neg (show ¬ (false = true) by decide)] at H
                                exact absurd H (by simp)
                            · exact absurd rfl c109
                          · replace c106 := Bool.eq_false_iff.mpr c106
                            subst c106
                            rw [if_neg (show ¬ (false = true) by decide)] at H
                            exact absurd H (by simp)
                        · replace c103 := Bool.eq_false_iff.mpr c103
                          subst c103
                          rw [if_neg (show ¬ (false = true) by decide)] at H
                          exact absurd H (by simp)
                      · replace c100 := Bool.eq_false_iff.mpr c100
                        subst c100
                        rw [if_neg (show ¬ (false = true) by decide)] at H
                        by_cases c133 : true = true
                        · clear c133
                          (try rw [if_pos rfl] at H)
                          by_cases c134 : t10023 = true
                          · subst c134
                            rw [if_pos rfl] at H
                            by_cases c135 : t10051 = true
                            · subst c135
                              rw [if_pos rfl] at H
                              by_cases c136 : (t10058 == t10059) = true
                              · rw [if_pos c136] at H
                                have c136b0 : (t10058 == t10059) = true := c136
                                (try (have c136b1 : decide (t10058 = t10059) = true := by simpa using c136))
                                (try (have c136b2 : (t10058 == t10059) = true := by simpa using c136))
                                clear c136
                                obtain rfl := Option.some.inj H
                                go_wp2
                                go_ret
                                exact ⟨pe, pl HB⟩
                              · rw [if_neg c136] at H
                                exact absurd H (by simp)
                            · replace c135 := Bool.eq_false_iff.mpr c135
                              subst c135
                              rw [if_neg (show ¬ (false = true) by decide)] at H
                              exact absurd H (by simp)
                          · replace c134 := Bool.eq_false_iff.mpr c134
                            subst c134
                            rw [if_neg (show ¬ (false = true) by decide)] at H
                            exact absurd H (by simp)
                        · exact absurd rfl c133
                · replace c45 := Bool.eq_false_iff.mpr c45
                  subst c45
                  rw [if_neg (show ¬ (false = true) by decide)] at H
                  exact absurd H (by simp)
              · replace c42 := Bool.eq_false_iff.mpr c42
                subst c42
                rw [if_neg (show ¬ (false = true) by decide)] at H
                exact absurd H (by simp)
            · replace c39 := Bool.eq_false_iff.mpr c39
              subst c39
              rw [if_neg (show ¬ (false = true) by decide)] at H
              exact absurd H (by simp)
          · replace c33 := Bool.eq_false_iff.mpr c33
            subst c33
            rw [if_neg (show ¬ (false = true) by decide)] at H
            exact absurd H (by simp)
  · replace c10 := Bool.eq_false_iff.mpr c10
    subst c10
    rw [if_neg (show ¬ (false = true) by decide)] at H
    obtain rfl := Option.some.inj H
    go_enter Try.func5, Try.ntmps5
    go_wp2_with (first | ((with_reducible refine gate_dst (N := 8) rfl ?_); refine kx 8 #[.bool a0_0, .int .i64 a0_1, .int .i64 a0_2, .bool a0_3, .int .i64 a0_4, .int .i64 a0_5] 25 ?_; intro gb10001 hg w137 hbox hb; have BK10001 := Aside0.mk (hbox); have GW10001 := kg HB hg; have GE10001 := kg HB hg; replace HB := kh HB hb; clear hb hbox hg) | ((with_reducible refine gate_dst (N := 9) rfl ?_); refine kx 9 #[.bool a1_0, .int .i64 a1_1, .int .i64 a1_2, .bool a1_3, .int .i64 a1_4, .int .i64 a1_5] 25 ?_; intro gb10002 hg w138 hbox hb; have BK10002 := Aside0.mk (hbox); have GW10002 := kg HB hg; have GE10002 := kg HB hg; have NB10001_10002 := kn BK10001 hg; have NB10002_10001 := km BK10001 hg; replace BK10001 := kb BK10001 hb; replace HB := kh HB hb; clear hb hbox hg) | ((with_reducible refine gate_dst (N := 10) rfl ?_); refine kx 10 #[.bool a2_0, .int .i64 a2_1, .int .i64 a2_2] 23 ?_; intro gb10003 hg w139 hbox hb; have BK10003 := Aside0.mk (hbox); have GW10003 := kg HB hg; have GE10003 := kg HB hg; have NB10001_10003 := kn BK10001 hg; have NB10003_10001 := km BK10001 hg; have NB10002_10003 := kn BK10002 hg; have NB10003_10002 := km BK10002 hg; replace BK10001 := kb BK10001 hb; replace BK10002 := kb BK10002 hb; replace HB := kh HB hb; clear hb hbox hg) | ((with_reducible refine gate_dst (N := 11) rfl ?_); refine kx 11 #[.bool a3_0, .int .i64 a3_1, .int .i64 a3_2] 23 ?_; intro gb10004 hg w140 hbox hb; have BK10004 := Aside0.mk (hbox); have GW10004 := kg HB hg; have GE10004 := kg HB hg; have NB10001_10004 := kn BK10001 hg; have NB10004_10001 := km BK10001 hg; have NB10002_10004 := kn BK10002 hg; have NB10004_10002 := km BK10002 hg; have NB10003_10004 := kn BK10003 hg; have NB10004_10003 := km BK10003 hg; replace BK10001 := kb BK10001 hb; replace BK10002 := kb BK10002 hb; replace BK10003 := kb BK10003 hb; replace HB := kh HB hb; clear hb hbox hg) | ((with_reducible refine gate_callee (f := 13) rfl ?_); refine kc (some 23) Try.func13 #[] (flyballlaw21_works.calls k  false _ A9.out) ?_; intro w141 hb; replace BK10001 := kb BK10001 hb; replace BK10002 := kb BK10002 hb; replace BK10003 := kb BK10003 hb; replace BK10004 := kb BK10004 hb; replace HB := kh HB hb; (try clear hb)))
    go_ret
    exact ⟨pe, pl HB⟩
end Go.Proofs.Ytinmgnlofininaa.PAll
end
