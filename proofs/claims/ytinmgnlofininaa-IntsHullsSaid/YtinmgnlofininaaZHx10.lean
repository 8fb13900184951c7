/- Functions of the print, turned to this claim. -/
import Derived.Test.YtinmgnlofininaaZHW
import Derived.Test.YtinmgnlofininaaZHx0
import Derived.Test.YtinmgnlofininaaZHx1
import Derived.Test.YtinmgnlofininaaZHx3
import Derived.Test.YtinmgnlofininaaZHx4
import Derived.Test.YtinmgnlofininaaZHx5
import Derived.Test.YtinmgnlofininaaZHx6
import Derived.Test.YtinmgnlofininaaZHx8
import Derived.Test.YtinmgnlofininaaZHx9
section
namespace Go.Proofs.Ytinmgnlofininaa.PAll
open Go.RowKit Go.Proofs.YtinmgnlofininaaW.PrintWords Go.Proofs.YtinmgnlofininaaW.PrintLast Go.Proofs.YtinmgnlofininaaW.PrintMore
attribute [local go_sem] max2_int min2_int max_two min_two max_three min_three max_four min_four   -- for this text's walks alone
set_option linter.unusedVariables false
set_option linter.unusedSimpArgs false
attribute [local go_sem high] eqA23
/-! ### flyballlaw17_works: function 38 -/
def flyballlaw17_works.f (k : Nat)  : Option (Bool) := (ints_Make.f 1 2).bind fun bt4151 => ((ints_Make.f (-3) 4).bind fun bt4154 => ((ints_Mul.f k bt4151.1 bt4151.2.1 bt4151.2.2 bt4154.1 bt4154.2.1 bt4154.2.2).bind fun bt4157 => ((ints_Make.f (-7) 7).bind fun bt4161 => ((ints_Make.f (-2) 3).bind fun bt4164 => ((ints_Div.f k bt4161.1 bt4161.2.1 bt4161.2.2 bt4164.1 bt4164.2.1 bt4164.2.2).bind fun bt4167 => ((ints_Point.f 5).bind fun bt4171 => ((ints_Point.f 0).bind fun bt4174 => ((ints_Div.f k bt4171.1 bt4171.2.1 bt4171.2.2 bt4174.1 bt4174.2.1 bt4174.2.2).bind fun bt4177 => ((ints_Make.f 0 3).bind fun bt4181 => ((ints_Point.f 3).bind fun bt4184 => ((ints_Test.f k 12 bt4181.1 bt4181.2.1 bt4181.2.2 bt4184.1 bt4184.2.1 bt4184.2.2).bind fun bt4187 => ((ints_Make.f (-6) 8).bind fun bt4195 => (if (bt4157.1 == bt4195.1 && (bt4157.2.1 == bt4195.2.1 && (bt4157.2.2 == bt4195.2.2))) = true then ((ints_Make.f (-7) 7).bind fun bt4198 => (if (bt4167.1 == bt4198.1 && (bt4167.2.1 == bt4198.2.1 && (bt4167.2.2 == bt4198.2.2))) = true then (if bt4177.1 = true then ((ints_Make.f 0 2).bind fun bt4201 => (if (bt4187.1 == bt4201.1 && (bt4187.2.1 == bt4201.2.1 && (bt4187.2.2.1 == bt4201.2.2))) = true then ((ints_Point.f 3).bind fun bt4204 => (if (bt4187.2.2.2.1 == bt4204.1 && (bt4187.2.2.2.2.1 == bt4204.2.1 && (bt4187.2.2.2.2.2 == bt4204.2.2))) = true then ((ints_Full.f).bind fun bt4207 => ((ints_Make.f (-2147483648) 2147483647).bind fun bt4210 => (if (bt4207.1 == bt4210.1 && (bt4207.2.1 == bt4210.2.1 && (bt4207.2.2 == bt4210.2.2))) = true then ((ints_Has.f bt4157.1 bt4157.2.1 bt4157.2.2 8).bind fun t4213 => (if t4213 = true then ((ints_Has.f bt4157.1 bt4157.2.1 bt4157.2.2 9).bind fun t4214 => (if t4214 = true then (none) else ((ints_Inside.f bt4187.1 bt4187.2.1 bt4187.2.2.1 bt4157.1 bt4157.2.1 bt4157.2.2).bind fun t4215 => (if t4215 = true then ((ints_Join.f k (([(⟨bt4187.1, bt4187.2.1, bt4187.2.2.1⟩ : S23), (⟨bt4187.2.2.2.1, bt4187.2.2.2.2.1, bt4187.2.2.2.2.2⟩ : S23)] : List (S23)))).bind fun bt4219 => ((ints_Make.f 0 3).bind fun bt4222 => (if (bt4219.1 == bt4222.1 && (bt4219.2.1 == bt4222.2.1 && (bt4219.2.2 == bt4222.2.2))) = true then ((ints_Meet.f k bt4157.1 bt4157.2.1 bt4157.2.2 bt4187.2.2.2.1 bt4187.2.2.2.2.1 bt4187.2.2.2.2.2).bind fun bt4225 => (if (bt4225.1 == bt4187.2.2.2.1 && (bt4225.2.1 == bt4187.2.2.2.2.1 && (bt4225.2.2 == bt4187.2.2.2.2.2))) = true then ((ints_Abs.f k bt4157.1 bt4157.2.1 bt4157.2.2).bind fun bt4228 => ((ints_Make.f 0 8).bind fun bt4231 => (if (bt4228.1 == bt4231.1 && (bt4228.2.1 == bt4231.2.1 && (bt4228.2.2 == bt4231.2.2))) = true then ((ints_Neg.f bt4157.1 bt4157.2.1 bt4157.2.2).bind fun bt4234 => ((ints_Make.f (-8) 6).bind fun bt4237 => (if (bt4234.1 == bt4237.1 && (bt4234.2.1 == bt4237.2.1 && (bt4234.2.2 == bt4237.2.2))) = true then ((ints_Add.f k bt4187.1 bt4187.2.1 bt4187.2.2.1 bt4187.2.2.2.1 bt4187.2.2.2.2.1 bt4187.2.2.2.2.2).bind fun bt4240 => ((ints_Make.f 3 5).bind fun bt4243 => (if (bt4240.1 == bt4243.1 && (bt4240.2.1 == bt4243.2.1 && (bt4240.2.2 == bt4243.2.2))) = true then ((ints_Sub.f k bt4187.1 bt4187.2.1 bt4187.2.2.1 bt4187.2.2.2.1 bt4187.2.2.2.2.1 bt4187.2.2.2.2.2).bind fun bt4246 => ((ints_Make.f (-3) (-1)).bind fun bt4249 => (some (bt4246.1 == bt4249.1 && (bt4246.2.1 == bt4249.2.1 && (bt4246.2.2 == bt4249.2.2)))))) else (none)))) else (none)))) else (none)))) else (none))) else (none)))) else (none))))) else (none))) else (none)))) else (none))) else (none))) else (none)) else (none))) else (none))))))))))))))
theorem flyballlaw17_works.mono : ∀ k, LeO (flyballlaw17_works.f k ) (flyballlaw17_works.f (k + 1) ) := by
  intro  k
  unfold flyballlaw17_works.f
  repeat' first
      | (with_reducible exact ints_Abs.mono _ _ _ _)
      | (with_reducible exact ints_Add.mono _ _ _ _ _ _ _)
      | (with_reducible exact ints_Div.mono _ _ _ _ _ _ _)
      | (with_reducible exact ints_Join.mono _ _)
      | (with_reducible exact ints_Meet.mono _ _ _ _ _ _ _)
      | (with_reducible exact ints_Mul.mono _ _ _ _ _ _ _)
      | (with_reducible exact ints_Sub.mono _ _ _ _ _ _ _)
      | (with_reducible exact ints_Test.mono _ _ _ _ _ _ _ _)
      | (with_reducible exact LeO.refl _)
      | (with_reducible exact LeO.none _)
      | (with_reducible refine LeO.ite ?_ ?_)
      | (with_reducible refine LeO.bind ?_ (fun _ => ?_))
      | exact ints_Abs.mono _ _ _ _
      | exact ints_Add.mono _ _ _ _ _ _ _
      | exact ints_Div.mono _ _ _ _ _ _ _
      | exact ints_Join.mono _ _
      | exact ints_Meet.mono _ _ _ _ _ _ _
      | exact ints_Mul.mono _ _ _ _ _ _ _
      | exact ints_Sub.mono _ _ _ _ _ _ _
      | exact ints_Test.mono _ _ _ _ _ _ _ _
      | exact LeO.none _
      | refine LeO.ite ?_ ?_
      | refine LeO.bind ?_ (fun _ => ?_)
def flyballlaw17_works.T5 : Bool × List (List Nat × List Nat) := (true, [([], []), ([], []), ([0, 1], [0, 1]), ([2, 1], [2]), ([3], [3]), ([3, 3], [3]), ([4, 5, 3], [3, 4, 5]), ([3, 6], [3, 6]), ([7, 5], [7]), ([8], [8]), ([9, 8], [8, 9]), ([8, 10], [8, 10]), ([11, 8], [11]), ([12], [12]), ([12, 12], [12]), ([13, 14, 12], [12, 13, 14]), ([12, 15], [12, 15]), ([16, 14], [16]), ([17], [17]), ([17, 17], [17]), ([18, 19, 17], [17, 18, 19]), ([17, 20], [17, 20]), ([21, 19], [21]), ([22, 22], [22]), ([23, 22], [22]), ([23, 24, 22], [22, 23, 24]), ([22, 25], [22, 25]), ([26, 24], [26]), ([27], [27]), ([28, 27, 27], [27, 28]), ([27, 29], [27, 29]), ([30, 29], [30]), ([31], [31]), ([32, 31, 31], [31, 32]), ([33, 31], [31, 33]), ([31, 34], [31, 34]), ([35, 33], [35]), ([36], [36]), ([36], [36]), ([37, 38, 36, 36], [36, 37, 38]), ([36, 39], [36, 39]), ([40, 39], [40]), ([41], [41]), ([41], [41]), ([42, 43, 41], [41, 42, 43]), ([44, 41, 41], [41, 44]), ([45, 41], [41]), ([45, 46, 41], [41, 45, 46]), ([41, 47], [41, 47]), ([48, 46], [48]), ([49], [49]), ([49], [49]), ([50, 51, 49, 49], [49, 50, 51]), ([49], [49]), ([52, 53, 49], [49, 52, 53]), ([49, 54], [49, 54]), ([55, 52], [55]), ([56], [56]), ([57, 56, 56], [56, 57]), ([58, 56], [56]), ([58, 59, 56], [56, 58, 59]), ([56, 60], [56, 60]), ([61, 59], [61]), ([62], [62]), ([63, 62, 62], [62, 63]), ([64, 62], [62]), ([64, 65, 62], [62, 64, 65]), ([62, 66], [62, 66]), ([67, 65], [67]), ([68], [68]), ([68], [68]), ([69, 70, 68, 68], [68, 69, 70]), ([71, 68], [68]), ([71, 72, 68], [68, 71, 72]), ([68, 73], [68, 73]), ([74, 72], [74]), ([75], [75]), ([75], [75]), ([76, 77, 75, 75], [75, 76, 77]), ([78, 75], [75]), ([78, 79, 75], [75, 78, 79]), ([75, 80], [75, 80]), ([81, 79, 0, 1, 2, 3, 4, 5, 6, 7, 8, 9, 10, 11, 12, 13, 14, 15, 16, 17, 18, 19, 20, 21, 22, 23, 24, 25, 26, 27, 28, 29, 30, 31, 32, 33, 34, 35, 36, 37, 38, 39, 40, 41, 42, 43, 44, 45, 46, 47, 48, 49, 50, 51, 52, 53, 54, 55, 56, 57, 58, 59, 60, 61, 62, 63, 64, 65, 66, 67, 68, 69, 70, 71, 72, 73, 74, 75, 76, 77, 78, 79, 80, 81], [81])])
def flyballlaw17_works.B5 : List Nat := [0, 0, 3, 7, 15, 15, 63, 127, 255, 511, 1023, 2047, 4095, 8191, 8191, 32767, 65535, 131071, 262143, 262143, 1048575, 2097151, 4194303, 8388607, 16777215, 33554431, 67108863, 134217727, 268435455, 536870911, 1073741823, 2147483647, 4294967295, 8589934591, 17179869183, 34359738367, 68719476735, 137438953471, 137438953471, 549755813887, 1099511627775, 2199023255551, 4398046511103, 4398046511103, 17592186044415, 35184372088831, 70368744177663, 140737488355327, 281474976710655, 562949953421311, 1125899906842623, 1125899906842623, 4503599627370495, 1125899906842623, 18014398509481983, 36028797018963967, 72057594037927935, 144115188075855871, 288230376151711743, 576460752303423487, 1152921504606846975, 2305843009213693951, 4611686018427387903, 9223372036854775807, 18446744073709551615, 36893488147419103231, 73786976294838206463, 147573952589676412927, 295147905179352825855, 590295810358705651711, 590295810358705651711, 2361183241434822606847, 4722366482869645213695, 9444732965739290427391, 18889465931478580854783, 37778931862957161709567, 75557863725914323419135, 75557863725914323419135, 302231454903657293676543, 604462909807314587353087, 1208925819614629174706175, 2417851639229258349412351, 4835703278458516698824703]
theorem flyballlaw17_works.tab5 : rtab .any (opsOf Try.f38 5) = flyballlaw17_works.T5 := by kernel_rfl
theorem flyballlaw17_works.bits5 : waitsOk flyballlaw17_works.T5.2 flyballlaw17_works.B5 = true := by kernel_rfl
set_option maxHeartbeats 8000000 in
set_option maxRecDepth 100000 in
theorem flyballlaw17_works.calls (k : Nat)  (r : Bool) (w : World) (h : flyballlaw17_works.f k  = some r) :
    Calls Try.prog 38 #[] w fun e w' => e = .returned (.bool r) ∧ Below w.heap.size w w' := by
  have hu23 := Try.underlying23
  have HB := Aside0.mk (Below.refl w.heap.size w)
  have H := h
  clear h
  unfold flyballlaw17_works.f at H
  obtain ⟨⟨t4151, t4152, t4153⟩, A10, H⟩ := Option.bind_eq_some_iff.mp H
  have A1 := Aside0.mk A10
  clear A10
  (try dsimp only at H)
  obtain ⟨⟨t4154, t4155, t4156⟩, A20, H⟩ := Option.bind_eq_some_iff.mp H
  have A2 := Aside0.mk A20
  clear A20
  (try dsimp only at H)
  obtain ⟨⟨t4157, t4158, t4159⟩, A30, H⟩ := Option.bind_eq_some_iff.mp H
  have A3 := Aside0.mk A30
  clear A30
  (try dsimp only at H)
  obtain ⟨⟨t4161, t4162, t4163⟩, A40, H⟩ := Option.bind_eq_some_iff.mp H
  have A4 := Aside0.mk A40
  clear A40
  (try dsimp only at H)
  obtain ⟨⟨t4164, t4165, t4166⟩, A50, H⟩ := Option.bind_eq_some_iff.mp H
  have A5 := Aside0.mk A50
  clear A50
  (try dsimp only at H)
  obtain ⟨⟨t4167, t4168, t4169⟩, A60, H⟩ := Option.bind_eq_some_iff.mp H
  have A6 := Aside0.mk A60
  clear A60
  (try dsimp only at H)
  obtain ⟨⟨t4171, t4172, t4173⟩, A70, H⟩ := Option.bind_eq_some_iff.mp H
  have A7 := Aside0.mk A70
  clear A70
  (try dsimp only at H)
  obtain ⟨⟨t4174, t4175, t4176⟩, A80, H⟩ := Option.bind_eq_some_iff.mp H
  have A8 := Aside0.mk A80
  clear A80
  (try dsimp only at H)
  obtain ⟨⟨t4177, t4178, t4179⟩, A90, H⟩ := Option.bind_eq_some_iff.mp H
  have A9 := Aside0.mk A90
  clear A90
  (try dsimp only at H)
  obtain ⟨⟨t4181, t4182, t4183⟩, A100, H⟩ := Option.bind_eq_some_iff.mp H
  have A10 := Aside0.mk A100
  clear A100
  (try dsimp only at H)
  obtain ⟨⟨t4184, t4185, t4186⟩, A110, H⟩ := Option.bind_eq_some_iff.mp H
  have A11 := Aside0.mk A110
  clear A110
  (try dsimp only at H)
  obtain ⟨⟨t4187, t4188, t4189, t4190, t4191, t4192⟩, A120, H⟩ := Option.bind_eq_some_iff.mp H
  have A12 := Aside0.mk A120
  clear A120
  (try dsimp only at H)
  obtain ⟨⟨t4195, t4196, t4197⟩, A130, H⟩ := Option.bind_eq_some_iff.mp H
  have A13 := Aside0.mk A130
  clear A130
  (try dsimp only at H)
  by_cases c14 : (t4157 == t4195 && (t4158 == t4196 && (t4159 == t4197))) = true
  · rw [if_pos c14] at H
    have c14b0 : (t4157 == t4195 && (t4158 == t4196 && (t4159 == t4197))) = true := c14
    (try (have c14b1 : decide (t4157 = t4195 && (t4158 == t4196 && (t4159 == t4197))) = true := by simpa using c14))
    (try (have c14b2 : (t4157 == t4195 && (t4158 == t4196 && (t4159 == t4197))) = true := by simpa using c14))
    clear c14
    obtain ⟨⟨t4198, t4199, t4200⟩, A150, H⟩ := Option.bind_eq_some_iff.mp H
    have A15 := Aside0.mk A150
    clear A150
    (try dsimp only at H)
    by_cases c16 : (t4167 == t4198 && (t4168 == t4199 && (t4169 == t4200))) = true
    · rw [if_pos c16] at H
      have c16b0 : (t4167 == t4198 && (t4168 == t4199 && (t4169 == t4200))) = true := c16
      (try (have c16b1 : decide (t4167 = t4198 && (t4168 == t4199 && (t4169 == t4200))) = true := by simpa using c16))
      (try (have c16b2 : (t4167 == t4198 && (t4168 == t4199 && (t4169 == t4200))) = true := by simpa using c16))
      clear c16
      by_cases c17 : t4177 = true
      · subst c17
        rw [if_pos rfl] at H
        obtain ⟨⟨t4201, t4202, t4203⟩, A180, H⟩ := Option.bind_eq_some_iff.mp H
        have A18 := Aside0.mk A180
        clear A180
        (try dsimp only at H)
        by_cases c19 : (t4187 == t4201 && (t4188 == t4202 && (t4189 == t4203))) = true
        · rw [if_pos c19] at H
          have c19b0 : (t4187 == t4201 && (t4188 == t4202 && (t4189 == t4203))) = true := c19
          (try (have c19b1 : decide (t4187 = t4201 && (t4188 == t4202 && (t4189 == t4203))) = true := by simpa using c19))
          (try (have c19b2 : (t4187 == t4201 && (t4188 == t4202 && (t4189 == t4203))) = true := by simpa using c19))
          clear c19
          obtain ⟨⟨t4204, t4205, t4206⟩, A200, H⟩ := Option.bind_eq_some_iff.mp H
          have A20 := Aside0.mk A200
          clear A200
          (try dsimp only at H)
          by_cases c21 : (t4190 == t4204 && (t4191 == t4205 && (t4192 == t4206))) = true
          · rw [if_pos c21] at H
            have c21b0 : (t4190 == t4204 && (t4191 == t4205 && (t4192 == t4206))) = true := c21
            (try (have c21b1 : decide (t4190 = t4204 && (t4191 == t4205 && (t4192 == t4206))) = true := by simpa using c21))
            (try (have c21b2 : (t4190 == t4204 && (t4191 == t4205 && (t4192 == t4206))) = true := by simpa using c21))
            clear c21
            obtain ⟨⟨t4207, t4208, t4209⟩, A220, H⟩ := Option.bind_eq_some_iff.mp H
            have A22 := Aside0.mk A220
            clear A220
            (try dsimp only at H)
            obtain ⟨⟨t4210, t4211, t4212⟩, A230, H⟩ := Option.bind_eq_some_iff.mp H
            have A23 := Aside0.mk A230
            clear A230
            (try dsimp only at H)
            by_cases c24 : (t4207 == t4210 && (t4208 == t4211 && (t4209 == t4212))) = true
            · rw [if_pos c24] at H
              have c24b0 : (t4207 == t4210 && (t4208 == t4211 && (t4209 == t4212))) = true := c24
              (try (have c24b1 : decide (t4207 = t4210 && (t4208 == t4211 && (t4209 == t4212))) = true := by simpa using c24))
              (try (have c24b2 : (t4207 == t4210 && (t4208 == t4211 && (t4209 == t4212))) = true := by simpa using c24))
              clear c24
              obtain ⟨t4213, A250, H⟩ := Option.bind_eq_some_iff.mp H
              have A25 := Aside0.mk A250
              clear A250
              (try dsimp only at H)
              by_cases c26 : t4213 = true
              · subst c26
                rw [if_pos rfl] at H
                obtain ⟨t4214, A270, H⟩ := Option.bind_eq_some_iff.mp H
                have A27 := Aside0.mk A270
                clear A270
                (try dsimp only at H)
                by_cases c28 : t4214 = true
                · subst c28
                  rw [if_pos rfl] at H
                  exact absurd H (by simp)
                · replace c28 := Bool.eq_false_iff.mpr c28
                  subst c28
                  rw [if_neg (show ¬ (false = true) by decide)] at H
                  obtain ⟨t4215, A290, H⟩ := Option.bind_eq_some_iff.mp H
                  have A29 := Aside0.mk A290
                  clear A290
                  (try dsimp only at H)
                  by_cases c30 : t4215 = true
                  · subst c30
                    rw [if_pos rfl] at H
                    obtain ⟨y4216, hy4216⟩ : ∃ y_ : List (S23), y_ = (([(⟨t4187, t4188, t4189⟩ : S23), (⟨t4190, t4191, t4192⟩ : S23)] : List (S23))) := ⟨_, rfl⟩
                    replace H : ((ints_Join.f k y4216).bind fun bt4219 => ((ints_Make.f 0 3).bind fun bt4222 => (if (bt4219.1 == bt4222.1 && (bt4219.2.1 == bt4222.2.1 && (bt4219.2.2 == bt4222.2.2))) = true then ((ints_Meet.f k t4157 t4158 t4159 t4190 t4191 t4192).bind fun bt4225 => (if (bt4225.1 == t4190 && (bt4225.2.1 == t4191 && (bt4225.2.2 == t4192))) = true then ((ints_Abs.f k t4157 t4158 t4159).bind fun bt4228 => ((ints_Make.f 0 8).bind fun bt4231 => (if (bt4228.1 == bt4231.1 && (bt4228.2.1 == bt4231.2.1 && (bt4228.2.2 == bt4231.2.2))) = true then ((ints_Neg.f t4157 t4158 t4159).bind fun bt4234 => ((ints_Make.f (-8) 6).bind fun bt4237 => (if (bt4234.1 == bt4237.1 && (bt4234.2.1 == bt4237.2.1 && (bt4234.2.2 == bt4237.2.2))) = true then ((ints_Add.f k t4187 t4188 t4189 t4190 t4191 t4192).bind fun bt4240 => ((ints_Make.f 3 5).bind fun bt4243 => (if (bt4240.1 == bt4243.1 && (bt4240.2.1 == bt4243.2.1 && (bt4240.2.2 == bt4243.2.2))) = true then ((ints_Sub.f k t4187 t4188 t4189 t4190 t4191 t4192).bind fun bt4246 => ((ints_Make.f (-3) (-1)).bind fun bt4249 => (some (bt4246.1 == bt4249.1 && (bt4246.2.1 == bt4249.2.1 && (bt4246.2.2 == bt4249.2.2)))))) else (none)))) else (none)))) else (none)))) else (none))) else (none)))) = some r := by first | (rw [hy4216]; with_reducible exact H) | (have H2_ := (Option.bind_some _ _).symm.trans H; rw [hy4216]; with_reducible exact H2_) | (have H2_ := (Option.bind_some _ _).symm.trans H; with_reducible exact H2_) | with_reducible exact H | (rw [hy4216]; exact H) | exact H
                    have Ny4216 := Aside0.mk hy4216
                    clear hy4216
                    obtain ⟨⟨t4219, t4220, t4221⟩, A310, H⟩ := Option.bind_eq_some_iff.mp H
                    have A31 := Aside0.mk A310
                    clear A310
                    (try dsimp only at H)
                    obtain ⟨⟨t4222, t4223, t4224⟩, A320, H⟩ := Option.bind_eq_some_iff.mp H
                    have A32 := Aside0.mk A320
                    clear A320
                    (try dsimp only at H)
                    by_cases c33 : (t4219 == t4222 && (t4220 == t4223 && (t4221 == t4224))) = true
                    · rw [if_pos c33] at H
                      have c33b0 : (t4219 == t4222 && (t4220 == t4223 && (t4221 == t4224))) = true := c33
                      (try (have c33b1 : decide (t4219 = t4222 && (t4220 == t4223 && (t4221 == t4224))) = true := by simpa using c33))
                      (try (have c33b2 : (t4219 == t4222 && (t4220 == t4223 && (t4221 == t4224))) = true := by simpa using c33))
                      clear c33
                      obtain ⟨⟨t4225, t4226, t4227⟩, A340, H⟩ := Option.bind_eq_some_iff.mp H
                      have A34 := Aside0.mk A340
                      clear A340
                      (try dsimp only at H)
                      by_cases c35 : (t4225 == t4190 && (t4226 == t4191 && (t4227 == t4192))) = true
                      · rw [if_pos c35] at H
                        have c35b0 : (t4225 == t4190 && (t4226 == t4191 && (t4227 == t4192))) = true := c35
                        (try (have c35b1 : decide (t4225 = t4190 && (t4226 == t4191 && (t4227 == t4192))) = true := by simpa using c35))
                        (try (have c35b2 : (t4225 == t4190 && (t4226 == t4191 && (t4227 == t4192))) = true := by simpa using c35))
                        clear c35
                        obtain ⟨⟨t4228, t4229, t4230⟩, A360, H⟩ := Option.bind_eq_some_iff.mp H
                        have A36 := Aside0.mk A360
                        clear A360
                        (try dsimp only at H)
                        obtain ⟨⟨t4231, t4232, t4233⟩, A370, H⟩ := Option.bind_eq_some_iff.mp H
                        have A37 := Aside0.mk A370
                        clear A370
                        (try dsimp only at H)
                        by_cases c38 : (t4228 == t4231 && (t4229 == t4232 && (t4230 == t4233))) = true
                        · rw [if_pos c38] at H
                          have c38b0 : (t4228 == t4231 && (t4229 == t4232 && (t4230 == t4233))) = true := c38
                          (try (have c38b1 : decide (t4228 = t4231 && (t4229 == t4232 && (t4230 == t4233))) = true := by simpa using c38))
                          (try (have c38b2 : (t4228 == t4231 && (t4229 == t4232 && (t4230 == t4233))) = true := by simpa using c38))
                          clear c38
                          obtain ⟨⟨t4234, t4235, t4236⟩, A390, H⟩ := Option.bind_eq_some_iff.mp H
                          have A39 := Aside0.mk A390
                          clear A390
                          (try dsimp only at H)
                          obtain ⟨⟨t4237, t4238, t4239⟩, A400, H⟩ := Option.bind_eq_some_iff.mp H
                          have A40 := Aside0.mk A400
                          clear A400
                          (try dsimp only at H)
                          by_cases c41 : (t4234 == t4237 && (t4235 == t4238 && (t4236 == t4239))) = true
                          · rw [if_pos c41] at H
                            have c41b0 : (t4234 == t4237 && (t4235 == t4238 && (t4236 == t4239))) = true := c41
                            (try (have c41b1 : decide (t4234 = t4237 && (t4235 == t4238 && (t4236 == t4239))) = true := by simpa using c41))
                            (try (have c41b2 : (t4234 == t4237 && (t4235 == t4238 && (t4236 == t4239))) = true := by simpa using c41))
                            clear c41
                            obtain ⟨⟨t4240, t4241, t4242⟩, A420, H⟩ := Option.bind_eq_some_iff.mp H
                            have A42 := Aside0.mk A420
                            clear A420
                            (try dsimp only at H)
                            obtain ⟨⟨t4243, t4244, t4245⟩, A430, H⟩ := Option.bind_eq_some_iff.mp H
                            have A43 := Aside0.mk A430
                            clear A430
                            (try dsimp only at H)
                            by_cases c44 : (t4240 == t4243 && (t4241 == t4244 && (t4242 == t4245))) = true
                            · rw [if_pos c44] at H
                              have c44b0 : (t4240 == t4243 && (t4241 == t4244 && (t4242 == t4245))) = true := c44
                              (try (have c44b1 : decide (t4240 = t4243 && (t4241 == t4244 && (t4242 == t4245))) = true := by simpa using c44))
                              (try (have c44b2 : (t4240 == t4243 && (t4241 == t4244 && (t4242 == t4245))) = true := by simpa using c44))
                              clear c44
                              obtain ⟨⟨t4246, t4247, t4248⟩, A450, H⟩ := Option.bind_eq_some_iff.mp H
                              have A45 := Aside0.mk A450
                              clear A450
                              (try dsimp only at H)
                              obtain ⟨⟨t4249, t4250, t4251⟩, A460, H⟩ := Option.bind_eq_some_iff.mp H
                              have A46 := Aside0.mk A460
                              clear A460
                              (try dsimp only at H)
                              obtain rfl := Option.some.inj H
                              go_enter Try.func38, Try.ntmps38
                              try go_wp2_with (first | ((with_reducible refine gate_callee (f := 37) rfl ?_); refine kc (some 6) Try.func37 #[.int .i64 1, .int .i64 2] (ints_Make.calls 1 2 t4151 t4152 t4153 _ A1.out) ?_; intro w47 hb; replace HB := kh HB hb; (try clear hb); (try clear hb2); (try clear hk); (try clear hi)) | ((with_reducible refine gate_callee (f := 37) rfl ?_); refine kc (some 7) Try.func37 #[.int .i64 (-3), .int .i64 4] (ints_Make.calls (-3) 4 t4154 t4155 t4156 _ A2.out) ?_; intro w48 hb; replace HB := kh HB hb; (try clear hb); (try clear hb2); (try clear hk); (try clear hi)) | ((with_reducible refine gate_callee (f := 53) rfl ?_); refine kc (some 8) Try.func53 #[.agg #[.bool t4151, .int .i64 t4152, .int .i64 t4153], .agg #[.bool t4154, .int .i64 t4155, .int .i64 t4156]] (ints_Mul.calls k t4151 t4152 t4153 t4154 t4155 t4156 t4157 t4158 t4159 _ A3.out) ?_; intro w49 hb; replace HB := kh HB hb; (try clear hb); (try clear hb2); (try clear hk); (try clear hi)) | ((with_reducible refine gate_dst (N := 1) rfl ?_); (try (refine gate_guard (by rfl) ?_; dsimp only)); refine kx 1 #[.bool false, .int .i64 0, .int .i64 0] 23 ?_; intro gb4160 hg w50 hbox hb; have BK4160 := Aside0.mk (hbox); have GW4160 := kg HB hg; have GE4160 := kg HB hg; replace HB := kh HB hb; clear hb hbox hg; have ⟨hcz51_0, hcz51_1, hcz51_2, hfz51_0, hfz51_1, hfz51_2⟩ := kz3f BK4160) | ((with_reducible refine gate_callee (f := 37) rfl ?_); refine kc (some 9) Try.func37 #[.int .i64 (-7), .int .i64 7] (ints_Make.calls (-7) 7 t4161 t4162 t4163 _ A4.out) ?_; intro w52 hb; replace BK4160 := kb (o' := .cells #[.bool t4157, .int .i64 t4158, .int .i64 t4159] 23 (0, 0)) BK4160 hb; replace HB := kh HB hb; (try clear hb); (try clear hb2); (try clear hk); (try clear hi)) | ((with_reducible refine gate_callee (f := 37) rfl ?_); refine kc (some 10) Try.func37 #[.int .i64 (-2), .int .i64 3] (ints_Make.calls (-2) 3 t4164 t4165 t4166 _ A5.out) ?_; intro w53 hb; replace BK4160 := kb BK4160 hb; replace HB := kh HB hb; (try clear hb); (try clear hb2); (try clear hk); (try clear hi)) | ((with_reducible refine gate_callee (f := 54) rfl ?_); refine kc (some 11) Try.func54 #[.agg #[.bool t4161, .int .i64 t4162, .int .i64 t4163], .agg #[.bool t4164, .int .i64 t4165, .int .i64 t4166]] (ints_Div.calls k t4161 t4162 t4163 t4164 t4165 t4166 t4167 t4168 t4169 _ A6.out) ?_; intro w54 hb; replace BK4160 := kb BK4160 hb; replace HB := kh HB hb; (try clear hb); (try clear hb2); (try clear hk); (try clear hi)) | ((with_reducible refine gate_dst (N := 2) rfl ?_); (try (refine gate_guard (by rfl) ?_; dsimp only)); refine kx 2 #[.bool false, .int .i64 0, .int .i64 0] 23 ?_; intro gb4170 hg w55 hbox hb; have BK4170 := Aside0.mk (hbox); have GW4170 := kg HB hg; have GE4170 := kg HB hg; have NB4160_4170 := kn BK4160 hg; have NB4170_4160 := km BK4160 hg; replace BK4160 := kb BK4160 hb; replace HB := kh HB hb; clear hb hbox hg; have hnb56 := NB4170_4160.out; have hnc56 := NB4160_4170.out; have ⟨hcz57_0, hcz57_1, hcz57_2, hfz57_0, hfz57_1, hfz57_2⟩ := kz3f BK4170) | ((with_reducible refine gate_callee (f := 35) rfl ?_); refine kc (some 12) Try.func35 #[.int .i64 5] (ints_Point.calls 5 t4171 t4172 t4173 _ A7.out) ?_; intro w58 hb; replace BK4160 := kb BK4160 hb; replace BK4170 := kb (o' := .cells #[.bool t4167, .int .i64 t4168, .int .i64 t4169] 23 (0, 0)) BK4170 hb; replace HB := kh HB hb; (try clear hb); (try clear hb2); (try clear hk); (try clear hi)) | ((with_reducible refine gate_callee (f := 35) rfl ?_); refine kc (some 13) Try.func35 #[.int .i64 0] (ints_Point.calls 0 t4174 t4175 t4176 _ A8.out) ?_; intro w59 hb; replace BK4160 := kb BK4160 hb; replace BK4170 := kb BK4170 hb; replace HB := kh HB hb; (try clear hb); (try clear hb2); (try clear hk); (try clear hi)) | ((with_reducible refine gate_callee (f := 54) rfl ?_); refine kc (some 14) Try.func54 #[.agg #[.bool t4171, .int .i64 t4172, .int .i64 t4173], .agg #[.bool t4174, .int .i64 t4175, .int .i64 t4176]] (ints_Div.calls k t4171 t4172 t4173 t4174 t4175 t4176 true t4178 t4179 _ A9.out) ?_; intro w60 hb; replace BK4160 := kb BK4160 hb; replace BK4170 := kb BK4170 hb; replace HB := kh HB hb; (try clear hb); (try clear hb2); (try clear hk); (try clear hi)) | ((with_reducible refine gate_dst (N := 3) rfl ?_); (try (refine gate_guard (by rfl) ?_; dsimp only)); refine kx 3 #[.bool false, .int .i64 0, .int .i64 0] 23 ?_; intro gb4180 hg w61 hbox hb; have BK4180 := Aside0.mk (hbox); have GW4180 := kg HB hg; have GE4180 := kg HB hg; have NB4160_4180 := kn BK4160 hg; have NB4180_4160 := km BK4160 hg; have NB4170_4180 := kn BK4170 hg; have NB4180_4170 := km BK4170 hg; replace BK4160 := kb BK4160 hb; replace BK4170 := kb BK4170 hb; replace HB := kh HB hb; clear hb hbox hg; have hnb62 := NB4180_4160.out; have hnc62 := NB4160_4180.out; have hnb63 := NB4180_4170.out; have hnc63 := NB4170_4180.out; have ⟨hcz64_0, hcz64_1, hcz64_2, hfz64_0, hfz64_1, hfz64_2⟩ := kz3f BK4180) | ((with_reducible refine gate_callee (f := 37) rfl ?_); refine kc (some 16) Try.func37 #[.int .i64 0, .int .i64 3] (ints_Make.calls 0 3 t4181 t4182 t4183 _ A10.out) ?_; intro w65 hb; replace BK4160 := kb BK4160 hb; replace BK4170 := kb BK4170 hb; replace BK4180 := kb (o' := .cells #[.bool true, .int .i64 t4178, .int .i64 t4179] 23 (0, 0)) BK4180 hb; replace HB := kh HB hb; (try clear hb); (try clear hb2); (try clear hk); (try clear hi)) | ((with_reducible refine gate_callee (f := 35) rfl ?_); refine kc (some 17) Try.func35 #[.int .i64 3] (ints_Point.calls 3 t4184 t4185 t4186 _ A11.out) ?_; intro w66 hb; replace BK4160 := kb BK4160 hb; replace BK4170 := kb BK4170 hb; replace BK4180 := kb BK4180 hb; replace HB := kh HB hb; (try clear hb); (try clear hb2); (try clear hk); (try clear hi)) | ((with_reducible refine gate_callee (f := 69) rfl ?_); refine kc (some 18) Try.func69 #[.int .u8 12, .agg #[.bool t4181, .int .i64 t4182, .int .i64 t4183], .agg #[.bool t4184, .int .i64 t4185, .int .i64 t4186]] (ints_Test.calls k 12 t4181 t4182 t4183 t4184 t4185 t4186 t4187 t4188 t4189 t4190 t4191 t4192 _ A12.out) ?_; intro w67 hb; replace BK4160 := kb BK4160 hb; replace BK4170 := kb BK4170 hb; replace BK4180 := kb BK4180 hb; replace HB := kh HB hb; (try clear hb); (try clear hb2); (try clear hk); (try clear hi)) | ((with_reducible refine gate_dst (N := 4) rfl ?_); (try (refine gate_guard (by rfl) ?_; dsimp only)); refine kx 4 #[.bool false, .int .i64 0, .int .i64 0] 23 ?_; intro gb4193 hg w68 hbox hb; have BK4193 := Aside0.mk (hbox); have GW4193 := kg HB hg; have GE4193 := kg HB hg; have NB4160_4193 := kn BK4160 hg; have NB4193_4160 := km BK4160 hg; have NB4170_4193 := kn BK4170 hg; have NB4193_4170 := km BK4170 hg; have NB4180_4193 := kn BK4180 hg; have NB4193_4180 := km BK4180 hg; replace BK4160 := kb BK4160 hb; replace BK4170 := kb BK4170 hb; replace BK4180 := kb BK4180 hb; replace HB := kh HB hb; clear hb hbox hg) | ((with_reducible refine gate_dst (N := 5) rfl ?_); (try (refine gate_guard (by rfl) ?_; dsimp only)); refine kx 5 #[.bool false, .int .i64 0, .int .i64 0] 23 ?_; intro gb4194 hg w69 hbox hb; have BK4194 := Aside0.mk (hbox); have GW4194 := kg HB hg; have GE4194 := kg HB hg; have NB4160_4194 := kn BK4160 hg; have NB4194_4160 := km BK4160 hg; have NB4170_4194 := kn BK4170 hg; have NB4194_4170 := km BK4170 hg; have NB4180_4194 := kn BK4180 hg; have NB4194_4180 := km BK4180 hg; have NB4193_4194 := kn BK4193 hg; have NB4194_4193 := km BK4193 hg; replace BK4160 := kb BK4160 hb; replace BK4170 := kb BK4170 hb; replace BK4180 := kb BK4180 hb; replace BK4193 := kb BK4193 hb; replace HB := kh HB hb; clear hb hbox hg; have hnb70 := NB4193_4160.out; have hnc70 := NB4160_4193.out; have hnb71 := NB4193_4170.out; have hnc71 := NB4170_4193.out; have hnb72 := NB4193_4180.out; have hnc72 := NB4180_4193.out; have hnb73 := NB4193_4194.out; have hnc73 := NB4194_4193.out; have ⟨hcz74_0, hcz74_1, hcz74_2, hfz74_0, hfz74_1, hfz74_2⟩ := kz3f BK4193; have hnb75 := NB4194_4160.out; have hnc75 := NB4160_4194.out; have hnb76 := NB4194_4170.out; have hnc76 := NB4170_4194.out; have hnb77 := NB4194_4180.out; have hnc77 := NB4180_4194.out; have ⟨hcz78_0, hcz78_1, hcz78_2, hfz78_0, hfz78_1, hfz78_2⟩ := kz3f BK4194))
                              generalize hW_ : ((((((w69.setCell ⟨gb4193, 0, none⟩ (.bool t4187)).setCell ⟨gb4193, 1, none⟩ (.int .i64 t4188)).setCell ⟨gb4193, 2, none⟩ (.int .i64 t4189)).setCell ⟨gb4194, 0, none⟩ (.bool t4190)).setCell ⟨gb4194, 1, none⟩ (.int .i64 t4191)).setCell ⟨gb4194, 2, none⟩ (.int .i64 t4192)) = w79
                              replace BK4160 := kr BK4160 hW_
                              replace BK4170 := kr BK4170 hW_
                              replace BK4180 := kr BK4180 hW_
                              replace BK4193 := kr (o' := .cells #[.bool t4187, .int .i64 t4188, .int .i64 t4189] 23 (0, 0)) BK4193 hW_
                              replace BK4194 := kr (o' := .cells #[.bool t4190, .int .i64 t4191, .int .i64 t4192] 23 (0, 0)) BK4194 hW_
                              replace HB := kq HB hW_
                              clear hW_
                              replace BK4160 := Aside0.mk (blk_drew BK4160.out)
                              replace BK4170 := Aside0.mk (blk_drew BK4170.out)
                              replace BK4180 := Aside0.mk (blk_drew BK4180.out)
                              replace BK4193 := Aside0.mk (blk_drew BK4193.out)
                              replace BK4194 := Aside0.mk (blk_drew BK4194.out)
                              replace HB := Aside0.mk (below_drew1 HB.out)
                              refine start_ (n := 83) (S := fun w' => w'.cell? ⟨gb4160, 0, none⟩ = some (.bool t4157) ∧ w'.cell? ⟨gb4160, 1, none⟩ = some (.int .i64 t4158) ∧ w'.cell? ⟨gb4160, 2, none⟩ = some (.int .i64 t4159) ∧ w'.cell? ⟨gb4170, 0, none⟩ = some (.bool t4167) ∧ w'.cell? ⟨gb4170, 1, none⟩ = some (.int .i64 t4168) ∧ w'.cell? ⟨gb4170, 2, none⟩ = some (.int .i64 t4169) ∧ w'.cell? ⟨gb4180, 0, none⟩ = some (.bool true) ∧ w'.cell? ⟨gb4180, 1, none⟩ = some (.int .i64 t4178) ∧ w'.cell? ⟨gb4180, 2, none⟩ = some (.int .i64 t4179) ∧ w'.cell? ⟨gb4193, 0, none⟩ = some (.bool t4187) ∧ w'.cell? ⟨gb4193, 1, none⟩ = some (.int .i64 t4188) ∧ w'.cell? ⟨gb4193, 2, none⟩ = some (.int .i64 t4189) ∧ w'.cell? ⟨gb4194, 0, none⟩ = some (.bool t4190) ∧ w'.cell? ⟨gb4194, 1, none⟩ = some (.int .i64 t4191) ∧ w'.cell? ⟨gb4194, 2, none⟩ = some (.int .i64 t4192)) (ds := []) #[false, false, false, false, false, false, false, false, false, false, false, false, false, false, false, false, false, false, false, false, false, false, false, false, false, false, false, false, false, false, false, false, false, false, false, false, false, false, false, false, false, false, false, false, false, false, false, false, false, false, false, false, false, false, false, false, false, false, false, false, false, false, false, false, false, false, false, false, false, false, false, false, false, false, false, false, false, false, false, false, false, false, false] (by kernel_rfl) rfl rfl ⟨bc BK4160 0, bc BK4160 1, bc BK4160 2, bc BK4170 0, bc BK4170 1, bc BK4170 2, bc BK4180 0, bc BK4180 1, bc BK4180 2, bc BK4193 0, bc BK4193 1, bc BK4193 2, bc BK4194 0, bc BK4194 1, bc BK4194 2⟩ (fun hHeld => ?_); refine with_tabW flyballlaw17_works.tab5 flyballlaw17_works.bits5 (fun HT_ HW_ => ?_)
                              generalize w79.drew = w80 at BK4160 BK4170 BK4180 BK4193 BK4194 HB hHeld ⊢
                              refine tak 0 (some 21) #[true, false, false, false, false, false, false, false, false, false, false, false, false, false, false, false, false, false, false, false, false, false, false, false, false, false, false, false, false, false, false, false, false, false, false, false, false, false, false, false, false, false, false, false, false, false, false, false, false, false, false, false, false, false, false, false, false, false, false, false, false, false, false, false, false, false, false, false, false, false, false, false, false, false, false, false, false, false, false, false, false, false, false] (take_ofW HT_.out HW_.out (by kernel_rfl)) hHeld ?_
                              refine one_ (i := 1) (N := some 22) #[true, true, false, false, false, false, false, false, false, false, false, false, false, false, false, false, false, false, false, false, false, false, false, false, false, false, false, false, false, false, false, false, false, false, false, false, false, false, false, false, false, false, false, false, false, false, false, false, false, false, false, false, false, false, false, false, false, false, false, false, false, false, false, false, false, false, false, false, false, false, false, false, false, false, false, false, false, false, false, false, false, false, false] rfl rfl (one_of HT_.out (by kernel_rfl)) (by decide) (fun K hK => ?_)
                              refine gc Try.func37 #[.int .i64 (-6), .int .i64 8] (ints_Make.calls (-6) 8 t4195 t4196 t4197 _ A13.out) ?_
                              intro w81 hb
                              replace BK4160 := kb BK4160 hb
                              replace BK4170 := kb BK4170 hb
                              replace BK4180 := kb BK4180 hb
                              replace BK4193 := kb BK4193 hb
                              replace BK4194 := kb BK4194 hb
                              replace HB := kh HB hb
                              (try clear hb)
                              (try clear hb2)
                              (try clear hk)
                              (try clear hi)
                              refine hK.out _ _ ⟨bc BK4160 0, bc BK4160 1, bc BK4160 2, bc BK4170 0, bc BK4170 1, bc BK4170 2, bc BK4180 0, bc BK4180 1, bc BK4180 2, bc BK4193 0, bc BK4193 1, bc BK4193 2, bc BK4194 0, bc BK4194 1, bc BK4194 2⟩ (fun hHeld => ?_)
                              clear hK K
                              refine nrm (some 22) ?_
                              refine pur 2 (some 23) #[true, true, true, false, false, false, false, false, false, false, false, false, false, false, false, false, false, false, false, false, false, false, false, false, false, false, false, false, false, false, false, false, false, false, false, false, false, false, false, false, false, false, false, false, false, false, false, false, false, false, false, false, false, false, false, false, false, false, false, false, false, false, false, false, false, false, false, false, false, false, false, false, false, false, false, false, false, false, false, false, false, false, false] (any_of HT_.out (by kernel_rfl)) ?_
                              refine pur 3 (some 24) #[true, true, true, true, false, false, false, false, false, false, false, false, false, false, false, false, false, false, false, false, false, false, false, false, false, false, false, false, false, false, false, false, false, false, false, false, false, false, false, false, false, false, false, false, false, false, false, false, false, false, false, false, false, false, false, false, false, false, false, false, false, false, false, false, false, false, false, false, false, false, false, false, false, false, false, false, false, false, false, false, false, false, false] (any_of HT_.out (by kernel_rfl)) ?_
                              refine tak 4 (some 25) #[true, true, true, true, true, false, false, false, false, false, false, false, false, false, false, false, false, false, false, false, false, false, false, false, false, false, false, false, false, false, false, false, false, false, false, false, false, false, false, false, false, false, false, false, false, false, false, false, false, false, false, false, false, false, false, false, false, false, false, false, false, false, false, false, false, false, false, false, false, false, false, false, false, false, false, false, false, false, false, false, false, false, false] (take_ofW HT_.out HW_.out (by kernel_rfl)) hHeld ?_
                              refine one_ (i := 5) (N := some 26) #[true, true, true, true, true, true, false, false, false, false, false, false, false, false, false, false, false, false, false, false, false, false, false, false, false, false, false, false, false, false, false, false, false, false, false, false, false, false, false, false, false, false, false, false, false, false, false, false, false, false, false, false, false, false, false, false, false, false, false, false, false, false, false, false, false, false, false, false, false, false, false, false, false, false, false, false, false, false, false, false, false, false, false] rfl rfl (one_of HT_.out (by kernel_rfl)) (by decide) (fun K hK => ?_)
                              refine gc Try.func37 #[.int .i64 (-7), .int .i64 7] (ints_Make.calls (-7) 7 t4198 t4199 t4200 _ A15.out) ?_
                              intro w82 hb
                              replace BK4160 := kb BK4160 hb
                              replace BK4170 := kb BK4170 hb
                              replace BK4180 := kb BK4180 hb
                              replace BK4193 := kb BK4193 hb
                              replace BK4194 := kb BK4194 hb
                              replace HB := kh HB hb
                              (try clear hb)
                              (try clear hb2)
                              (try clear hk)
                              (try clear hi)
                              refine hK.out _ _ ⟨bc BK4160 0, bc BK4160 1, bc BK4160 2, bc BK4170 0, bc BK4170 1, bc BK4170 2, bc BK4180 0, bc BK4180 1, bc BK4180 2, bc BK4193 0, bc BK4193 1, bc BK4193 2, bc BK4194 0, bc BK4194 1, bc BK4194 2⟩ (fun hHeld => ?_)
                              clear hK K
                              refine nrm (some 26) ?_
                              refine pur 6 (some 27) #[true, true, true, true, true, true, true, false, false, false, false, false, false, false, false, false, false, false, false, false, false, false, false, false, false, false, false, false, false, false, false, false, false, false, false, false, false, false, false, false, false, false, false, false, false, false, false, false, false, false, false, false, false, false, false, false, false, false, false, false, false, false, false, false, false, false, false, false, false, false, false, false, false, false, false, false, false, false, false, false, false, false, false] (any_of HT_.out (by kernel_rfl)) ?_
                              refine pur 7 (some 28) #[true, true, true, true, true, true, true, true, false, false, false, false, false, false, false, false, false, false, false, false, false, false, false, false, false, false, false, false, false, false, false, false, false, false, false, false, false, false, false, false, false, false, false, false, false, false, false, false, false, false, false, false, false, false, false, false, false, false, false, false, false, false, false, false, false, false, false, false, false, false, false, false, false, false, false, false, false, false, false, false, false, false, false] (any_of HT_.out (by kernel_rfl)) ?_
                              refine pur 8 (some 29) #[true, true, true, true, true, true, true, true, true, false, false, false, false, false, false, false, false, false, false, false, false, false, false, false, false, false, false, false, false, false, false, false, false, false, false, false, false, false, false, false, false, false, false, false, false, false, false, false, false, false, false, false, false, false, false, false, false, false, false, false, false, false, false, false, false, false, false, false, false, false, false, false, false, false, false, false, false, false, false, false, false, false, false] (any_of HT_.out (by kernel_rfl)) ?_
                              refine pur 9 (some 30) #[true, true, true, true, true, true, true, true, true, true, false, false, false, false, false, false, false, false, false, false, false, false, false, false, false, false, false, false, false, false, false, false, false, false, false, false, false, false, false, false, false, false, false, false, false, false, false, false, false, false, false, false, false, false, false, false, false, false, false, false, false, false, false, false, false, false, false, false, false, false, false, false, false, false, false, false, false, false, false, false, false, false, false] (any_of HT_.out (by kernel_rfl)) ?_
                              refine tak 10 (some 31) #[true, true, true, true, true, true, true, true, true, true, true, false, false, false, false, false, false, false, false, false, false, false, false, false, false, false, false, false, false, false, false, false, false, false, false, false, false, false, false, false, false, false, false, false, false, false, false, false, false, false, false, false, false, false, false, false, false, false, false, false, false, false, false, false, false, false, false, false, false, false, false, false, false, false, false, false, false, false, false, false, false, false, false] (take_ofW HT_.out HW_.out (by kernel_rfl)) hHeld ?_
                              refine pur 11 (some 32) #[true, true, true, true, true, true, true, true, true, true, true, true, false, false, false, false, false, false, false, false, false, false, false, false, false, false, false, false, false, false, false, false, false, false, false, false, false, false, false, false, false, false, false, false, false, false, false, false, false, false, false, false, false, false, false, false, false, false, false, false, false, false, false, false, false, false, false, false, false, false, false, false, false, false, false, false, false, false, false, false, false, false, false] (any_of HT_.out (by kernel_rfl)) ?_
                              refine pur 12 (some 33) #[true, true, true, true, true, true, true, true, true, true, true, true, true, false, false, false, false, false, false, false, false, false, false, false, false, false, false, false, false, false, false, false, false, false, false, false, false, false, false, false, false, false, false, false, false, false, false, false, false, false, false, false, false, false, false, false, false, false, false, false, false, false, false, false, false, false, false, false, false, false, false, false, false, false, false, false, false, false, false, false, false, false, false] (any_of HT_.out (by kernel_rfl)) ?_
                              refine tak 13 (some 34) #[true, true, true, true, true, true, true, true, true, true, true, true, true, true, false, false, false, false, false, false, false, false, false, false, false, false, false, false, false, false, false, false, false, false, false, false, false, false, false, false, false, false, false, false, false, false, false, false, false, false, false, false, false, false, false, false, false, false, false, false, false, false, false, false, false, false, false, false, false, false, false, false, false, false, false, false, false, false, false, false, false, false, false] (take_ofW HT_.out HW_.out (by kernel_rfl)) hHeld ?_
                              refine one_ (i := 14) (N := some 35) #[true, true, true, true, true, true, true, true, true, true, true, true, true, true, true, false, false, false, false, false, false, false, false, false, false, false, false, false, false, false, false, false, false, false, false, false, false, false, false, false, false, false, false, false, false, false, false, false, false, false, false, false, false, false, false, false, false, false, false, false, false, false, false, false, false, false, false, false, false, false, false, false, false, false, false, false, false, false, false, false, false, false, false] rfl rfl (one_of HT_.out (by kernel_rfl)) (by decide) (fun K hK => ?_)
                              refine gc Try.func37 #[.int .i64 0, .int .i64 2] (ints_Make.calls 0 2 t4201 t4202 t4203 _ A18.out) ?_
                              intro w83 hb
                              replace BK4160 := kb BK4160 hb
                              replace BK4170 := kb BK4170 hb
                              replace BK4180 := kb BK4180 hb
                              replace BK4193 := kb BK4193 hb
                              replace BK4194 := kb BK4194 hb
                              replace HB := kh HB hb
                              (try clear hb)
                              (try clear hb2)
                              (try clear hk)
                              (try clear hi)
                              refine hK.out _ _ ⟨bc BK4160 0, bc BK4160 1, bc BK4160 2, bc BK4170 0, bc BK4170 1, bc BK4170 2, bc BK4180 0, bc BK4180 1, bc BK4180 2, bc BK4193 0, bc BK4193 1, bc BK4193 2, bc BK4194 0, bc BK4194 1, bc BK4194 2⟩ (fun hHeld => ?_)
                              clear hK K
                              refine nrm (some 35) ?_
                              refine pur 15 (some 36) #[true, true, true, true, true, true, true, true, true, true, true, true, true, true, true, true, false, false, false, false, false, false, false, false, false, false, false, false, false, false, false, false, false, false, false, false, false, false, false, false, false, false, false, false, false, false, false, false, false, false, false, false, false, false, false, false, false, false, false, false, false, false, false, false, false, false, false, false, false, false, false, false, false, false, false, false, false, false, false, false, false, false, false] (any_of HT_.out (by kernel_rfl)) ?_
                              refine pur 16 (some 37) #[true, true, true, true, true, true, true, true, true, true, true, true, true, true, true, true, true, false, false, false, false, false, false, false, false, false, false, false, false, false, false, false, false, false, false, false, false, false, false, false, false, false, false, false, false, false, false, false, false, false, false, false, false, false, false, false, false, false, false, false, false, false, false, false, false, false, false, false, false, false, false, false, false, false, false, false, false, false, false, false, false, false, false] (any_of HT_.out (by kernel_rfl)) ?_
                              refine pur 17 (some 38) #[true, true, true, true, true, true, true, true, true, true, true, true, true, true, true, true, true, true, false, false, false, false, false, false, false, false, false, false, false, false, false, false, false, false, false, false, false, false, false, false, false, false, false, false, false, false, false, false, false, false, false, false, false, false, false, false, false, false, false, false, false, false, false, false, false, false, false, false, false, false, false, false, false, false, false, false, false, false, false, false, false, false, false] (any_of HT_.out (by kernel_rfl)) ?_
                              refine tak 18 (some 39) #[true, true, true, true, true, true, true, true, true, true, true, true, true, true, true, true, true, true, true, false, false, false, false, false, false, false, false, false, false, false, false, false, false, false, false, false, false, false, false, false, false, false, false, false, false, false, false, false, false, false, false, false, false, false, false, false, false, false, false, false, false, false, false, false, false, false, false, false, false, false, false, false, false, false, false, false, false, false, false, false, false, false, false] (take_ofW HT_.out HW_.out (by kernel_rfl)) hHeld ?_
                              refine one_ (i := 19) (N := some 40) #[true, true, true, true, true, true, true, true, true, true, true, true, true, true, true, true, true, true, true, true, false, false, false, false, false, false, false, false, false, false, false, false, false, false, false, false, false, false, false, false, false, false, false, false, false, false, false, false, false, false, false, false, false, false, false, false, false, false, false, false, false, false, false, false, false, false, false, false, false, false, false, false, false, false, false, false, false, false, false, false, false, false, false] rfl rfl (one_of HT_.out (by kernel_rfl)) (by decide) (fun K hK => ?_)
                              refine gc Try.func35 #[.int .i64 3] (ints_Point.calls 3 t4204 t4205 t4206 _ A20.out) ?_
                              intro w84 hb
                              replace BK4160 := kb BK4160 hb
                              replace BK4170 := kb BK4170 hb
                              replace BK4180 := kb BK4180 hb
                              replace BK4193 := kb BK4193 hb
                              replace BK4194 := kb BK4194 hb
                              replace HB := kh HB hb
                              (try clear hb)
                              (try clear hb2)
                              (try clear hk)
                              (try clear hi)
                              refine hK.out _ _ ⟨bc BK4160 0, bc BK4160 1, bc BK4160 2, bc BK4170 0, bc BK4170 1, bc BK4170 2, bc BK4180 0, bc BK4180 1, bc BK4180 2, bc BK4193 0, bc BK4193 1, bc BK4193 2, bc BK4194 0, bc BK4194 1, bc BK4194 2⟩ (fun hHeld => ?_)
                              clear hK K
                              refine nrm (some 40) ?_
                              refine pur 20 (some 41) #[true, true, true, true, true, true, true, true, true, true, true, true, true, true, true, true, true, true, true, true, true, false, false, false, false, false, false, false, false, false, false, false, false, false, false, false, false, false, false, false, false, false, false, false, false, false, false, false, false, false, false, false, false, false, false, false, false, false, false, false, false, false, false, false, false, false, false, false, false, false, false, false, false, false, false, false, false, false, false, false, false, false, false] (any_of HT_.out (by kernel_rfl)) ?_
                              refine pur 21 (some 42) #[true, true, true, true, true, true, true, true, true, true, true, true, true, true, true, true, true, true, true, true, true, true, false, false, false, false, false, false, false, false, false, false, false, false, false, false, false, false, false, false, false, false, false, false, false, false, false, false, false, false, false, false, false, false, false, false, false, false, false, false, false, false, false, false, false, false, false, false, false, false, false, false, false, false, false, false, false, false, false, false, false, false, false] (any_of HT_.out (by kernel_rfl)) ?_
                              refine pur 22 (some 43) #[true, true, true, true, true, true, true, true, true, true, true, true, true, true, true, true, true, true, true, true, true, true, true, false, false, false, false, false, false, false, false, false, false, false, false, false, false, false, false, false, false, false, false, false, false, false, false, false, false, false, false, false, false, false, false, false, false, false, false, false, false, false, false, false, false, false, false, false, false, false, false, false, false, false, false, false, false, false, false, false, false, false, false] (any_of HT_.out (by kernel_rfl)) ?_
                              refine one_ (i := 23) (N := some 44) #[true, true, true, true, true, true, true, true, true, true, true, true, true, true, true, true, true, true, true, true, true, true, true, true, false, false, false, false, false, false, false, false, false, false, false, false, false, false, false, false, false, false, false, false, false, false, false, false, false, false, false, false, false, false, false, false, false, false, false, false, false, false, false, false, false, false, false, false, false, false, false, false, false, false, false, false, false, false, false, false, false, false, false] rfl rfl (one_of HT_.out (by kernel_rfl)) (by decide) (fun K hK => ?_)
                              refine gc Try.func60 #[] (ints_Full.calls  t4207 t4208 t4209 _ A22.out) ?_
                              intro w85 hb
                              replace BK4160 := kb BK4160 hb
                              replace BK4170 := kb BK4170 hb
                              replace BK4180 := kb BK4180 hb
                              replace BK4193 := kb BK4193 hb
                              replace BK4194 := kb BK4194 hb
                              replace HB := kh HB hb
                              (try clear hb)
                              (try clear hb2)
                              (try clear hk)
                              (try clear hi)
                              refine hK.out _ _ ⟨bc BK4160 0, bc BK4160 1, bc BK4160 2, bc BK4170 0, bc BK4170 1, bc BK4170 2, bc BK4180 0, bc BK4180 1, bc BK4180 2, bc BK4193 0, bc BK4193 1, bc BK4193 2, bc BK4194 0, bc BK4194 1, bc BK4194 2⟩ (fun hHeld => ?_)
                              clear hK K
                              refine nrm (some 44) ?_
                              refine one_ (i := 24) (N := some 45) #[true, true, true, true, true, true, true, true, true, true, true, true, true, true, true, true, true, true, true, true, true, true, true, true, true, false, false, false, false, false, false, false, false, false, false, false, false, false, false, false, false, false, false, false, false, false, false, false, false, false, false, false, false, false, false, false, false, false, false, false, false, false, false, false, false, false, false, false, false, false, false, false, false, false, false, false, false, false, false, false, false, false, false] rfl rfl (one_of HT_.out (by kernel_rfl)) (by decide) (fun K hK => ?_)
                              refine gc Try.func37 #[.int .i64 (-2147483648), .int .i64 2147483647] (ints_Make.calls (-2147483648) 2147483647 t4210 t4211 t4212 _ A23.out) ?_
                              intro w86 hb
                              replace BK4160 := kb BK4160 hb
                              replace BK4170 := kb BK4170 hb
                              replace BK4180 := kb BK4180 hb
                              replace BK4193 := kb BK4193 hb
                              replace BK4194 := kb BK4194 hb
                              replace HB := kh HB hb
                              (try clear hb)
                              (try clear hb2)
                              (try clear hk)
                              (try clear hi)
                              refine hK.out _ _ ⟨bc BK4160 0, bc BK4160 1, bc BK4160 2, bc BK4170 0, bc BK4170 1, bc BK4170 2, bc BK4180 0, bc BK4180 1, bc BK4180 2, bc BK4193 0, bc BK4193 1, bc BK4193 2, bc BK4194 0, bc BK4194 1, bc BK4194 2⟩ (fun hHeld => ?_)
                              clear hK K
                              refine nrm (some 45) ?_
                              refine pur 25 (some 46) #[true, true, true, true, true, true, true, true, true, true, true, true, true, true, true, true, true, true, true, true, true, true, true, true, true, true, false, false, false, false, false, false, false, false, false, false, false, false, false, false, false, false, false, false, false, false, false, false, false, false, false, false, false, false, false, false, false, false, false, false, false, false, false, false, false, false, false, false, false, false, false, false, false, false, false, false, false, false, false, false, false, false, false] (any_of HT_.out (by kernel_rfl)) ?_
                              refine pur 26 (some 47) #[true, true, true, true, true, true, true, true, true, true, true, true, true, true, true, true, true, true, true, true, true, true, true, true, true, true, true, false, false, false, false, false, false, false, false, false, false, false, false, false, false, false, false, false, false, false, false, false, false, false, false, false, false, false, false, false, false, false, false, false, false, false, false, false, false, false, false, false, false, false, false, false, false, false, false, false, false, false, false, false, false, false, false] (any_of HT_.out (by kernel_rfl)) ?_
                              refine pur 27 (some 48) #[true, true, true, true, true, true, true, true, true, true, true, true, true, true, true, true, true, true, true, true, true, true, true, true, true, true, true, true, false, false, false, false, false, false, false, false, false, false, false, false, false, false, false, false, false, false, false, false, false, false, false, false, false, false, false, false, false, false, false, false, false, false, false, false, false, false, false, false, false, false, false, false, false, false, false, false, false, false, false, false, false, false, false] (any_of HT_.out (by kernel_rfl)) ?_
                              refine tak 28 (some 49) #[true, true, true, true, true, true, true, true, true, true, true, true, true, true, true, true, true, true, true, true, true, true, true, true, true, true, true, true, true, false, false, false, false, false, false, false, false, false, false, false, false, false, false, false, false, false, false, false, false, false, false, false, false, false, false, false, false, false, false, false, false, false, false, false, false, false, false, false, false, false, false, false, false, false, false, false, false, false, false, false, false, false, false] (take_ofW HT_.out HW_.out (by kernel_rfl)) hHeld ?_
                              refine one_ (i := 29) (N := some 50) #[true, true, true, true, true, true, true, true, true, true, true, true, true, true, true, true, true, true, true, true, true, true, true, true, true, true, true, true, true, true, false, false, false, false, false, false, false, false, false, false, false, false, false, false, false, false, false, false, false, false, false, false, false, false, false, false, false, false, false, false, false, false, false, false, false, false, false, false, false, false, false, false, false, false, false, false, false, false, false, false, false, false, false] rfl rfl (one_of HT_.out (by kernel_rfl)) (by decide) (fun K hK => ?_)
                              refine gc Try.func36 #[.agg #[.bool t4157, .int .i64 t4158, .int .i64 t4159], .int .i64 8] (ints_Has.calls t4157 t4158 t4159 8 true _ A25.out) ?_
                              intro w87 hb
                              replace BK4160 := kb BK4160 hb
                              replace BK4170 := kb BK4170 hb
                              replace BK4180 := kb BK4180 hb
                              replace BK4193 := kb BK4193 hb
                              replace BK4194 := kb BK4194 hb
                              replace HB := kh HB hb
                              (try clear hb)
                              (try clear hb2)
                              (try clear hk)
                              (try clear hi)
                              refine hK.out _ _ ⟨bc BK4160 0, bc BK4160 1, bc BK4160 2, bc BK4170 0, bc BK4170 1, bc BK4170 2, bc BK4180 0, bc BK4180 1, bc BK4180 2, bc BK4193 0, bc BK4193 1, bc BK4193 2, bc BK4194 0, bc BK4194 1, bc BK4194 2⟩ (fun hHeld => ?_)
                              clear hK K
                              refine nrm (some 50) ?_
                              refine pur 30 (some 51) #[true, true, true, true, true, true, true, true, true, true, true, true, true, true, true, true, true, true, true, true, true, true, true, true, true, true, true, true, true, true, true, false, false, false, false, false, false, false, false, false, false, false, false, false, false, false, false, false, false, false, false, false, false, false, false, false, false, false, false, false, false, false, false, false, false, false, false, false, false, false, false, false, false, false, false, false, false, false, false, false, false, false, false] (any_of HT_.out (by kernel_rfl)) ?_
                              refine pur 31 (some 52) #[true, true, true, true, true, true, true, true, true, true, true, true, true, true, true, true, true, true, true, true, true, true, true, true, true, true, true, true, true, true, true, true, false, false, false, false, false, false, false, false, false, false, false, false, false, false, false, false, false, false, false, false, false, false, false, false, false, false, false, false, false, false, false, false, false, false, false, false, false, false, false, false, false, false, false, false, false, false, false, false, false, false, false] (any_of HT_.out (by kernel_rfl)) ?_
                              refine tak 32 (some 53) #[true, true, true, true, true, true, true, true, true, true, true, true, true, true, true, true, true, true, true, true, true, true, true, true, true, true, true, true, true, true, true, true, true, false, false, false, false, false, false, false, false, false, false, false, false, false, false, false, false, false, false, false, false, false, false, false, false, false, false, false, false, false, false, false, false, false, false, false, false, false, false, false, false, false, false, false, false, false, false, false, false, false, false] (take_ofW HT_.out HW_.out (by kernel_rfl)) hHeld ?_
                              refine one_ (i := 33) (N := some 54) #[true, true, true, true, true, true, true, true, true, true, true, true, true, true, true, true, true, true, true, true, true, true, true, true, true, true, true, true, true, true, true, true, true, true, false, false, false, false, false, false, false, false, false, false, false, false, false, false, false, false, false, false, false, false, false, false, false, false, false, false, false, false, false, false, false, false, false, false, false, false, false, false, false, false, false, false, false, false, false, false, false, false, false] rfl rfl (one_of HT_.out (by kernel_rfl)) (by decide) (fun K hK => ?_)
                              refine gc Try.func36 #[.agg #[.bool t4157, .int .i64 t4158, .int .i64 t4159], .int .i64 9] (ints_Has.calls t4157 t4158 t4159 9 false _ A27.out) ?_
                              intro w88 hb
                              replace BK4160 := kb BK4160 hb
                              replace BK4170 := kb BK4170 hb
                              replace BK4180 := kb BK4180 hb
                              replace BK4193 := kb BK4193 hb
                              replace BK4194 := kb BK4194 hb
                              replace HB := kh HB hb
                              (try clear hb)
                              (try clear hb2)
                              (try clear hk)
                              (try clear hi)
                              refine hK.out _ _ ⟨bc BK4160 0, bc BK4160 1, bc BK4160 2, bc BK4170 0, bc BK4170 1, bc BK4170 2, bc BK4180 0, bc BK4180 1, bc BK4180 2, bc BK4193 0, bc BK4193 1, bc BK4193 2, bc BK4194 0, bc BK4194 1, bc BK4194 2⟩ (fun hHeld => ?_)
                              clear hK K
                              refine nrm (some 54) ?_
                              refine pur 34 (some 55) #[true, true, true, true, true, true, true, true, true, true, true, true, true, true, true, true, true, true, true, true, true, true, true, true, true, true, true, true, true, true, true, true, true, true, true, false, false, false, false, false, false, false, false, false, false, false, false, false, false, false, false, false, false, false, false, false, false, false, false, false, false, false, false, false, false, false, false, false, false, false, false, false, false, false, false, false, false, false, false, false, false, false, false] (any_of HT_.out (by kernel_rfl)) ?_
                              refine pur 35 (some 56) #[true, true, true, true, true, true, true, true, true, true, true, true, true, true, true, true, true, true, true, true, true, true, true, true, true, true, true, true, true, true, true, true, true, true, true, true, false, false, false, false, false, false, false, false, false, false, false, false, false, false, false, false, false, false, false, false, false, false, false, false, false, false, false, false, false, false, false, false, false, false, false, false, false, false, false, false, false, false, false, false, false, false, false] (any_of HT_.out (by kernel_rfl)) ?_
                              refine pur 36 (some 57) #[true, true, true, true, true, true, true, true, true, true, true, true, true, true, true, true, true, true, true, true, true, true, true, true, true, true, true, true, true, true, true, true, true, true, true, true, true, false, false, false, false, false, false, false, false, false, false, false, false, false, false, false, false, false, false, false, false, false, false, false, false, false, false, false, false, false, false, false, false, false, false, false, false, false, false, false, false, false, false, false, false, false, false] (any_of HT_.out (by kernel_rfl)) ?_
                              refine tak 37 (some 58) #[true, true, true, true, true, true, true, true, true, true, true, true, true, true, true, true, true, true, true, true, true, true, true, true, true, true, true, true, true, true, true, true, true, true, true, true, true, true, false, false, false, false, false, false, false, false, false, false, false, false, false, false, false, false, false, false, false, false, false, false, false, false, false, false, false, false, false, false, false, false, false, false, false, false, false, false, false, false, false, false, false, false, false] (take_ofW HT_.out HW_.out (by kernel_rfl)) hHeld ?_
                              refine tak 38 (some 59) #[true, true, true, true, true, true, true, true, true, true, true, true, true, true, true, true, true, true, true, true, true, true, true, true, true, true, true, true, true, true, true, true, true, true, true, true, true, true, true, false, false, false, false, false, false, false, false, false, false, false, false, false, false, false, false, false, false, false, false, false, false, false, false, false, false, false, false, false, false, false, false, false, false, false, false, false, false, false, false, false, false, false, false] (take_ofW HT_.out HW_.out (by kernel_rfl)) hHeld ?_
                              refine one_ (i := 39) (N := some 60) #[true, true, true, true, true, true, true, true, true, true, true, true, true, true, true, true, true, true, true, true, true, true, true, true, true, true, true, true, true, true, true, true, true, true, true, true, true, true, true, true, false, false, false, false, false, false, false, false, false, false, false, false, false, false, false, false, false, false, false, false, false, false, false, false, false, false, false, false, false, false, false, false, false, false, false, false, false, false, false, false, false, false, false] rfl rfl (one_of HT_.out (by kernel_rfl)) (by decide) (fun K hK => ?_)
                              refine gc Try.func41 #[.agg #[.bool t4187, .int .i64 t4188, .int .i64 t4189], .agg #[.bool t4157, .int .i64 t4158, .int .i64 t4159]] (ints_Inside.calls t4187 t4188 t4189 t4157 t4158 t4159 true _ A29.out) ?_
                              intro w89 hb
                              replace BK4160 := kb BK4160 hb
                              replace BK4170 := kb BK4170 hb
                              replace BK4180 := kb BK4180 hb
                              replace BK4193 := kb BK4193 hb
                              replace BK4194 := kb BK4194 hb
                              replace HB := kh HB hb
                              (try clear hb)
                              (try clear hb2)
                              (try clear hk)
                              (try clear hi)
                              refine hK.out _ _ ⟨bc BK4160 0, bc BK4160 1, bc BK4160 2, bc BK4170 0, bc BK4170 1, bc BK4170 2, bc BK4180 0, bc BK4180 1, bc BK4180 2, bc BK4193 0, bc BK4193 1, bc BK4193 2, bc BK4194 0, bc BK4194 1, bc BK4194 2⟩ (fun hHeld => ?_)
                              clear hK K
                              refine nrm (some 60) ?_
                              refine pur 40 (some 61) #[true, true, true, true, true, true, true, true, true, true, true, true, true, true, true, true, true, true, true, true, true, true, true, true, true, true, true, true, true, true, true, true, true, true, true, true, true, true, true, true, true, false, false, false, false, false, false, false, false, false, false, false, false, false, false, false, false, false, false, false, false, false, false, false, false, false, false, false, false, false, false, false, false, false, false, false, false, false, false, false, false, false, false] (any_of HT_.out (by kernel_rfl)) ?_
                              refine pur 41 (some 62) #[true, true, true, true, true, true, true, true, true, true, true, true, true, true, true, true, true, true, true, true, true, true, true, true, true, true, true, true, true, true, true, true, true, true, true, true, true, true, true, true, true, true, false, false, false, false, false, false, false, false, false, false, false, false, false, false, false, false, false, false, false, false, false, false, false, false, false, false, false, false, false, false, false, false, false, false, false, false, false, false, false, false, false] (any_of HT_.out (by kernel_rfl)) ?_
                              refine tak 42 (some 63) #[true, true, true, true, true, true, true, true, true, true, true, true, true, true, true, true, true, true, true, true, true, true, true, true, true, true, true, true, true, true, true, true, true, true, true, true, true, true, true, true, true, true, true, false, false, false, false, false, false, false, false, false, false, false, false, false, false, false, false, false, false, false, false, false, false, false, false, false, false, false, false, false, false, false, false, false, false, false, false, false, false, false, false] (take_ofW HT_.out HW_.out (by kernel_rfl)) hHeld ?_
                              refine tak 43 (some 64) #[true, true, true, true, true, true, true, true, true, true, true, true, true, true, true, true, true, true, true, true, true, true, true, true, true, true, true, true, true, true, true, true, true, true, true, true, true, true, true, true, true, true, true, true, false, false, false, false, false, false, false, false, false, false, false, false, false, false, false, false, false, false, false, false, false, false, false, false, false, false, false, false, false, false, false, false, false, false, false, false, false, false, false] (take_ofW HT_.out HW_.out (by kernel_rfl)) hHeld ?_
                              refine one_ (i := 44) (N := some 65) #[true, true, true, true, true, true, true, true, true, true, true, true, true, true, true, true, true, true, true, true, true, true, true, true, true, true, true, true, true, true, true, true, true, true, true, true, true, true, true, true, true, true, true, true, true, false, false, false, false, false, false, false, false, false, false, false, false, false, false, false, false, false, false, false, false, false, false, false, false, false, false, false, false, false, false, false, false, false, false, false, false, false, false] rfl rfl (one_of HT_.out (by kernel_rfl)) (by decide) (fun K hK => ?_)
                              refine Kd.R_lit_step k23 _ 23 ?hg (N := 65) ?hd (xs := ([(⟨t4187, t4188, t4189⟩ : S23), (⟨t4190, t4191, t4192⟩ : S23)] : List (S23))) (inner := [.bool t4187, .int .i64 t4188, .int .i64 t4189, .bool t4190, .int .i64 t4191, .int .i64 t4192]) (ok := fun _ => True) (okp := fun _ => True) ?hr ?hp (fun _ hk => hk) trivial (Below.refl _ _) (Nat.le_refl _) (by simp) ?_; (case hd => rfl); (case hg => rfl); (case hr => first | (go_simp; done) | (go_simp; rfl)); (case hp => exact (Reps.c3 (show Kd.M k23 _ _ _ (⟨t4187, t4188, t4189⟩ : S23) [.bool t4187, .int .i64 t4188, .int .i64 t4189] from (k23_mkM _ _ _ (⟨t4187, t4188, t4189⟩ : S23) )) (Reps.c3 (show Kd.M k23 _ _ _ (⟨t4190, t4191, t4192⟩ : S23) [.bool t4190, .int .i64 t4191, .int .i64 t4192] from (k23_mkM _ _ _ (⟨t4190, t4191, t4192⟩ : S23) )) (Reps.none _ _))))
                              intro v4217 w90 ho91 hb hg_ hnew_
                              clear hg_ hnew_
                              (first | rw [← Ny4216.out] at ho91 | (simp only [Int.reduceToNat] at ho91; rw [← Ny4216.out] at ho91))
                              have HO4218 := Aside0.mk (Kd.R_lower (Kd.R_newB (Kd.R_newB (Kd.R_newB (Kd.R_newB (Kd.R_newB ho91 (g := gb4160) (o := .cells #[.bool t4157, .int .i64 t4158, .int .i64 t4159] 23 (0, 0)) (pk BK4160)) (g := gb4170) (o := .cells #[.bool t4167, .int .i64 t4168, .int .i64 t4169] 23 (0, 0)) (pk BK4170)) (g := gb4180) (o := .cells #[.bool true, .int .i64 t4178, .int .i64 t4179] 23 (0, 0)) (pk BK4180)) (g := gb4193) (o := .cells #[.bool t4187, .int .i64 t4188, .int .i64 t4189] 23 (0, 0)) (pk BK4193)) (g := gb4194) (o := .cells #[.bool t4190, .int .i64 t4191, .int .i64 t4192] 23 (0, 0)) (pk BK4194)) (below_size (pl HB)))
                              replace BK4160 := kb BK4160 hb
                              replace BK4170 := kb BK4170 hb
                              replace BK4180 := kb BK4180 hb
                              replace BK4193 := kb BK4193 hb
                              replace BK4194 := kb BK4194 hb
                              replace HB := kh HB hb
                              clear hb ho91
                              obtain ⟨Ao92, co92, eo92⟩ := Kd.R_slice HO4218.out
                              (first | subst eo92 | (injection eo92 with f1_ f2_ f3_; have f4_ := f1_.symm; have f5_ := f3_.symm; clear f1_ f2_ f3_; subst f4_; subst f5_))
                              refine hK.out _ _ ⟨bc BK4160 0, bc BK4160 1, bc BK4160 2, bc BK4170 0, bc BK4170 1, bc BK4170 2, bc BK4180 0, bc BK4180 1, bc BK4180 2, bc BK4193 0, bc BK4193 1, bc BK4193 2, bc BK4194 0, bc BK4194 1, bc BK4194 2⟩ (fun hHeld => ?_)
                              clear hK K
                              refine nrm (some 65) ?_
                              refine one_ (i := 45) (N := some 66) #[true, true, true, true, true, true, true, true, true, true, true, true, true, true, true, true, true, true, true, true, true, true, true, true, true, true, true, true, true, true, true, true, true, true, true, true, true, true, true, true, true, true, true, true, true, true, false, false, false, false, false, false, false, false, false, false, false, false, false, false, false, false, false, false, false, false, false, false, false, false, false, false, false, false, false, false, false, false, false, false, false, false, false] rfl rfl (one_of HT_.out (by kernel_rfl)) (by decide) (fun K hK => ?_)
                              refine goes_ Try.func43 (by kernel_rfl) rfl #[.slice Ao92 y4216.length co92] (by rfl) rfl rfl pa ?_
                              with_reducible refine (ints_Join.calls k _ _ y4216 t4219 t4220 t4221 _ ?side1 ?side2 A31.out).mono ?_
                              (case side1 => repeat (first | exact (Kd.R_reads' HO4218.out).2.2 | (with_reducible refine Kd.C_alloc ?_ _) | (with_reducible refine Kd.C_drewN ?_ _) | (with_reducible refine Kd.C_drew ?_)))
                              (case side2 => exact (Kd.R_reads' HO4218.out).2.1)
                              rintro e w93 ⟨rfl, hb⟩
                              refine ⟨_, rfl, ?_⟩
                              have n0_ := Aside0.mk (Kd.R_below (by (with_reducible repeat (first | apply Kd.R_alloc | apply Kd.R_drewN | apply Kd.R_drew)); exact HO4218.out) hb)
                              have n1_ := kb BK4160 hb
                              have n2_ := kb BK4170 hb
                              have n3_ := kb BK4180 hb
                              have n4_ := kb BK4193 hb
                              have n5_ := kb BK4194 hb
                              have n6_ := kh HB hb
                              clear HO4218
                              clear BK4160
                              clear BK4170
                              clear BK4180
                              clear BK4193
                              clear BK4194
                              clear HB
                              have HO4218 := n0_
                              have BK4160 := n1_
                              have BK4170 := n2_
                              have BK4180 := n3_
                              have BK4193 := n4_
                              have BK4194 := n5_
                              have HB := n6_
                              clear n0_ n1_ n2_ n3_ n4_ n5_ n6_
                              (try clear hb)
                              (try clear hb2)
                              (try clear hk)
                              (try clear hi)
                              refine hK.out _ _ ⟨bc BK4160 0, bc BK4160 1, bc BK4160 2, bc BK4170 0, bc BK4170 1, bc BK4170 2, bc BK4180 0, bc BK4180 1, bc BK4180 2, bc BK4193 0, bc BK4193 1, bc BK4193 2, bc BK4194 0, bc BK4194 1, bc BK4194 2⟩ (fun hHeld => ?_)
                              clear hK K
                              refine nrm (some 66) ?_
                              refine one_ (i := 46) (N := some 67) #[true, true, true, true, true, true, true, true, true, true, true, true, true, true, true, true, true, true, true, true, true, true, true, true, true, true, true, true, true, true, true, true, true, true, true, true, true, true, true, true, true, true, true, true, true, true, true, false, false, false, false, false, false, false, false, false, false, false, false, false, false, false, false, false, false, false, false, false, false, false, false, false, false, false, false, false, false, false, false, false, false, false, false] rfl rfl (one_of HT_.out (by kernel_rfl)) (by decide) (fun K hK => ?_)
                              refine gc Try.func37 #[.int .i64 0, .int .i64 3] (ints_Make.calls 0 3 t4222 t4223 t4224 _ A32.out) ?_
                              intro w94 hb
                              have n0_ := Aside0.mk (Kd.R_below (by (with_reducible repeat (first | apply Kd.R_alloc | apply Kd.R_drewN | apply Kd.R_drew)); exact HO4218.out) hb)
                              have n1_ := kb BK4160 hb
                              have n2_ := kb BK4170 hb
                              have n3_ := kb BK4180 hb
                              have n4_ := kb BK4193 hb
                              have n5_ := kb BK4194 hb
                              have n6_ := kh HB hb
                              clear HO4218
                              clear BK4160
                              clear BK4170
                              clear BK4180
                              clear BK4193
                              clear BK4194
                              clear HB
                              have HO4218 := n0_
                              have BK4160 := n1_
                              have BK4170 := n2_
                              have BK4180 := n3_
                              have BK4193 := n4_
                              have BK4194 := n5_
                              have HB := n6_
                              clear n0_ n1_ n2_ n3_ n4_ n5_ n6_
                              (try clear hb)
                              (try clear hb2)
                              (try clear hk)
                              (try clear hi)
                              refine hK.out _ _ ⟨bc BK4160 0, bc BK4160 1, bc BK4160 2, bc BK4170 0, bc BK4170 1, bc BK4170 2, bc BK4180 0, bc BK4180 1, bc BK4180 2, bc BK4193 0, bc BK4193 1, bc BK4193 2, bc BK4194 0, bc BK4194 1, bc BK4194 2⟩ (fun hHeld => ?_)
                              clear hK K
                              refine nrm (some 67) ?_
                              refine pur 47 (some 68) #[true, true, true, true, true, true, true, true, true, true, true, true, true, true, true, true, true, true, true, true, true, true, true, true, true, true, true, true, true, true, true, true, true, true, true, true, true, true, true, true, true, true, true, true, true, true, true, true, false, false, false, false, false, false, false, false, false, false, false, false, false, false, false, false, false, false, false, false, false, false, false, false, false, false, false, false, false, false, false, false, false, false, false] (any_of HT_.out (by kernel_rfl)) ?_
                              refine pur 48 (some 69) #[true, true, true, true, true, true, true, true, true, true, true, true, true, true, true, true, true, true, true, true, true, true, true, true, true, true, true, true, true, true, true, true, true, true, true, true, true, true, true, true, true, true, true, true, true, true, true, true, true, false, false, false, false, false, false, false, false, false, false, false, false, false, false, false, false, false, false, false, false, false, false, false, false, false, false, false, false, false, false, false, false, false, false] (any_of HT_.out (by kernel_rfl)) ?_
                              refine pur 49 (some 70) #[true, true, true, true, true, true, true, true, true, true, true, true, true, true, true, true, true, true, true, true, true, true, true, true, true, true, true, true, true, true, true, true, true, true, true, true, true, true, true, true, true, true, true, true, true, true, true, true, true, true, false, false, false, false, false, false, false, false, false, false, false, false, false, false, false, false, false, false, false, false, false, false, false, false, false, false, false, false, false, false, false, false, false] (any_of HT_.out (by kernel_rfl)) ?_
                              refine tak 50 (some 71) #[true, true, true, true, true, true, true, true, true, true, true, true, true, true, true, true, true, true, true, true, true, true, true, true, true, true, true, true, true, true, true, true, true, true, true, true, true, true, true, true, true, true, true, true, true, true, true, true, true, true, true, false, false, false, false, false, false, false, false, false, false, false, false, false, false, false, false, false, false, false, false, false, false, false, false, false, false, false, false, false, false, false, false] (take_ofW HT_.out HW_.out (by kernel_rfl)) hHeld ?_
                              refine tak 51 (some 72) #[true, true, true, true, true, true, true, true, true, true, true, true, true, true, true, true, true, true, true, true, true, true, true, true, true, true, true, true, true, true, true, true, true, true, true, true, true, true, true, true, true, true, true, true, true, true, true, true, true, true, true, true, false, false, false, false, false, false, false, false, false, false, false, false, false, false, false, false, false, false, false, false, false, false, false, false, false, false, false, false, false, false, false] (take_ofW HT_.out HW_.out (by kernel_rfl)) hHeld ?_
                              refine tak 53 (some 74) #[true, true, true, true, true, true, true, true, true, true, true, true, true, true, true, true, true, true, true, true, true, true, true, true, true, true, true, true, true, true, true, true, true, true, true, true, true, true, true, true, true, true, true, true, true, true, true, true, true, true, true, true, false, true, false, false, false, false, false, false, false, false, false, false, false, false, false, false, false, false, false, false, false, false, false, false, false, false, false, false, false, false, false] (take_ofW HT_.out HW_.out (by kernel_rfl)) hHeld ?_
                              refine one_ (i := 52) (N := some 73) #[true, true, true, true, true, true, true, true, true, true, true, true, true, true, true, true, true, true, true, true, true, true, true, true, true, true, true, true, true, true, true, true, true, true, true, true, true, true, true, true, true, true, true, true, true, true, true, true, true, true, true, true, true, true, false, false, false, false, false, false, false, false, false, false, false, false, false, false, false, false, false, false, false, false, false, false, false, false, false, false, false, false, false] rfl rfl (one_of HT_.out (by kernel_rfl)) (by decide) (fun K hK => ?_)
                              refine gc Try.func45 #[.agg #[.bool t4157, .int .i64 t4158, .int .i64 t4159], .agg #[.bool t4190, .int .i64 t4191, .int .i64 t4192]] (ints_Meet.calls k t4157 t4158 t4159 t4190 t4191 t4192 t4225 t4226 t4227 _ A34.out) ?_
                              intro w95 hb
                              have n0_ := Aside0.mk (Kd.R_below (by (with_reducible repeat (first | apply Kd.R_alloc | apply Kd.R_drewN | apply Kd.R_drew)); exact HO4218.out) hb)
                              have n1_ := kb BK4160 hb
                              have n2_ := kb BK4170 hb
                              have n3_ := kb BK4180 hb
                              have n4_ := kb BK4193 hb
                              have n5_ := kb BK4194 hb
                              have n6_ := kh HB hb
                              clear HO4218
                              clear BK4160
                              clear BK4170
                              clear BK4180
                              clear BK4193
                              clear BK4194
                              clear HB
                              have HO4218 := n0_
                              have BK4160 := n1_
                              have BK4170 := n2_
                              have BK4180 := n3_
                              have BK4193 := n4_
                              have BK4194 := n5_
                              have HB := n6_
                              clear n0_ n1_ n2_ n3_ n4_ n5_ n6_
                              (try clear hb)
                              (try clear hb2)
                              (try clear hk)
                              (try clear hi)
                              refine hK.out _ _ ⟨bc BK4160 0, bc BK4160 1, bc BK4160 2, bc BK4170 0, bc BK4170 1, bc BK4170 2, bc BK4180 0, bc BK4180 1, bc BK4180 2, bc BK4193 0, bc BK4193 1, bc BK4193 2, bc BK4194 0, bc BK4194 1, bc BK4194 2⟩ (fun hHeld => ?_)
                              clear hK K
                              refine nrm (some 73) ?_
                              refine pur 54 (some 75) #[true, true, true, true, true, true, true, true, true, true, true, true, true, true, true, true, true, true, true, true, true, true, true, true, true, true, true, true, true, true, true, true, true, true, true, true, true, true, true, true, true, true, true, true, true, true, true, true, true, true, true, true, true, true, true, false, false, false, false, false, false, false, false, false, false, false, false, false, false, false, false, false, false, false, false, false, false, false, false, false, false, false, false] (any_of HT_.out (by kernel_rfl)) ?_
                              refine pur 55 (some 76) #[true, true, true, true, true, true, true, true, true, true, true, true, true, true, true, true, true, true, true, true, true, true, true, true, true, true, true, true, true, true, true, true, true, true, true, true, true, true, true, true, true, true, true, true, true, true, true, true, true, true, true, true, true, true, true, true, false, false, false, false, false, false, false, false, false, false, false, false, false, false, false, false, false, false, false, false, false, false, false, false, false, false, false] (any_of HT_.out (by kernel_rfl)) ?_
                              refine pur 56 (some 77) #[true, true, true, true, true, true, true, true, true, true, true, true, true, true, true, true, true, true, true, true, true, true, true, true, true, true, true, true, true, true, true, true, true, true, true, true, true, true, true, true, true, true, true, true, true, true, true, true, true, true, true, true, true, true, true, true, true, false, false, false, false, false, false, false, false, false, false, false, false, false, false, false, false, false, false, false, false, false, false, false, false, false, false] (any_of HT_.out (by kernel_rfl)) ?_
                              refine tak 57 (some 78) #[true, true, true, true, true, true, true, true, true, true, true, true, true, true, true, true, true, true, true, true, true, true, true, true, true, true, true, true, true, true, true, true, true, true, true, true, true, true, true, true, true, true, true, true, true, true, true, true, true, true, true, true, true, true, true, true, true, true, false, false, false, false, false, false, false, false, false, false, false, false, false, false, false, false, false, false, false, false, false, false, false, false, false] (take_ofW HT_.out HW_.out (by kernel_rfl)) hHeld ?_
                              refine one_ (i := 58) (N := some 79) #[true, true, true, true, true, true, true, true, true, true, true, true, true, true, true, true, true, true, true, true, true, true, true, true, true, true, true, true, true, true, true, true, true, true, true, true, true, true, true, true, true, true, true, true, true, true, true, true, true, true, true, true, true, true, true, true, true, true, true, false, false, false, false, false, false, false, false, false, false, false, false, false, false, false, false, false, false, false, false, false, false, false, false] rfl rfl (one_of HT_.out (by kernel_rfl)) (by decide) (fun K hK => ?_)
                              refine gc Try.func50 #[.agg #[.bool t4157, .int .i64 t4158, .int .i64 t4159]] (ints_Abs.calls k t4157 t4158 t4159 t4228 t4229 t4230 _ A36.out) ?_
                              intro w96 hb
                              have n0_ := Aside0.mk (Kd.R_below (by (with_reducible repeat (first | apply Kd.R_alloc | apply Kd.R_drewN | apply Kd.R_drew)); exact HO4218.out) hb)
                              have n1_ := kb BK4160 hb
                              have n2_ := kb BK4170 hb
                              have n3_ := kb BK4180 hb
                              have n4_ := kb BK4193 hb
                              have n5_ := kb BK4194 hb
                              have n6_ := kh HB hb
                              clear HO4218
                              clear BK4160
                              clear BK4170
                              clear BK4180
                              clear BK4193
                              clear BK4194
                              clear HB
                              have HO4218 := n0_
                              have BK4160 := n1_
                              have BK4170 := n2_
                              have BK4180 := n3_
                              have BK4193 := n4_
                              have BK4194 := n5_
                              have HB := n6_
                              clear n0_ n1_ n2_ n3_ n4_ n5_ n6_
                              (try clear hb)
                              (try clear hb2)
                              (try clear hk)
                              (try clear hi)
                              refine hK.out _ _ ⟨bc BK4160 0, bc BK4160 1, bc BK4160 2, bc BK4170 0, bc BK4170 1, bc BK4170 2, bc BK4180 0, bc BK4180 1, bc BK4180 2, bc BK4193 0, bc BK4193 1, bc BK4193 2, bc BK4194 0, bc BK4194 1, bc BK4194 2⟩ (fun hHeld => ?_)
                              clear hK K
                              refine nrm (some 79) ?_
                              refine one_ (i := 59) (N := some 80) #[true, true, true, true, true, true, true, true, true, true, true, true, true, true, true, true, true, true, true, true, true, true, true, true, true, true, true, true, true, true, true, true, true, true, true, true, true, true, true, true, true, true, true, true, true, true, true, true, true, true, true, true, true, true, true, true, true, true, true, true, false, false, false, false, false, false, false, false, false, false, false, false, false, false, false, false, false, false, false, false, false, false, false] rfl rfl (one_of HT_.out (by kernel_rfl)) (by decide) (fun K hK => ?_)
                              refine gc Try.func37 #[.int .i64 0, .int .i64 8] (ints_Make.calls 0 8 t4231 t4232 t4233 _ A37.out) ?_
                              intro w97 hb
                              have n0_ := Aside0.mk (Kd.R_below (by (with_reducible repeat (first | apply Kd.R_alloc | apply Kd.R_drewN | apply Kd.R_drew)); exact HO4218.out) hb)
                              have n1_ := kb BK4160 hb
                              have n2_ := kb BK4170 hb
                              have n3_ := kb BK4180 hb
                              have n4_ := kb BK4193 hb
                              have n5_ := kb BK4194 hb
                              have n6_ := kh HB hb
                              clear HO4218
                              clear BK4160
                              clear BK4170
                              clear BK4180
                              clear BK4193
                              clear BK4194
                              clear HB
                              have HO4218 := n0_
                              have BK4160 := n1_
                              have BK4170 := n2_
                              have BK4180 := n3_
                              have BK4193 := n4_
                              have BK4194 := n5_
                              have HB := n6_
                              clear n0_ n1_ n2_ n3_ n4_ n5_ n6_
                              (try clear hb)
                              (try clear hb2)
                              (try clear hk)
                              (try clear hi)
                              refine hK.out _ _ ⟨bc BK4160 0, bc BK4160 1, bc BK4160 2, bc BK4170 0, bc BK4170 1, bc BK4170 2, bc BK4180 0, bc BK4180 1, bc BK4180 2, bc BK4193 0, bc BK4193 1, bc BK4193 2, bc BK4194 0, bc BK4194 1, bc BK4194 2⟩ (fun hHeld => ?_)
                              clear hK K
                              refine nrm (some 80) ?_
                              refine pur 60 (some 81) #[true, true, true, true, true, true, true, true, true, true, true, true, true, true, true, true, true, true, true, true, true, true, true, true, true, true, true, true, true, true, true, true, true, true, true, true, true, true, true, true, true, true, true, true, true, true, true, true, true, true, true, true, true, true, true, true, true, true, true, true, true, false, false, false, false, false, false, false, false, false, false, false, false, false, false, false, false, false, false, false, false, false, false] (any_of HT_.out (by kernel_rfl)) ?_
                              refine pur 61 (some 82) #[true, true, true, true, true, true, true, true, true, true, true, true, true, true, true, true, true, true, true, true, true, true, true, true, true, true, true, true, true, true, true, true, true, true, true, true, true, true, true, true, true, true, true, true, true, true, true, true, true, true, true, true, true, true, true, true, true, true, true, true, true, true, false, false, false, false, false, false, false, false, false, false, false, false, false, false, false, false, false, false, false, false, false] (any_of HT_.out (by kernel_rfl)) ?_
                              refine pur 62 (some 83) #[true, true, true, true, true, true, true, true, true, true, true, true, true, true, true, true, true, true, true, true, true, true, true, true, true, true, true, true, true, true, true, true, true, true, true, true, true, true, true, true, true, true, true, true, true, true, true, true, true, true, true, true, true, true, true, true, true, true, true, true, true, true, true, false, false, false, false, false, false, false, false, false, false, false, false, false, false, false, false, false, false, false, false] (any_of HT_.out (by kernel_rfl)) ?_
                              refine tak 63 (some 84) #[true, true, true, true, true, true, true, true, true, true, true, true, true, true, true, true, true, true, true, true, true, true, true, true, true, true, true, true, true, true, true, true, true, true, true, true, true, true, true, true, true, true, true, true, true, true, true, true, true, true, true, true, true, true, true, true, true, true, true, true, true, true, true, true, false, false, false, false, false, false, false, false, false, false, false, false, false, false, false, false, false, false, false] (take_ofW HT_.out HW_.out (by kernel_rfl)) hHeld ?_
                              refine one_ (i := 64) (N := some 85) #[true, true, true, true, true, true, true, true, true, true, true, true, true, true, true, true, true, true, true, true, true, true, true, true, true, true, true, true, true, true, true, true, true, true, true, true, true, true, true, true, true, true, true, true, true, true, true, true, true, true, true, true, true, true, true, true, true, true, true, true, true, true, true, true, true, false, false, false, false, false, false, false, false, false, false, false, false, false, false, false, false, false, false] rfl rfl (one_of HT_.out (by kernel_rfl)) (by decide) (fun K hK => ?_)
                              refine gc Try.func48 #[.agg #[.bool t4157, .int .i64 t4158, .int .i64 t4159]] (ints_Neg.calls t4157 t4158 t4159 t4234 t4235 t4236 _ A39.out) ?_
                              intro w98 hb
                              have n0_ := Aside0.mk (Kd.R_below (by (with_reducible repeat (first | apply Kd.R_alloc | apply Kd.R_drewN | apply Kd.R_drew)); exact HO4218.out) hb)
                              have n1_ := kb BK4160 hb
                              have n2_ := kb BK4170 hb
                              have n3_ := kb BK4180 hb
                              have n4_ := kb BK4193 hb
                              have n5_ := kb BK4194 hb
                              have n6_ := kh HB hb
                              clear HO4218
                              clear BK4160
                              clear BK4170
                              clear BK4180
                              clear BK4193
                              clear BK4194
                              clear HB
                              have HO4218 := n0_
                              have BK4160 := n1_
                              have BK4170 := n2_
                              have BK4180 := n3_
                              have BK4193 := n4_
                              have BK4194 := n5_
                              have HB := n6_
                              clear n0_ n1_ n2_ n3_ n4_ n5_ n6_
                              (try clear hb)
                              (try clear hb2)
                              (try clear hk)
                              (try clear hi)
                              refine hK.out _ _ ⟨bc BK4160 0, bc BK4160 1, bc BK4160 2, bc BK4170 0, bc BK4170 1, bc BK4170 2, bc BK4180 0, bc BK4180 1, bc BK4180 2, bc BK4193 0, bc BK4193 1, bc BK4193 2, bc BK4194 0, bc BK4194 1, bc BK4194 2⟩ (fun hHeld => ?_)
                              clear hK K
                              refine nrm (some 85) ?_
                              refine one_ (i := 65) (N := some 86) #[true, true, true, true, true, true, true, true, true, true, true, true, true, true, true, true, true, true, true, true, true, true, true, true, true, true, true, true, true, true, true, true, true, true, true, true, true, true, true, true, true, true, true, true, true, true, true, true, true, true, true, true, true, true, true, true, true, true, true, true, true, true, true, true, true, true, false, false, false, false, false, false, false, false, false, false, false, false, false, false, false, false, false] rfl rfl (one_of HT_.out (by kernel_rfl)) (by decide) (fun K hK => ?_)
                              refine gc Try.func37 #[.int .i64 (-8), .int .i64 6] (ints_Make.calls (-8) 6 t4237 t4238 t4239 _ A40.out) ?_
                              intro w99 hb
                              have n0_ := Aside0.mk (Kd.R_below (by (with_reducible repeat (first | apply Kd.R_alloc | apply Kd.R_drewN | apply Kd.R_drew)); exact HO4218.out) hb)
                              have n1_ := kb BK4160 hb
                              have n2_ := kb BK4170 hb
                              have n3_ := kb BK4180 hb
                              have n4_ := kb BK4193 hb
                              have n5_ := kb BK4194 hb
                              have n6_ := kh HB hb
                              clear HO4218
                              clear BK4160
                              clear BK4170
                              clear BK4180
                              clear BK4193
                              clear BK4194
                              clear HB
                              have HO4218 := n0_
                              have BK4160 := n1_
                              have BK4170 := n2_
                              have BK4180 := n3_
                              have BK4193 := n4_
                              have BK4194 := n5_
                              have HB := n6_
                              clear n0_ n1_ n2_ n3_ n4_ n5_ n6_
                              (try clear hb)
                              (try clear hb2)
                              (try clear hk)
                              (try clear hi)
                              refine hK.out _ _ ⟨bc BK4160 0, bc BK4160 1, bc BK4160 2, bc BK4170 0, bc BK4170 1, bc BK4170 2, bc BK4180 0, bc BK4180 1, bc BK4180 2, bc BK4193 0, bc BK4193 1, bc BK4193 2, bc BK4194 0, bc BK4194 1, bc BK4194 2⟩ (fun hHeld => ?_)
                              clear hK K
                              refine nrm (some 86) ?_
                              refine pur 66 (some 87) #[true, true, true, true, true, true, true, true, true, true, true, true, true, true, true, true, true, true, true, true, true, true, true, true, true, true, true, true, true, true, true, true, true, true, true, true, true, true, true, true, true, true, true, true, true, true, true, true, true, true, true, true, true, true, true, true, true, true, true, true, true, true, true, true, true, true, true, false, false, false, false, false, false, false, false, false, false, false, false, false, false, false, false] (any_of HT_.out (by kernel_rfl)) ?_
                              refine pur 67 (some 88) #[true, true, true, true, true, true, true, true, true, true, true, true, true, true, true, true, true, true, true, true, true, true, true, true, true, true, true, true, true, true, true, true, true, true, true, true, true, true, true, true, true, true, true, true, true, true, true, true, true, true, true, true, true, true, true, true, true, true, true, true, true, true, true, true, true, true, true, true, false, false, false, false, false, false, false, false, false, false, false, false, false, false, false] (any_of HT_.out (by kernel_rfl)) ?_
                              refine pur 68 (some 89) #[true, true, true, true, true, true, true, true, true, true, true, true, true, true, true, true, true, true, true, true, true, true, true, true, true, true, true, true, true, true, true, true, true, true, true, true, true, true, true, true, true, true, true, true, true, true, true, true, true, true, true, true, true, true, true, true, true, true, true, true, true, true, true, true, true, true, true, true, true, false, false, false, false, false, false, false, false, false, false, false, false, false, false] (any_of HT_.out (by kernel_rfl)) ?_
                              refine tak 69 (some 90) #[true, true, true, true, true, true, true, true, true, true, true, true, true, true, true, true, true, true, true, true, true, true, true, true, true, true, true, true, true, true, true, true, true, true, true, true, true, true, true, true, true, true, true, true, true, true, true, true, true, true, true, true, true, true, true, true, true, true, true, true, true, true, true, true, true, true, true, true, true, true, false, false, false, false, false, false, false, false, false, false, false, false, false] (take_ofW HT_.out HW_.out (by kernel_rfl)) hHeld ?_
                              refine tak 70 (some 91) #[true, true, true, true, true, true, true, true, true, true, true, true, true, true, true, true, true, true, true, true, true, true, true, true, true, true, true, true, true, true, true, true, true, true, true, true, true, true, true, true, true, true, true, true, true, true, true, true, true, true, true, true, true, true, true, true, true, true, true, true, true, true, true, true, true, true, true, true, true, true, true, false, false, false, false, false, false, false, false, false, false, false, false] (take_ofW HT_.out HW_.out (by kernel_rfl)) hHeld ?_
                              refine one_ (i := 71) (N := some 92) #[true, true, true, true, true, true, true, true, true, true, true, true, true, true, true, true, true, true, true, true, true, true, true, true, true, true, true, true, true, true, true, true, true, true, true, true, true, true, true, true, true, true, true, true, true, true, true, true, true, true, true, true, true, true, true, true, true, true, true, true, true, true, true, true, true, true, true, true, true, true, true, true, false, false, false, false, false, false, false, false, false, false, false] rfl rfl (one_of HT_.out (by kernel_rfl)) (by decide) (fun K hK => ?_)
                              refine gc Try.func51 #[.agg #[.bool t4187, .int .i64 t4188, .int .i64 t4189], .agg #[.bool t4190, .int .i64 t4191, .int .i64 t4192]] (ints_Add.calls k t4187 t4188 t4189 t4190 t4191 t4192 t4240 t4241 t4242 _ A42.out) ?_
                              intro w100 hb
                              have n0_ := Aside0.mk (Kd.R_below (by (with_reducible repeat (first | apply Kd.R_alloc | apply Kd.R_drewN | apply Kd.R_drew)); exact HO4218.out) hb)
                              have n1_ := kb BK4160 hb
                              have n2_ := kb BK4170 hb
                              have n3_ := kb BK4180 hb
                              have n4_ := kb BK4193 hb
                              have n5_ := kb BK4194 hb
                              have n6_ := kh HB hb
                              clear HO4218
                              clear BK4160
                              clear BK4170
                              clear BK4180
                              clear BK4193
                              clear BK4194
                              clear HB
                              have HO4218 := n0_
                              have BK4160 := n1_
                              have BK4170 := n2_
                              have BK4180 := n3_
                              have BK4193 := n4_
                              have BK4194 := n5_
                              have HB := n6_
                              clear n0_ n1_ n2_ n3_ n4_ n5_ n6_
                              (try clear hb)
                              (try clear hb2)
                              (try clear hk)
                              (try clear hi)
                              refine hK.out _ _ ⟨bc BK4160 0, bc BK4160 1, bc BK4160 2, bc BK4170 0, bc BK4170 1, bc BK4170 2, bc BK4180 0, bc BK4180 1, bc BK4180 2, bc BK4193 0, bc BK4193 1, bc BK4193 2, bc BK4194 0, bc BK4194 1, bc BK4194 2⟩ (fun hHeld => ?_)
                              clear hK K
                              refine nrm (some 92) ?_
                              refine one_ (i := 72) (N := some 93) #[true, true, true, true, true, true, true, true, true, true, true, true, true, true, true, true, true, true, true, true, true, true, true, true, true, true, true, true, true, true, true, true, true, true, true, true, true, true, true, true, true, true, true, true, true, true, true, true, true, true, true, true, true, true, true, true, true, true, true, true, true, true, true, true, true, true, true, true, true, true, true, true, true, false, false, false, false, false, false, false, false, false, false] rfl rfl (one_of HT_.out (by kernel_rfl)) (by decide) (fun K hK => ?_)
                              refine gc Try.func37 #[.int .i64 3, .int .i64 5] (ints_Make.calls 3 5 t4243 t4244 t4245 _ A43.out) ?_
                              intro w101 hb
                              have n0_ := Aside0.mk (Kd.R_below (by (with_reducible repeat (first | apply Kd.R_alloc | apply Kd.R_drewN | apply Kd.R_drew)); exact HO4218.out) hb)
                              have n1_ := kb BK4160 hb
                              have n2_ := kb BK4170 hb
                              have n3_ := kb BK4180 hb
                              have n4_ := kb BK4193 hb
                              have n5_ := kb BK4194 hb
                              have n6_ := kh HB hb
                              clear HO4218
                              clear BK4160
                              clear BK4170
                              clear BK4180
                              clear BK4193
                              clear BK4194
                              clear HB
                              have HO4218 := n0_
                              have BK4160 := n1_
                              have BK4170 := n2_
                              have BK4180 := n3_
                              have BK4193 := n4_
                              have BK4194 := n5_
                              have HB := n6_
                              clear n0_ n1_ n2_ n3_ n4_ n5_ n6_
                              (try clear hb)
                              (try clear hb2)
                              (try clear hk)
                              (try clear hi)
                              refine hK.out _ _ ⟨bc BK4160 0, bc BK4160 1, bc BK4160 2, bc BK4170 0, bc BK4170 1, bc BK4170 2, bc BK4180 0, bc BK4180 1, bc BK4180 2, bc BK4193 0, bc BK4193 1, bc BK4193 2, bc BK4194 0, bc BK4194 1, bc BK4194 2⟩ (fun hHeld => ?_)
                              clear hK K
                              refine nrm (some 93) ?_
                              refine pur 73 (some 94) #[true, true, true, true, true, true, true, true, true, true, true, true, true, true, true, true, true, true, true, true, true, true, true, true, true, true, true, true, true, true, true, true, true, true, true, true, true, true, true, true, true, true, true, true, true, true, true, true, true, true, true, true, true, true, true, true, true, true, true, true, true, true, true, true, true, true, true, true, true, true, true, true, true, true, false, false, false, false, false, false, false, false, false] (any_of HT_.out (by kernel_rfl)) ?_
                              refine pur 74 (some 95) #[true, true, true, true, true, true, true, true, true, true, true, true, true, true, true, true, true, true, true, true, true, true, true, true, true, true, true, true, true, true, true, true, true, true, true, true, true, true, true, true, true, true, true, true, true, true, true, true, true, true, true, true, true, true, true, true, true, true, true, true, true, true, true, true, true, true, true, true, true, true, true, true, true, true, true, false, false, false, false, false, false, false, false] (any_of HT_.out (by kernel_rfl)) ?_
                              refine pur 75 (some 96) #[true, true, true, true, true, true, true, true, true, true, true, true, true, true, true, true, true, true, true, true, true, true, true, true, true, true, true, true, true, true, true, true, true, true, true, true, true, true, true, true, true, true, true, true, true, true, true, true, true, true, true, true, true, true, true, true, true, true, true, true, true, true, true, true, true, true, true, true, true, true, true, true, true, true, true, true, false, false, false, false, false, false, false] (any_of HT_.out (by kernel_rfl)) ?_
                              refine tak 76 (some 97) #[true, true, true, true, true, true, true, true, true, true, true, true, true, true, true, true, true, true, true, true, true, true, true, true, true, true, true, true, true, true, true, true, true, true, true, true, true, true, true, true, true, true, true, true, true, true, true, true, true, true, true, true, true, true, true, true, true, true, true, true, true, true, true, true, true, true, true, true, true, true, true, true, true, true, true, true, true, false, false, false, false, false, false] (take_ofW HT_.out HW_.out (by kernel_rfl)) hHeld ?_
                              refine tak 77 (some 98) #[true, true, true, true, true, true, true, true, true, true, true, true, true, true, true, true, true, true, true, true, true, true, true, true, true, true, true, true, true, true, true, true, true, true, true, true, true, true, true, true, true, true, true, true, true, true, true, true, true, true, true, true, true, true, true, true, true, true, true, true, true, true, true, true, true, true, true, true, true, true, true, true, true, true, true, true, true, true, false, false, false, false, false] (take_ofW HT_.out HW_.out (by kernel_rfl)) hHeld ?_
                              refine one_ (i := 78) (N := some 99) #[true, true, true, true, true, true, true, true, true, true, true, true, true, true, true, true, true, true, true, true, true, true, true, true, true, true, true, true, true, true, true, true, true, true, true, true, true, true, true, true, true, true, true, true, true, true, true, true, true, true, true, true, true, true, true, true, true, true, true, true, true, true, true, true, true, true, true, true, true, true, true, true, true, true, true, true, true, true, true, false, false, false, false] rfl rfl (one_of HT_.out (by kernel_rfl)) (by decide) (fun K hK => ?_)
                              refine gc Try.func52 #[.agg #[.bool t4187, .int .i64 t4188, .int .i64 t4189], .agg #[.bool t4190, .int .i64 t4191, .int .i64 t4192]] (ints_Sub.calls k t4187 t4188 t4189 t4190 t4191 t4192 t4246 t4247 t4248 _ A45.out) ?_
                              intro w102 hb
                              have n0_ := Aside0.mk (Kd.R_below (by (with_reducible repeat (first | apply Kd.R_alloc | apply Kd.R_drewN | apply Kd.R_drew)); exact HO4218.out) hb)
                              have n1_ := kb BK4160 hb
                              have n2_ := kb BK4170 hb
                              have n3_ := kb BK4180 hb
                              have n4_ := kb BK4193 hb
                              have n5_ := kb BK4194 hb
                              have n6_ := kh HB hb
                              clear HO4218
                              clear BK4160
                              clear BK4170
                              clear BK4180
                              clear BK4193
                              clear BK4194
                              clear HB
                              have HO4218 := n0_
                              have BK4160 := n1_
                              have BK4170 := n2_
                              have BK4180 := n3_
                              have BK4193 := n4_
                              have BK4194 := n5_
                              have HB := n6_
                              clear n0_ n1_ n2_ n3_ n4_ n5_ n6_
                              (try clear hb)
                              (try clear hb2)
                              (try clear hk)
                              (try clear hi)
                              refine hK.out _ _ ⟨bc BK4160 0, bc BK4160 1, bc BK4160 2, bc BK4170 0, bc BK4170 1, bc BK4170 2, bc BK4180 0, bc BK4180 1, bc BK4180 2, bc BK4193 0, bc BK4193 1, bc BK4193 2, bc BK4194 0, bc BK4194 1, bc BK4194 2⟩ (fun hHeld => ?_)
                              clear hK K
                              refine nrm (some 99) ?_
                              refine one_ (i := 79) (N := some 100) #[true, true, true, true, true, true, true, true, true, true, true, true, true, true, true, true, true, true, true, true, true, true, true, true, true, true, true, true, true, true, true, true, true, true, true, true, true, true, true, true, true, true, true, true, true, true, true, true, true, true, true, true, true, true, true, true, true, true, true, true, true, true, true, true, true, true, true, true, true, true, true, true, true, true, true, true, true, true, true, true, false, false, false] rfl rfl (one_of HT_.out (by kernel_rfl)) (by decide) (fun K hK => ?_)
                              refine gc Try.func37 #[.int .i64 (-3), .int .i64 (-1)] (ints_Make.calls (-3) (-1) t4249 t4250 t4251 _ A46.out) ?_
                              intro w103 hb
                              have n0_ := Aside0.mk (Kd.R_below (by (with_reducible repeat (first | apply Kd.R_alloc | apply Kd.R_drewN | apply Kd.R_drew)); exact HO4218.out) hb)
                              have n1_ := kb BK4160 hb
                              have n2_ := kb BK4170 hb
                              have n3_ := kb BK4180 hb
                              have n4_ := kb BK4193 hb
                              have n5_ := kb BK4194 hb
                              have n6_ := kh HB hb
                              clear HO4218
                              clear BK4160
                              clear BK4170
                              clear BK4180
                              clear BK4193
                              clear BK4194
                              clear HB
                              have HO4218 := n0_
                              have BK4160 := n1_
                              have BK4170 := n2_
                              have BK4180 := n3_
                              have BK4193 := n4_
                              have BK4194 := n5_
                              have HB := n6_
                              clear n0_ n1_ n2_ n3_ n4_ n5_ n6_
                              (try clear hb)
                              (try clear hb2)
                              (try clear hk)
                              (try clear hi)
                              refine hK.out _ _ ⟨bc BK4160 0, bc BK4160 1, bc BK4160 2, bc BK4170 0, bc BK4170 1, bc BK4170 2, bc BK4180 0, bc BK4180 1, bc BK4180 2, bc BK4193 0, bc BK4193 1, bc BK4193 2, bc BK4194 0, bc BK4194 1, bc BK4194 2⟩ (fun hHeld => ?_)
                              clear hK K
                              refine nrm (some 100) ?_
                              refine pur 80 (some 101) #[true, true, true, true, true, true, true, true, true, true, true, true, true, true, true, true, true, true, true, true, true, true, true, true, true, true, true, true, true, true, true, true, true, true, true, true, true, true, true, true, true, true, true, true, true, true, true, true, true, true, true, true, true, true, true, true, true, true, true, true, true, true, true, true, true, true, true, true, true, true, true, true, true, true, true, true, true, true, true, true, true, false, false] (any_of HT_.out (by kernel_rfl)) ?_
                              refine pur 81 (some 102) #[true, true, true, true, true, true, true, true, true, true, true, true, true, true, true, true, true, true, true, true, true, true, true, true, true, true, true, true, true, true, true, true, true, true, true, true, true, true, true, true, true, true, true, true, true, true, true, true, true, true, true, true, true, true, true, true, true, true, true, true, true, true, true, true, true, true, true, true, true, true, true, true, true, true, true, true, true, true, true, true, true, true, false] (any_of HT_.out (by kernel_rfl)) ?_
                              refine pur 82 (some 0) #[true, true, true, true, true, true, true, true, true, true, true, true, true, true, true, true, true, true, true, true, true, true, true, true, true, true, true, true, true, true, true, true, true, true, true, true, true, true, true, true, true, true, true, true, true, true, true, true, true, true, true, true, true, true, true, true, true, true, true, true, true, true, true, true, true, true, true, true, true, true, true, true, true, true, true, true, true, true, true, true, true, true, true] (any_of HT_.out (by kernel_rfl)) ?_
                              refine done_ (done_of HT_.out (by kernel_rfl)) ?_
                              try go_wp2
                              go_ret
                              exact ⟨pe, pl HB⟩
                            · rw [if_neg c44] at H
                              exact absurd H (by simp)
                          · rw [if_neg c41] at H
                            exact absurd H (by simp)
                        · rw [if_neg c38] at H
                          exact absurd H (by simp)
                      · rw [if_neg c35] at H
                        exact absurd H (by simp)
                    · rw [if_neg c33] at H
                      exact absurd H (by simp)
                  · replace c30 := Bool.eq_false_iff.mpr c30
                    subst c30
                    rw [if_neg (show ¬ (false = true) by decide)] at H
                    exact absurd H (by simp)
              · replace c26 := Bool.eq_false_iff.mpr c26
                subst c26
                rw [if_neg (show ¬ (false = true) by decide)] at H
                exact absurd H (by simp)
            · rw [if_neg c24] at H
              exact absurd H (by simp)
          · rw [if_neg c21] at H
            exact absurd H (by simp)
        · rw [if_neg c19] at H
          exact absurd H (by simp)
      · replace c17 := Bool.eq_false_iff.mpr c17
        subst c17
        rw [if_neg (show ¬ (false = true) by decide)] at H
        exact absurd H (by simp)
    · rw [if_neg c16] at H
      exact absurd H (by simp)
  · rw [if_neg c14] at H
    exact absurd H (by simp)
end Go.Proofs.Ytinmgnlofininaa.PAll
end
