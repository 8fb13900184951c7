/- Functions of the print, turned to this claim. -/
import Derived.Test.YtdchdapllehppaaZVW
import Derived.Test.YtdchdapllehppaaZVx0
import Derived.Test.YtdchdapllehppaaZVx5
import Derived.Test.YtdchdapllehppaaZVx6
import Derived.Test.YtdchdapllehppaaZVx9
import Derived.Test.YtdchdapllehppaaZVx14
import Derived.Test.YtdchdapllehppaaZVx15
import Derived.Test.YtdchdapllehppaaZVx19
section
namespace Go.Proofs.Ytdchdapllehppaa.PAll
open Go.RowKit Go.Proofs.YtdchdapllehppaaW.PrintWords Go.Proofs.YtdchdapllehppaaW.PrintLast Go.Proofs.YtdchdapllehppaaW.PrintMore
attribute [local go_sem] max2_int min2_int max_two min_two max_three min_three max_four min_four   -- for this text's walks alone
set_option linter.unusedVariables false
set_option linter.unusedSimpArgs false
/-! ### flyballlaw01_WideMuls: function 5 -/
def flyballlaw01_WideMuls.f (k : Nat) (a0_0 : Int) (a0_1 : Int) (a1 : Int) : Option (Bool) := (flyballlaw01_works.f k).bind fun t6402 => (if t6402 = true then ((wide_Mul.f a0_1 a1).bind fun bt6403 => ((flyballref01_Of.f k (([a0_1] : List Int))).bind fun t6408 => ((flyballref01_Of.f k (([a1] : List Int))).bind fun t6414 => ((flyballref01_Mul.f k t6408 t6414).bind fun t6417 => ((flyballlaw01_is.f k bt6403.1 bt6403.2 t6417).bind fun t6420 => ((wide_U128_Mul.f a0_0 a0_1 a1).bind fun bt6421 => ((flyballlaw01_of.f k a0_0 a0_1).bind fun t6424 => ((flyballref01_Of.f k (([a1] : List Int))).bind fun t6430 => ((flyballref01_Mul.f k t6424 t6430).bind fun t6433 => ((flyballlaw01_is3.f k bt6421.1 bt6421.2.1 bt6421.2.2 t6433).bind fun t6436 => (if t6420 = true then (some t6436) else (none)))))))))))) else (some false))
theorem flyballlaw01_WideMuls.mono : ∀ a0 a1 a2 k, LeO (flyballlaw01_WideMuls.f k a0 a1 a2) (flyballlaw01_WideMuls.f (k + 1) a0 a1 a2) := by
  intro a0 a1 a2 k
  unfold flyballlaw01_WideMuls.f
  repeat' first
      | (with_reducible exact flyballlaw01_is.mono _ _ _ _)
      | (with_reducible exact flyballlaw01_is3.mono _ _ _ _ _)
      | (with_reducible exact flyballlaw01_of.mono _ _ _)
      | (with_reducible exact flyballlaw01_works.mono _)
      | (with_reducible exact flyballref01_Mul.mono _ _ _)
      | (with_reducible exact flyballref01_Of.mono _ _)
      | (with_reducible exact LeO.refl _)
      | (with_reducible exact LeO.none _)
      | (with_reducible refine LeO.ite ?_ ?_)
      | (with_reducible refine LeO.bind ?_ (fun _ => ?_))
      | exact flyballlaw01_is.mono _ _ _ _
      | exact flyballlaw01_is3.mono _ _ _ _ _
      | exact flyballlaw01_of.mono _ _ _
      | exact flyballlaw01_works.mono _
      | exact flyballref01_Mul.mono _ _ _
      | exact flyballref01_Of.mono _ _
      | exact LeO.none _
      | refine LeO.ite ?_ ?_
      | refine LeO.bind ?_ (fun _ => ?_)
def flyballlaw01_WideMuls.T4 : Bool × List (List Nat × List Nat) := (true, [([], []), ([0], [0]), ([], []), ([1, 2], [1, 2]), ([], []), ([4], [4]), ([5], [5]), ([6, 3], [6]), ([], []), ([8], [8]), ([9, 7], [9]), ([7, 10, 10], [7, 10]), ([3, 11, 11], [3, 11]), ([12, 12, 0, 1, 2, 3, 4, 5, 6, 7, 8, 9, 10, 11, 12], [12])])
def flyballlaw01_WideMuls.B4 : List Nat := [0, 1, 0, 7, 0, 16, 48, 127, 0, 256, 1023, 2047, 4095, 8191]
theorem flyballlaw01_WideMuls.tab4 : rtab .any (opsOf Try.f5 4) = flyballlaw01_WideMuls.T4 := by kernel_rfl
theorem flyballlaw01_WideMuls.bits4 : waitsOk flyballlaw01_WideMuls.T4.2 flyballlaw01_WideMuls.B4 = true := by kernel_rfl
def flyballlaw01_WideMuls.T5 : Bool × List (List Nat × List Nat) := (true, [([], []), ([], []), ([0, 1], [0, 1]), ([], []), ([3, 2], [3]), ([], []), ([5], [5]), ([6, 4], [6]), ([4, 7, 7], [4, 7]), ([2, 8, 8], [2, 8]), ([9, 9, 0, 1, 2, 3, 4, 5, 6, 7, 8, 9], [9])])
def flyballlaw01_WideMuls.B5 : List Nat := [0, 0, 3, 0, 15, 0, 32, 127, 255, 511, 1023]
theorem flyballlaw01_WideMuls.tab5 : rtab .any (opsOf Try.f5 5) = flyballlaw01_WideMuls.T5 := by kernel_rfl
theorem flyballlaw01_WideMuls.bits5 : waitsOk flyballlaw01_WideMuls.T5.2 flyballlaw01_WideMuls.B5 = true := by kernel_rfl
set_option maxHeartbeats 8000000 in
set_option maxRecDepth 100000 in
theorem flyballlaw01_WideMuls.calls (k : Nat) (a0_0 : Int) (a0_1 : Int) (a1 : Int) (r : Bool) (w : World) (h : flyballlaw01_WideMuls.f k a0_0 a0_1 a1 = some r) :
    Calls Try.prog 5 #[.agg #[.int .u64 a0_0, .int .u64 a0_1], .int .u64 a1] w fun e w' => e = .returned (.bool r) ∧ Below w.heap.size w w' := by
  have hu24 := Try.underlying24
  have HB := Aside0.mk (Below.refl w.heap.size w)
  have H := h
  clear h
  unfold flyballlaw01_WideMuls.f at H
  obtain ⟨t6402, A30, H⟩ := Option.bind_eq_some_iff.mp H
  have A3 := Aside0.mk A30
  clear A30
  (try dsimp only at H)
  by_cases c4 : t6402 = true
  · subst c4
    rw [if_pos rfl] at H
    obtain ⟨⟨t6403, t6404⟩, A50, H⟩ := Option.bind_eq_some_iff.mp H
    have A5 := Aside0.mk A50
    clear A50
    (try dsimp only at H)
    obtain ⟨y6405, hy6405⟩ : ∃ y_ : List Int, y_ = (([a0_1] : List Int)) := ⟨_, rfl⟩
    replace H : ((flyballref01_Of.f k y6405).bind fun t6408 => ((flyballref01_Of.f k (([a1] : List Int))).bind fun t6414 => ((flyballref01_Mul.f k t6408 t6414).bind fun t6417 => ((flyballlaw01_is.f k t6403 t6404 t6417).bind fun t6420 => ((wide_U128_Mul.f a0_0 a0_1 a1).bind fun bt6421 => ((flyballlaw01_of.f k a0_0 a0_1).bind fun t6424 => ((flyballref01_Of.f k (([a1] : List Int))).bind fun t6430 => ((flyballref01_Mul.f k t6424 t6430).bind fun t6433 => ((flyballlaw01_is3.f k bt6421.1 bt6421.2.1 bt6421.2.2 t6433).bind fun t6436 => (if t6420 = true then (some t6436) else (none))))))))))) = some r := by first | (rw [hy6405]; with_reducible exact H) | (have H2_ := (Option.bind_some _ _).symm.trans H; rw [hy6405]; with_reducible exact H2_) | (have H2_ := (Option.bind_some _ _).symm.trans H; with_reducible exact H2_) | with_reducible exact H | (rw [hy6405]; exact H) | exact H
    have Ny6405 := Aside0.mk hy6405
    clear hy6405
    obtain ⟨t6408, A60, H⟩ := Option.bind_eq_some_iff.mp H
    have A6 := Aside0.mk A60
    clear A60
    (try dsimp only at H)
    obtain ⟨y6411, hy6411⟩ : ∃ y_ : List Int, y_ = (([a1] : List Int)) := ⟨_, rfl⟩
    replace H : ((flyballref01_Of.f k y6411).bind fun t6414 => ((flyballref01_Mul.f k t6408 t6414).bind fun t6417 => ((flyballlaw01_is.f k t6403 t6404 t6417).bind fun t6420 => ((wide_U128_Mul.f a0_0 a0_1 a1).bind fun bt6421 => ((flyballlaw01_of.f k a0_0 a0_1).bind fun t6424 => ((flyballref01_Of.f k (([a1] : List Int))).bind fun t6430 => ((flyballref01_Mul.f k t6424 t6430).bind fun t6433 => ((flyballlaw01_is3.f k bt6421.1 bt6421.2.1 bt6421.2.2 t6433).bind fun t6436 => (if t6420 = true then (some t6436) else (none)))))))))) = some r := by first | (rw [hy6411]; with_reducible exact H) | (have H2_ := (Option.bind_some _ _).symm.trans H; rw [hy6411]; with_reducible exact H2_) | (have H2_ := (Option.bind_some _ _).symm.trans H; with_reducible exact H2_) | with_reducible exact H | (rw [hy6411]; exact H) | exact H
    have Ny6411 := Aside0.mk hy6411
    clear hy6411
    obtain ⟨t6414, A70, H⟩ := Option.bind_eq_some_iff.mp H
    have A7 := Aside0.mk A70
    clear A70
    (try dsimp only at H)
    obtain ⟨t6417, A80, H⟩ := Option.bind_eq_some_iff.mp H
    have A8 := Aside0.mk A80
    clear A80
    (try dsimp only at H)
    obtain ⟨t6420, A90, H⟩ := Option.bind_eq_some_iff.mp H
    have A9 := Aside0.mk A90
    clear A90
    (try dsimp only at H)
    obtain ⟨⟨t6421, t6422, t6423⟩, A100, H⟩ := Option.bind_eq_some_iff.mp H
    have A10 := Aside0.mk A100
    clear A100
    (try dsimp only at H)
    obtain ⟨t6424, A110, H⟩ := Option.bind_eq_some_iff.mp H
    have A11 := Aside0.mk A110
    clear A110
    (try dsimp only at H)
    obtain ⟨y6427, hy6427⟩ : ∃ y_ : List Int, y_ = (([a1] : List Int)) := ⟨_, rfl⟩
    replace H : ((flyballref01_Of.f k y6427).bind fun t6430 => ((flyballref01_Mul.f k t6424 t6430).bind fun t6433 => ((flyballlaw01_is3.f k t6421 t6422 t6423 t6433).bind fun t6436 => (if t6420 = true then (some t6436) else (none))))) = some r := by first | (rw [hy6427]; with_reducible exact H) | (have H2_ := (Option.bind_some _ _).symm.trans H; rw [hy6427]; with_reducible exact H2_) | (have H2_ := (Option.bind_some _ _).symm.trans H; with_reducible exact H2_) | with_reducible exact H | (rw [hy6427]; exact H) | exact H
    have Ny6427 := Aside0.mk hy6427
    clear hy6427
    obtain ⟨t6430, A120, H⟩ := Option.bind_eq_some_iff.mp H
    have A12 := Aside0.mk A120
    clear A120
    (try dsimp only at H)
    obtain ⟨t6433, A130, H⟩ := Option.bind_eq_some_iff.mp H
    have A13 := Aside0.mk A130
    clear A130
    (try dsimp only at H)
    obtain ⟨t6436, A140, H⟩ := Option.bind_eq_some_iff.mp H
    have A14 := Aside0.mk A140
    clear A140
    (try dsimp only at H)
    by_cases c15 : t6420 = true
    · subst c15
      rw [if_pos rfl] at H
      obtain rfl := Option.some.inj H
      go_enter Try.func5, Try.ntmps5
      try go_wp2_with (first | ((with_reducible refine gate_dst (N := 2) rfl ?_); refine kx 2 #[.int .u64 a0_0, .int .u64 a0_1] 24 ?_; intro gb6401 hg w16 hbox hb; have BK6401 := Aside0.mk (hbox); have GW6401 := kg HB hg; have GE6401 := kg HB hg; replace HB := kh HB hb; clear hb hbox hg) | ((with_reducible refine gate_callee (f := 11) rfl ?_); refine kc (some 8) Try.func11 #[] (flyballlaw01_works.calls k  true _ A3.out) ?_; intro w17 hb; replace BK6401 := kb BK6401 hb; replace HB := kh HB hb; (try clear hb); (try clear hb2); (try clear hk); (try clear hi)))
      replace BK6401 := Aside0.mk (blk_drew BK6401.out)
      replace HB := Aside0.mk (below_drew1 HB.out)
      refine start_ (n := 14) (S := fun w' => True) (ds := []) #[false, false, false, false, false, false, false, false, false, false, false, false, false, false] (by kernel_rfl) rfl rfl trivial (fun hHeld => ?_); refine with_tabW flyballlaw01_WideMuls.tab4 flyballlaw01_WideMuls.bits4 (fun HT_ HW_ => ?_)
      generalize w17.drew = w18 at BK6401 HB hHeld ⊢
      refine pur 0 (some 11) #[true, false, false, false, false, false, false, false, false, false, false, false, false, false] (any_of HT_.out (by kernel_rfl)) ?_
      refine pur 2 (some 13) #[true, false, true, false, false, false, false, false, false, false, false, false, false, false] (any_of HT_.out (by kernel_rfl)) ?_
      refine pur 4 (some 15) #[true, false, true, false, true, false, false, false, false, false, false, false, false, false] (any_of HT_.out (by kernel_rfl)) ?_
      refine pur 8 (some 19) #[true, false, true, false, true, false, false, false, true, false, false, false, false, false] (any_of HT_.out (by kernel_rfl)) ?_
      refine inv_at [1, 3, 5, 6, 7, 9, 10, 11, 12, 13] (fun a0_ b a w' => ∃ (v6406 : Value) (v6409 : Value) (v6412 : Value) (v6415 : Value) (v6418 : Value), a = putSel a0_ b [(1, 12, .int .u64 a0_1), (3, 14, .agg #[.int .u64 t6403, .int .u64 t6404]), (5, 16, .int .u64 a0_1), (6, 17, v6406), (7, 18, v6409), (9, 20, v6412), (10, 21, v6415), (11, 22, v6418), (12, 23, .bool true), (13, 6, .bool true)] ∧ (w'.heap[gb6401]? = some (.cells #[.int .u64 a0_0, .int .u64 a0_1] 24 (0, 0))) ∧ (Below w.heap.size w w') ∧ (b 6 = true → Kd.R (Kd.int .u64) 22 w' w.heap.size (fun _ => True) v6406 y6405) ∧ (b 7 = true → Kd.R Kd.bool 4 w' w.heap.size (fun _ => True) v6409 t6408) ∧ (b 9 = true → Kd.R (Kd.int .u64) 22 w' w.heap.size (fun _ => True) v6412 y6411) ∧ (b 10 = true → Kd.R Kd.bool 4 w' w.heap.size (fun _ => True) v6415 t6414) ∧ (b 11 = true → Kd.R Kd.bool 4 w' w.heap.size (fun _ => True) v6418 t6417)) HT_.out HW_.out (by kernel_rfl) (by kernel_rfl) ?_ ?_ ?_
      · exact ⟨.bool false, .bool false, .bool false, .bool false, .bool false, by simp only [putSel, Bool.false_eq_true, if_false], BK6401.out, HB.out, fun h_ => absurd h_ (by decide), fun h_ => absurd h_ (by decide), fun h_ => absurd h_ (by decide), fun h_ => absurd h_ (by decide), fun h_ => absurd h_ (by decide)⟩
      · skip
        clear BK6401 HB
        refine steps_cons ?_ ?_
        · rintro b a w' ⟨v6406, v6409, v6412, v6415, v6418, ha, Q_BK6401, Q_HB, Q_HO6407, Q_HO6410, Q_HO6413, Q_HO6416, Q_HO6419⟩ hb_ hon hoff
          refine ⟨_, rfl, fun K hK => ?_⟩
          have e11 : a.tmps[11]? = some (.pointer (some ⟨gb6401, 1, none⟩)) := by rw [ha]; exact (putSel_off rfl).trans rfl
          replace ha := Aside0.mk ha
          have BK6401 := Aside0.mk Q_BK6401
          have HB := Aside0.mk Q_HB
          have hc0_ : w'.cell? ⟨gb6401, 0, none⟩ = some (.int .u64 a0_0) := bc BK6401 0
          have hc1_ : w'.cell? ⟨gb6401, 1, none⟩ = some (.int .u64 a0_1) := bc BK6401 1
          refine value_ (w1 := w') (v := .int .u64 a0_1) (by rfl) rfl ?_ ?_
          · go_simp
            (try simp only [i64_w])
            try rfl
          refine hK.out _ _ ⟨v6406, v6409, v6412, v6415, v6418, (by rw [ha.out]; exact putSel_upk 0 hb_ rfl rfl rfl), Q_BK6401, Q_HB, Q_HO6407, fun h0_ => absurd ((hoff 7 (by kernel_rfl)).symm.trans h0_) (by decide), Q_HO6413, fun h0_ => absurd ((hoff 10 (by kernel_rfl)).symm.trans h0_) (by decide), fun h0_ => absurd ((hoff 11 (by kernel_rfl)).symm.trans h0_) (by decide)⟩
        refine steps_cons ?_ ?_
        · rintro b a w' ⟨v6406, v6409, v6412, v6415, v6418, ha, Q_BK6401, Q_HB, Q_HO6407, Q_HO6410, Q_HO6413, Q_HO6416, Q_HO6419⟩ hb_ hon hoff
          refine ⟨_, rfl, fun K hK => ?_⟩
          have e12 : a.tmps[12]? = some (.int .u64 a0_1) := by rw [ha]; exact putSel_on (e := (1, 12, .int .u64 a0_1)) 0 rfl rfl (hon 1 (by kernel_rfl)) rfl
          have e13 : a.tmps[13]? = some (.int .u64 a1) := by rw [ha]; exact (putSel_off rfl).trans rfl
          replace ha := Aside0.mk ha
          have BK6401 := Aside0.mk Q_BK6401
          have HB := Aside0.mk Q_HB
          refine goes_ Try.func27 (by kernel_rfl) rfl #[.int .u64 a0_1, .int .u64 a1] (by rfl) rfl rfl (by first | (simp only [List.map_toArray, List.map_cons, List.map_nil, Act.eval, Array.getD_eq_getD_getElem?, Option.getD_some, e12, e13]; done) | (simp only [List.map_toArray, List.map_cons, List.map_nil, Act.eval, Array.getD_eq_getD_getElem?, Option.getD_some, e12, e13]; rfl)) ?_
          with_reducible refine (wide_Mul.calls a0_1 a1 t6403 t6404 _ A5.out).mono ?_
          rintro e w19 ⟨rfl, hb⟩
          refine ⟨_, rfl, ?_⟩
          have n0_ := kb BK6401 hb
          have n1_ := kh HB hb
          have z_HO6407 := fun (h0_ : b 6 = true) => (show Kd.R (Kd.int .u64) 22 w19 w.heap.size (fun _ => True) v6406 y6405 from by first | exact (Kd.R_below (by (with_reducible repeat (first | apply Kd.R_alloc | apply Kd.R_drewN | apply Kd.R_drew)); exact (Q_HO6407 h0_)) hb) | exact Kd.R_mono (Kd.R_below (by (with_reducible repeat (first | apply Kd.R_alloc | apply Kd.R_drewN | apply Kd.R_drew)); exact (Q_HO6407 h0_)) hb) (fun _ h_ => by first | trivial | exact h_ | exact h_.1))
          have z_HO6413 := fun (h0_ : b 9 = true) => (show Kd.R (Kd.int .u64) 22 w19 w.heap.size (fun _ => True) v6412 y6411 from by first | exact (Kd.R_below (by (with_reducible repeat (first | apply Kd.R_alloc | apply Kd.R_drewN | apply Kd.R_drew)); exact (Q_HO6413 h0_)) hb) | exact Kd.R_mono (Kd.R_below (by (with_reducible repeat (first | apply Kd.R_alloc | apply Kd.R_drewN | apply Kd.R_drew)); exact (Q_HO6413 h0_)) hb) (fun _ h_ => by first | trivial | exact h_ | exact h_.1))
          clear BK6401
          clear HB
          have BK6401 := n0_
          have HB := n1_
          clear n0_ n1_
          (try clear hb)
          (try clear hb2)
          (try clear hk)
          (try clear hi)
          refine hK.out _ _ ⟨v6406, v6409, v6412, v6415, v6418, (by rw [ha.out]; exact putSel_upk 1 hb_ rfl rfl rfl), (pk BK6401), (pl HB), z_HO6407, fun h0_ => absurd ((hoff 7 (by kernel_rfl)).symm.trans h0_) (by decide), z_HO6413, fun h0_ => absurd ((hoff 10 (by kernel_rfl)).symm.trans h0_) (by decide), fun h0_ => absurd ((hoff 11 (by kernel_rfl)).symm.trans h0_) (by decide)⟩
        refine steps_cons ?_ ?_
        · rintro b a w' ⟨v6406, v6409, v6412, v6415, v6418, ha, Q_BK6401, Q_HB, Q_HO6407, Q_HO6410, Q_HO6413, Q_HO6416, Q_HO6419⟩ hb_ hon hoff
          refine ⟨_, rfl, fun K hK => ?_⟩
          have e15 : a.tmps[15]? = some (.pointer (some ⟨gb6401, 1, none⟩)) := by rw [ha]; exact (putSel_off rfl).trans rfl
          replace ha := Aside0.mk ha
          have BK6401 := Aside0.mk Q_BK6401
          have HB := Aside0.mk Q_HB
          have hc0_ : w'.cell? ⟨gb6401, 0, none⟩ = some (.int .u64 a0_0) := bc BK6401 0
          have hc1_ : w'.cell? ⟨gb6401, 1, none⟩ = some (.int .u64 a0_1) := bc BK6401 1
          refine value_ (w1 := w') (v := .int .u64 a0_1) (by rfl) rfl ?_ ?_
          · go_simp
            (try simp only [i64_w])
            try rfl
          refine hK.out _ _ ⟨v6406, v6409, v6412, v6415, v6418, (by rw [ha.out]; exact putSel_upk 2 hb_ rfl rfl rfl), Q_BK6401, Q_HB, fun h0_ => absurd ((hoff 6 (by kernel_rfl)).symm.trans h0_) (by decide), fun h0_ => absurd ((hoff 7 (by kernel_rfl)).symm.trans h0_) (by decide), Q_HO6413, fun h0_ => absurd ((hoff 10 (by kernel_rfl)).symm.trans h0_) (by decide), fun h0_ => absurd ((hoff 11 (by kernel_rfl)).symm.trans h0_) (by decide)⟩
        refine steps_cons ?_ ?_
        · rintro b a w' ⟨v6406, v6409, v6412, v6415, v6418, ha, Q_BK6401, Q_HB, Q_HO6407, Q_HO6410, Q_HO6413, Q_HO6416, Q_HO6419⟩ hb_ hon hoff
          refine ⟨_, rfl, fun K hK => ?_⟩
          have e16 : a.tmps[16]? = some (.int .u64 a0_1) := by rw [ha]; exact putSel_on (e := (5, 16, .int .u64 a0_1)) 2 rfl rfl (hon 5 (by kernel_rfl)) rfl
          replace ha := Aside0.mk ha
          have BK6401 := Aside0.mk Q_BK6401
          have HB := Aside0.mk Q_HB
          refine Kd.R_lit_step (Kd.int .u64) _ 22 ?hg (N := 17) ?hd (xs := ([a0_1] : List Int)) (inner := [.int .u64 a0_1]) (ok := fun _ => True) (okp := fun _ => True) ?hr ?hp (fun _ hk => hk) trivial (Below.refl _ _) (Nat.le_refl _) (by simp) ?_; (case hd => rfl); (case hg => rfl); (case hr => first | (go_simp; done) | (go_simp; rfl)); (case hp => exact (Reps.one (show Kd.M (Kd.int .u64) _ _ _ a0_1 [.int .u64 a0_1] from rfl) (Reps.none _ _)))
          intro v6406 w19 ho20 hb hg_ hnew_
          clear hg_ hnew_
          (first | rw [← Ny6405.out] at ho20 | (simp only [Int.reduceToNat] at ho20; rw [← Ny6405.out] at ho20))
          have n0_ := Aside0.mk (Kd.R_lower ho20 (below_size (pl HB)))
          have n1_ := kb BK6401 hb
          have n2_ := kh HB hb
          have z_HO6413 := fun (h0_ : b 9 = true) => (show Kd.R (Kd.int .u64) 22 w19 w.heap.size (fun _ => True) v6412 y6411 from by first | exact (Kd.R_elder' (by (with_reducible repeat (first | apply Kd.R_alloc | apply Kd.R_drewN | apply Kd.R_drew)); exact (Q_HO6413 h0_)) (Kd.R_base ho20) hb) | exact Kd.R_mono (Kd.R_elder' (by (with_reducible repeat (first | apply Kd.R_alloc | apply Kd.R_drewN | apply Kd.R_drew)); exact (Q_HO6413 h0_)) (Kd.R_base ho20) hb) (fun _ h_ => by first | trivial | exact h_ | exact h_.1))
          clear BK6401
          clear HB
          have HO6407 := n0_
          have BK6401 := n1_
          have HB := n2_
          clear n0_ n1_ n2_
          clear hb ho20
          refine hK.out _ _ ⟨v6406, v6409, v6412, v6415, v6418, (by rw [ha.out]; exact putSel_upk 3 hb_ rfl rfl rfl), (pk BK6401), (pl HB), fun _ => (by (with_reducible repeat (first | apply Kd.R_alloc | apply Kd.R_drewN | apply Kd.R_drew)); exact Kd.R_mono HO6407.out (fun _ _ => trivial)), fun h0_ => absurd ((hoff 7 (by kernel_rfl)).symm.trans h0_) (by decide), z_HO6413, fun h0_ => absurd ((hoff 10 (by kernel_rfl)).symm.trans h0_) (by decide), fun h0_ => absurd ((hoff 11 (by kernel_rfl)).symm.trans h0_) (by decide)⟩
        refine steps_cons ?_ ?_
        · rintro b a w' ⟨v6406, v6409, v6412, v6415, v6418, ha, Q_BK6401, Q_HB, Q_HO6407, Q_HO6410, Q_HO6413, Q_HO6416, Q_HO6419⟩ hb_ hon hoff
          refine ⟨_, rfl, fun K hK => ?_⟩
          have e17 : a.tmps[17]? = some (v6406) := by rw [ha]; exact putSel_on (e := (6, 17, v6406)) 3 rfl rfl (hon 6 (by kernel_rfl)) rfl
          replace ha := Aside0.mk ha
          have BK6401 := Aside0.mk Q_BK6401
          have HB := Aside0.mk Q_HB
          have HO6407 := Aside0.mk (Q_HO6407 (hon 6 (by kernel_rfl)))
          obtain ⟨Ao23, co23, eo23⟩ := Kd.R_slice HO6407.out
          (first | subst eo23 | (injection eo23 with f1_ f2_ f3_; have f4_ := f1_.symm; have f5_ := f3_.symm; clear f1_ f2_ f3_; subst f4_; subst f5_))
          refine goes_ Try.func16 (by kernel_rfl) rfl #[.slice Ao23 y6405.length co23] (by rfl) rfl rfl (by first | (simp only [List.map_toArray, List.map_cons, List.map_nil, Act.eval, Array.getD_eq_getD_getElem?, Option.getD_some, e17]; done) | (simp only [List.map_toArray, List.map_cons, List.map_nil, Act.eval, Array.getD_eq_getD_getElem?, Option.getD_some, e17]; rfl)) ?_
          with_reducible refine (flyballref01_Of.calls k _ _ y6405 t6408 _ ?side1 ?side2 A6.out).mono ?_
          (case side1 => repeat (first | exact (Kd.R_reads' HO6407.out).2.2 | (with_reducible refine Kd.C_alloc ?_ _) | (with_reducible refine Kd.C_drewN ?_ _) | (with_reducible refine Kd.C_drew ?_)))
          (case side2 => exact (Kd.R_reads' HO6407.out).2.1)
          rintro e w24 ⟨v6409, rfl, ho0, hb⟩
          refine ⟨_, rfl, ?_⟩
          have n0_ := Aside0.mk (Kd.R_below (by (with_reducible repeat (first | apply Kd.R_alloc | apply Kd.R_drewN | apply Kd.R_drew)); exact Kd.R_mono HO6407.out (fun _ _ => trivial)) hb)
          have n1_ := Aside0.mk (Kd.R_lower ho0 (below_size (pl HB)))
          have n2_ := kb BK6401 hb
          have n3_ := kh HB hb
          have z_HO6413 := fun (h0_ : b 9 = true) => (show Kd.R (Kd.int .u64) 22 w24 w.heap.size (fun _ => True) v6412 y6411 from by first | exact (Kd.R_below (by (with_reducible repeat (first | apply Kd.R_alloc | apply Kd.R_drewN | apply Kd.R_drew)); exact (Q_HO6413 h0_)) hb) | exact Kd.R_mono (Kd.R_below (by (with_reducible repeat (first | apply Kd.R_alloc | apply Kd.R_drewN | apply Kd.R_drew)); exact (Q_HO6413 h0_)) hb) (fun _ h_ => by first | trivial | exact h_ | exact h_.1))
          clear HO6407
          clear BK6401
          clear HB
          have HO6407 := n0_
          have HO6410 := n1_
          have BK6401 := n2_
          have HB := n3_
          clear n0_ n1_ n2_ n3_
          (try clear hb)
          (try clear hb2)
          (try clear hk)
          (try clear hi)
          (try clear ho0)
          refine hK.out _ _ ⟨.slice Ao23 y6405.length co23, v6409, v6412, v6415, v6418, (by rw [ha.out]; exact putSel_upk 4 hb_ rfl rfl rfl), (pk BK6401), (pl HB), fun _ => (by (with_reducible repeat (first | apply Kd.R_alloc | apply Kd.R_drewN | apply Kd.R_drew)); exact Kd.R_mono HO6407.out (fun _ _ => trivial)), fun _ => (by (with_reducible repeat (first | apply Kd.R_alloc | apply Kd.R_drewN | apply Kd.R_drew)); exact Kd.R_mono HO6410.out (fun _ _ => trivial)), z_HO6413, fun h0_ => absurd ((hoff 10 (by kernel_rfl)).symm.trans h0_) (by decide), fun h0_ => absurd ((hoff 11 (by kernel_rfl)).symm.trans h0_) (by decide)⟩
        refine steps_cons ?_ ?_
        · rintro b a w' ⟨v6406, v6409, v6412, v6415, v6418, ha, Q_BK6401, Q_HB, Q_HO6407, Q_HO6410, Q_HO6413, Q_HO6416, Q_HO6419⟩ hb_ hon hoff
          refine ⟨_, rfl, fun K hK => ?_⟩
          have e19 : a.tmps[19]? = some (.int .u64 a1) := by rw [ha]; exact (putSel_off rfl).trans rfl
          replace ha := Aside0.mk ha
          have BK6401 := Aside0.mk Q_BK6401
          have HB := Aside0.mk Q_HB
          refine Kd.R_lit_step (Kd.int .u64) _ 22 ?hg (N := 20) ?hd (xs := ([a1] : List Int)) (inner := [.int .u64 a1]) (ok := fun _ => True) (okp := fun _ => True) ?hr ?hp (fun _ hk => hk) trivial (Below.refl _ _) (Nat.le_refl _) (by simp) ?_; (case hd => rfl); (case hg => rfl); (case hr => first | (go_simp; done) | (go_simp; rfl)); (case hp => exact (Reps.one (show Kd.M (Kd.int .u64) _ _ _ a1 [.int .u64 a1] from rfl) (Reps.none _ _)))
          intro v6412 w19 ho20 hb hg_ hnew_
          clear hg_ hnew_
          (first | rw [← Ny6411.out] at ho20 | (simp only [Int.reduceToNat] at ho20; rw [← Ny6411.out] at ho20))
          have n0_ := Aside0.mk (Kd.R_lower ho20 (below_size (pl HB)))
          have n1_ := kb BK6401 hb
          have n2_ := kh HB hb
          have z_HO6407 := fun (h0_ : b 6 = true) => (show Kd.R (Kd.int .u64) 22 w19 w.heap.size (fun _ => True) v6406 y6405 from by first | exact (Kd.R_elder' (by (with_reducible repeat (first | apply Kd.R_alloc | apply Kd.R_drewN | apply Kd.R_drew)); exact (Q_HO6407 h0_)) (Kd.R_base ho20) hb) | exact Kd.R_mono (Kd.R_elder' (by (with_reducible repeat (first | apply Kd.R_alloc | apply Kd.R_drewN | apply Kd.R_drew)); exact (Q_HO6407 h0_)) (Kd.R_base ho20) hb) (fun _ h_ => by first | trivial | exact h_ | exact h_.1))
          have z_HO6410 := fun (h0_ : b 7 = true) => (show Kd.R Kd.bool 4 w19 w.heap.size (fun _ => True) v6409 t6408 from by first | exact (Kd.R_below (by (with_reducible repeat (first | apply Kd.R_alloc | apply Kd.R_drewN | apply Kd.R_drew)); exact (Q_HO6410 h0_)) hb) | exact Kd.R_mono (Kd.R_below (by (with_reducible repeat (first | apply Kd.R_alloc | apply Kd.R_drewN | apply Kd.R_drew)); exact (Q_HO6410 h0_)) hb) (fun _ h_ => by first | trivial | exact h_ | exact h_.1))
          clear BK6401
          clear HB
          have HO6413 := n0_
          have BK6401 := n1_
          have HB := n2_
          clear n0_ n1_ n2_
          clear hb ho20
          refine hK.out _ _ ⟨v6406, v6409, v6412, v6415, v6418, (by rw [ha.out]; exact putSel_upk 5 hb_ rfl rfl rfl), (pk BK6401), (pl HB), z_HO6407, z_HO6410, fun _ => (by (with_reducible repeat (first | apply Kd.R_alloc | apply Kd.R_drewN | apply Kd.R_drew)); exact Kd.R_mono HO6413.out (fun _ _ => trivial)), fun h0_ => absurd ((hoff 10 (by kernel_rfl)).symm.trans h0_) (by decide), fun h0_ => absurd ((hoff 11 (by kernel_rfl)).symm.trans h0_) (by decide)⟩
        refine steps_cons ?_ ?_
        · rintro b a w' ⟨v6406, v6409, v6412, v6415, v6418, ha, Q_BK6401, Q_HB, Q_HO6407, Q_HO6410, Q_HO6413, Q_HO6416, Q_HO6419⟩ hb_ hon hoff
          refine ⟨_, rfl, fun K hK => ?_⟩
          have e20 : a.tmps[20]? = some (v6412) := by rw [ha]; exact putSel_on (e := (9, 20, v6412)) 5 rfl rfl (hon 9 (by kernel_rfl)) rfl
          replace ha := Aside0.mk ha
          have BK6401 := Aside0.mk Q_BK6401
          have HB := Aside0.mk Q_HB
          have HO6407 := Aside0.mk (Q_HO6407 (hon 6 (by kernel_rfl)))
          have HO6410 := Aside0.mk (Q_HO6410 (hon 7 (by kernel_rfl)))
          have HO6413 := Aside0.mk (Q_HO6413 (hon 9 (by kernel_rfl)))
          obtain ⟨Ao27, co27, eo27⟩ := Kd.R_slice HO6413.out
          (first | subst eo27 | (injection eo27 with f1_ f2_ f3_; have f4_ := f1_.symm; have f5_ := f3_.symm; clear f1_ f2_ f3_; subst f4_; subst f5_))
          refine goes_ Try.func16 (by kernel_rfl) rfl #[.slice Ao27 y6411.length co27] (by rfl) rfl rfl (by first | (simp only [List.map_toArray, List.map_cons, List.map_nil, Act.eval, Array.getD_eq_getD_getElem?, Option.getD_some, e20]; done) | (simp only [List.map_toArray, List.map_cons, List.map_nil, Act.eval, Array.getD_eq_getD_getElem?, Option.getD_some, e20]; rfl)) ?_
          with_reducible refine (flyballref01_Of.calls k _ _ y6411 t6414 _ ?side1 ?side2 A7.out).mono ?_
          (case side1 => repeat (first | exact (Kd.R_reads' HO6413.out).2.2 | (with_reducible refine Kd.C_alloc ?_ _) | (with_reducible refine Kd.C_drewN ?_ _) | (with_reducible refine Kd.C_drew ?_)))
          (case side2 => exact (Kd.R_reads' HO6413.out).2.1)
          rintro e w28 ⟨v6415, rfl, ho0, hb⟩
          refine ⟨_, rfl, ?_⟩
          have n0_ := Aside0.mk (Kd.R_below (by (with_reducible repeat (first | apply Kd.R_alloc | apply Kd.R_drewN | apply Kd.R_drew)); exact Kd.R_mono HO6407.out (fun _ _ => trivial)) hb)
          have n1_ := Aside0.mk (Kd.R_elder' (by (with_reducible repeat (first | apply Kd.R_alloc | apply Kd.R_drewN | apply Kd.R_drew)); exact Kd.R_mono HO6410.out (fun _ _ => trivial)) (Kd.R_base ho0) hb)
          have n2_ := Aside0.mk (Kd.R_below (by (with_reducible repeat (first | apply Kd.R_alloc | apply Kd.R_drewN | apply Kd.R_drew)); exact Kd.R_mono HO6413.out (fun _ _ => trivial)) hb)
          have n3_ := Aside0.mk (Kd.R_lower (Kd.R_new' ho0 (Kd.R_lt (by (with_reducible repeat (first | apply Kd.R_alloc | apply Kd.R_drewN | apply Kd.R_drew)); exact Kd.R_mono HO6410.out (fun _ _ => trivial)))) (below_size (pl HB)))
          have n4_ := kb BK6401 hb
          have n5_ := kh HB hb
          clear HO6407
          clear HO6410
          clear HO6413
          clear BK6401
          clear HB
          have HO6407 := n0_
          have HO6410 := n1_
          have HO6413 := n2_
          have HO6416 := n3_
          have BK6401 := n4_
          have HB := n5_
          clear n0_ n1_ n2_ n3_ n4_ n5_
          (try clear hb)
          (try clear hb2)
          (try clear hk)
          (try clear hi)
          (try clear ho0)
          refine hK.out _ _ ⟨v6406, v6409, .slice Ao27 y6411.length co27, v6415, v6418, (by rw [ha.out]; exact putSel_upk 6 hb_ rfl rfl rfl), (pk BK6401), (pl HB), fun _ => (by (with_reducible repeat (first | apply Kd.R_alloc | apply Kd.R_drewN | apply Kd.R_drew)); exact Kd.R_mono HO6407.out (fun _ _ => trivial)), fun _ => (by (with_reducible repeat (first | apply Kd.R_alloc | apply Kd.R_drewN | apply Kd.R_drew)); exact Kd.R_mono HO6410.out (fun _ _ => trivial)), fun _ => (by (with_reducible repeat (first | apply Kd.R_alloc | apply Kd.R_drewN | apply Kd.R_drew)); exact Kd.R_mono HO6413.out (fun _ _ => trivial)), fun _ => (by (with_reducible repeat (first | apply Kd.R_alloc | apply Kd.R_drewN | apply Kd.R_drew)); exact Kd.R_mono HO6416.out (fun _ _ => trivial)), fun h0_ => absurd ((hoff 11 (by kernel_rfl)).symm.trans h0_) (by decide)⟩
        refine steps_cons ?_ ?_
        · rintro b a w' ⟨v6406, v6409, v6412, v6415, v6418, ha, Q_BK6401, Q_HB, Q_HO6407, Q_HO6410, Q_HO6413, Q_HO6416, Q_HO6419⟩ hb_ hon hoff
          refine ⟨_, rfl, fun K hK => ?_⟩
          have e18 : a.tmps[18]? = some (v6409) := by rw [ha]; exact putSel_on (e := (7, 18, v6409)) 4 rfl rfl (hon 7 (by kernel_rfl)) rfl
          have e21 : a.tmps[21]? = some (v6415) := by rw [ha]; exact putSel_on (e := (10, 21, v6415)) 6 rfl rfl (hon 10 (by kernel_rfl)) rfl
          replace ha := Aside0.mk ha
          have BK6401 := Aside0.mk Q_BK6401
          have HB := Aside0.mk Q_HB
          have HO6407 := Aside0.mk (Q_HO6407 (hon 6 (by kernel_rfl)))
          have HO6410 := Aside0.mk (Q_HO6410 (hon 7 (by kernel_rfl)))
          have HO6413 := Aside0.mk (Q_HO6413 (hon 9 (by kernel_rfl)))
          have HO6416 := Aside0.mk (Q_HO6416 (hon 10 (by kernel_rfl)))
          obtain ⟨Ao29, co29, eo29⟩ := Kd.R_slice HO6410.out
          (first | subst eo29 | (injection eo29 with f1_ f2_ f3_; have f4_ := f1_.symm; have f5_ := f3_.symm; clear f1_ f2_ f3_; subst f4_; subst f5_))
          obtain ⟨Ao30, co30, eo30⟩ := Kd.R_slice HO6416.out
          (first | subst eo30 | (injection eo30 with f1_ f2_ f3_; have f4_ := f1_.symm; have f5_ := f3_.symm; clear f1_ f2_ f3_; subst f4_; subst f5_))
          refine goes_ Try.func28 (by kernel_rfl) rfl #[.slice Ao29 t6408.length co29, .slice Ao30 t6414.length co30] (by rfl) rfl rfl (by first | (simp only [List.map_toArray, List.map_cons, List.map_nil, Act.eval, Array.getD_eq_getD_getElem?, Option.getD_some, e18, e21]; done) | (simp only [List.map_toArray, List.map_cons, List.map_nil, Act.eval, Array.getD_eq_getD_getElem?, Option.getD_some, e18, e21]; rfl)) ?_
          with_reducible refine (flyballref01_Mul.calls k _ _ t6408 _ _ t6414 t6417 _ ?side1 ?side2 ?side3 ?side4 A8.out).mono ?_
          (case side1 => repeat (first | exact (Kd.R_reads' HO6410.out).2.2 | (with_reducible refine Kd.C_alloc ?_ _) | (with_reducible refine Kd.C_drewN ?_ _) | (with_reducible refine Kd.C_drew ?_)))
          (case side2 => exact (Kd.R_reads' HO6410.out).2.1)
          (case side3 => repeat (first | exact (Kd.R_reads' HO6416.out).2.2 | (with_reducible refine Kd.C_alloc ?_ _) | (with_reducible refine Kd.C_drewN ?_ _) | (with_reducible refine Kd.C_drew ?_)))
          (case side4 => exact (Kd.R_reads' HO6416.out).2.1)
          rintro e w31 ⟨v6418, rfl, ho0, hb⟩
          refine ⟨_, rfl, ?_⟩
          have n0_ := Aside0.mk (Kd.R_below (by (with_reducible repeat (first | apply Kd.R_alloc | apply Kd.R_drewN | apply Kd.R_drew)); exact Kd.R_mono HO6407.out (fun _ _ => trivial)) hb)
          have n1_ := Aside0.mk (Kd.R_elder' (by (with_reducible repeat (first | apply Kd.R_alloc | apply Kd.R_drewN | apply Kd.R_drew)); exact Kd.R_mono HO6410.out (fun _ _ => trivial)) (Kd.R_base ho0) hb)
          have n2_ := Aside0.mk (Kd.R_below (by (with_reducible repeat (first | apply Kd.R_alloc | apply Kd.R_drewN | apply Kd.R_drew)); exact Kd.R_mono HO6413.out (fun _ _ => trivial)) hb)
          have n3_ := Aside0.mk (Kd.R_elder' (by (with_reducible repeat (first | apply Kd.R_alloc | apply Kd.R_drewN | apply Kd.R_drew)); exact Kd.R_mono HO6416.out (fun _ _ => trivial)) (Kd.R_base ho0) hb)
          have n4_ := Aside0.mk (Kd.R_lower (Kd.R_new' (Kd.R_new' ho0 (Kd.R_lt (by (with_reducible repeat (first | apply Kd.R_alloc | apply Kd.R_drewN | apply Kd.R_drew)); exact Kd.R_mono HO6410.out (fun _ _ => trivial)))) (Kd.R_lt (by (with_reducible repeat (first | apply Kd.R_alloc | apply Kd.R_drewN | apply Kd.R_drew)); exact Kd.R_mono HO6416.out (fun _ _ => trivial)))) (below_size (pl HB)))
          have n5_ := kb BK6401 hb
          have n6_ := kh HB hb
          clear HO6407
          clear HO6410
          clear HO6413
          clear HO6416
          clear BK6401
          clear HB
          have HO6407 := n0_
          have HO6410 := n1_
          have HO6413 := n2_
          have HO6416 := n3_
          have HO6419 := n4_
          have BK6401 := n5_
          have HB := n6_
          clear n0_ n1_ n2_ n3_ n4_ n5_ n6_
          (try clear hb)
          (try clear hb2)
          (try clear hk)
          (try clear hi)
          (try clear ho0)
          refine hK.out _ _ ⟨v6406, .slice Ao29 t6408.length co29, v6412, .slice Ao30 t6414.length co30, v6418, (by rw [ha.out]; exact putSel_upk 7 hb_ rfl rfl rfl), (pk BK6401), (pl HB), fun _ => (by (with_reducible repeat (first | apply Kd.R_alloc | apply Kd.R_drewN | apply Kd.R_drew)); exact Kd.R_mono HO6407.out (fun _ _ => trivial)), fun _ => (by (with_reducible repeat (first | apply Kd.R_alloc | apply Kd.R_drewN | apply Kd.R_drew)); exact Kd.R_mono HO6410.out (fun _ _ => trivial)), fun _ => (by (with_reducible repeat (first | apply Kd.R_alloc | apply Kd.R_drewN | apply Kd.R_drew)); exact Kd.R_mono HO6413.out (fun _ _ => trivial)), fun _ => (by (with_reducible repeat (first | apply Kd.R_alloc | apply Kd.R_drewN | apply Kd.R_drew)); exact Kd.R_mono HO6416.out (fun _ _ => trivial)), fun _ => (by (with_reducible repeat (first | apply Kd.R_alloc | apply Kd.R_drewN | apply Kd.R_drew)); exact Kd.R_mono HO6419.out (fun _ _ => trivial))⟩
        refine steps_cons ?_ ?_
        · rintro b a w' ⟨v6406, v6409, v6412, v6415, v6418, ha, Q_BK6401, Q_HB, Q_HO6407, Q_HO6410, Q_HO6413, Q_HO6416, Q_HO6419⟩ hb_ hon hoff
          refine ⟨_, rfl, fun K hK => ?_⟩
          have e14 : a.tmps[14]? = some (.agg #[.int .u64 t6403, .int .u64 t6404]) := by rw [ha]; exact putSel_on (e := (3, 14, .agg #[.int .u64 t6403, .int .u64 t6404])) 1 rfl rfl (hon 3 (by kernel_rfl)) rfl
          have e22 : a.tmps[22]? = some (v6418) := by rw [ha]; exact putSel_on (e := (11, 22, v6418)) 7 rfl rfl (hon 11 (by kernel_rfl)) rfl
          replace ha := Aside0.mk ha
          have BK6401 := Aside0.mk Q_BK6401
          have HB := Aside0.mk Q_HB
          have HO6407 := Aside0.mk (Q_HO6407 (hon 6 (by kernel_rfl)))
          have HO6410 := Aside0.mk (Q_HO6410 (hon 7 (by kernel_rfl)))
          have HO6413 := Aside0.mk (Q_HO6413 (hon 9 (by kernel_rfl)))
          have HO6416 := Aside0.mk (Q_HO6416 (hon 10 (by kernel_rfl)))
          have HO6419 := Aside0.mk (Q_HO6419 (hon 11 (by kernel_rfl)))
          obtain ⟨Ao32, co32, eo32⟩ := Kd.R_slice HO6419.out
          (first | subst eo32 | (injection eo32 with f1_ f2_ f3_; have f4_ := f1_.symm; have f5_ := f3_.symm; clear f1_ f2_ f3_; subst f4_; subst f5_))
          refine goes_ Try.func17 (by kernel_rfl) rfl #[.agg #[.int .u64 t6403, .int .u64 t6404], .slice Ao32 t6417.length co32] (by rfl) rfl rfl (by first | (simp only [List.map_toArray, List.map_cons, List.map_nil, Act.eval, Array.getD_eq_getD_getElem?, Option.getD_some, e14, e22]; done) | (simp only [List.map_toArray, List.map_cons, List.map_nil, Act.eval, Array.getD_eq_getD_getElem?, Option.getD_some, e14, e22]; rfl)) ?_
          with_reducible refine (flyballlaw01_is.calls k t6403 t6404 _ _ t6417 true _ ?side1 ?side2 A9.out).mono ?_
          (case side1 => repeat (first | exact (Kd.R_reads' HO6419.out).2.2 | (with_reducible refine Kd.C_alloc ?_ _) | (with_reducible refine Kd.C_drewN ?_ _) | (with_reducible refine Kd.C_drew ?_)))
          (case side2 => exact (Kd.R_reads' HO6419.out).2.1)
          rintro e w33 ⟨rfl, hb⟩
          refine ⟨_, rfl, ?_⟩
          have n0_ := Aside0.mk (Kd.R_below (by (with_reducible repeat (first | apply Kd.R_alloc | apply Kd.R_drewN | apply Kd.R_drew)); exact Kd.R_mono HO6407.out (fun _ _ => trivial)) hb)
          have n1_ := Aside0.mk (Kd.R_below (by (with_reducible repeat (first | apply Kd.R_alloc | apply Kd.R_drewN | apply Kd.R_drew)); exact Kd.R_mono HO6410.out (fun _ _ => trivial)) hb)
          have n2_ := Aside0.mk (Kd.R_below (by (with_reducible repeat (first | apply Kd.R_alloc | apply Kd.R_drewN | apply Kd.R_drew)); exact Kd.R_mono HO6413.out (fun _ _ => trivial)) hb)
          have n3_ := Aside0.mk (Kd.R_below (by (with_reducible repeat (first | apply Kd.R_alloc | apply Kd.R_drewN | apply Kd.R_drew)); exact Kd.R_mono HO6416.out (fun _ _ => trivial)) hb)
          have n4_ := Aside0.mk (Kd.R_below (by (with_reducible repeat (first | apply Kd.R_alloc | apply Kd.R_drewN | apply Kd.R_drew)); exact Kd.R_mono HO6419.out (fun _ _ => trivial)) hb)
          have n5_ := kb BK6401 hb
          have n6_ := kh HB hb
          clear HO6407
          clear HO6410
          clear HO6413
          clear HO6416
          clear HO6419
          clear BK6401
          clear HB
          have HO6407 := n0_
          have HO6410 := n1_
          have HO6413 := n2_
          have HO6416 := n3_
          have HO6419 := n4_
          have BK6401 := n5_
          have HB := n6_
          clear n0_ n1_ n2_ n3_ n4_ n5_ n6_
          (try clear hb)
          (try clear hb2)
          (try clear hk)
          (try clear hi)
          refine hK.out _ _ ⟨v6406, v6409, v6412, v6415, .slice Ao32 t6417.length co32, (by rw [ha.out]; exact putSel_upk 8 hb_ rfl rfl rfl), (pk BK6401), (pl HB), fun _ => (by (with_reducible repeat (first | apply Kd.R_alloc | apply Kd.R_drewN | apply Kd.R_drew)); exact Kd.R_mono HO6407.out (fun _ _ => trivial)), fun _ => (by (with_reducible repeat (first | apply Kd.R_alloc | apply Kd.R_drewN | apply Kd.R_drew)); exact Kd.R_mono HO6410.out (fun _ _ => trivial)), fun _ => (by (with_reducible repeat (first | apply Kd.R_alloc | apply Kd.R_drewN | apply Kd.R_drew)); exact Kd.R_mono HO6413.out (fun _ _ => trivial)), fun _ => (by (with_reducible repeat (first | apply Kd.R_alloc | apply Kd.R_drewN | apply Kd.R_drew)); exact Kd.R_mono HO6416.out (fun _ _ => trivial)), fun _ => (by (with_reducible repeat (first | apply Kd.R_alloc | apply Kd.R_drewN | apply Kd.R_drew)); exact Kd.R_mono HO6419.out (fun _ _ => trivial))⟩
        refine steps_cons ?_ ?_
        · rintro b a w' ⟨v6406, v6409, v6412, v6415, v6418, ha, Q_BK6401, Q_HB, Q_HO6407, Q_HO6410, Q_HO6413, Q_HO6416, Q_HO6419⟩ hb_ hon hoff
          refine ⟨_, rfl, fun K hK => ?_⟩
          have e23 : a.tmps[23]? = some (.bool true) := by rw [ha]; exact putSel_on (e := (12, 23, .bool true)) 8 rfl rfl (hon 12 (by kernel_rfl)) rfl
          replace ha := Aside0.mk ha
          have BK6401 := Aside0.mk Q_BK6401
          have HB := Aside0.mk Q_HB
          have HO6407 := Aside0.mk (Q_HO6407 (hon 6 (by kernel_rfl)))
          have HO6410 := Aside0.mk (Q_HO6410 (hon 7 (by kernel_rfl)))
          have HO6413 := Aside0.mk (Q_HO6413 (hon 9 (by kernel_rfl)))
          have HO6416 := Aside0.mk (Q_HO6416 (hon 10 (by kernel_rfl)))
          have HO6419 := Aside0.mk (Q_HO6419 (hon 11 (by kernel_rfl)))
          refine value_ (w1 := w') (v := .bool true) (by rfl) rfl ?_ ?_
          · go_simp
            (try simp only [i64_w])
            try rfl
          refine hK.out _ _ ⟨v6406, v6409, v6412, v6415, v6418, (by rw [ha.out]; exact putSel_upk 9 hb_ rfl rfl rfl), Q_BK6401, Q_HB, Q_HO6407, Q_HO6410, Q_HO6413, Q_HO6416, Q_HO6419⟩
        exact steps_nil
      rintro b a w33 hall ⟨v6406, v6409, v6412, v6415, v6418, ha, Q_BK6401, Q_HB, Q_HO6407, Q_HO6410, Q_HO6413, Q_HO6416, Q_HO6419⟩
      clear BK6401 HB
      have hb1_ := hall 1 (by kernel_rfl)
      have hb3_ := hall 3 (by kernel_rfl)
      have hb5_ := hall 5 (by kernel_rfl)
      have hb6_ := hall 6 (by kernel_rfl)
      have hb7_ := hall 7 (by kernel_rfl)
      have hb9_ := hall 9 (by kernel_rfl)
      have hb10_ := hall 10 (by kernel_rfl)
      have hb11_ := hall 11 (by kernel_rfl)
      have hb12_ := hall 12 (by kernel_rfl)
      have hb13_ := hall 13 (by kernel_rfl)
      subst ha
      simp only [putSel, hb1_, hb3_, hb5_, hb6_, hb7_, hb9_, hb10_, hb11_, hb12_, hb13_, if_true, Act.put, List.setIfInBounds_toArray, List.set_cons_zero, List.set_cons_succ]
      have BK6401 := Aside0.mk Q_BK6401
      clear Q_BK6401
      have HB := Aside0.mk Q_HB
      clear Q_HB
      have HO6407 := Aside0.mk (Q_HO6407 hb6_)
      clear Q_HO6407
      have HO6410 := Aside0.mk (Q_HO6410 hb7_)
      clear Q_HO6410
      have HO6413 := Aside0.mk (Q_HO6413 hb9_)
      clear Q_HO6413
      have HO6416 := Aside0.mk (Q_HO6416 hb10_)
      clear Q_HO6416
      have HO6419 := Aside0.mk (Q_HO6419 hb11_)
      clear Q_HO6419
      clear hall hb1_ hb3_ hb5_ hb6_ hb7_ hb9_ hb10_ hb11_ hb12_ hb13_
      try go_wp2
      replace HO6407 := Aside0.mk (Kd.R_drew HO6407.out)
      replace HO6410 := Aside0.mk (Kd.R_drew HO6410.out)
      replace HO6413 := Aside0.mk (Kd.R_drew HO6413.out)
      replace HO6416 := Aside0.mk (Kd.R_drew HO6416.out)
      replace HO6419 := Aside0.mk (Kd.R_drew HO6419.out)
      replace BK6401 := Aside0.mk (blk_drew BK6401.out)
      replace HB := Aside0.mk (below_drew1 HB.out)
      refine start_ (n := 11) (S := fun w' => True) (ds := []) #[false, false, false, false, false, false, false, false, false, false, false] (by kernel_rfl) rfl rfl trivial (fun hHeld => ?_); refine with_tabW flyballlaw01_WideMuls.tab5 flyballlaw01_WideMuls.bits5 (fun HT_ HW_ => ?_)
      generalize w33.drew = w34 at HO6407 HO6410 HO6413 HO6416 HO6419 BK6401 HB hHeld ⊢
      refine pur 1 (some 25) #[false, true, false, false, false, false, false, false, false, false, false] (any_of HT_.out (by kernel_rfl)) ?_
      refine pur 5 (some 29) #[false, true, false, false, false, true, false, false, false, false, false] (any_of HT_.out (by kernel_rfl)) ?_
      refine inv_at [0, 2, 3, 4, 6, 7, 8, 9, 10] (fun a0_ b a w' => ∃ (v6425 : Value) (v6428 : Value) (v6431 : Value) (v6434 : Value), a = putSel a0_ b [(0, 24, .agg #[.int .u64 a0_0, .int .u64 a0_1]), (2, 26, .agg #[.int .u64 t6421, .int .u64 t6422, .int .u64 t6423]), (3, 27, .agg #[.int .u64 a0_0, .int .u64 a0_1]), (4, 28, v6425), (6, 30, v6428), (7, 31, v6431), (8, 32, v6434), (9, 33, .bool t6436), (10, 7, .bool t6436)] ∧ (Kd.R (Kd.int .u64) 22 w' w.heap.size (fun _ => True) v6406 y6405) ∧ (Kd.R Kd.bool 4 w' w.heap.size (fun _ => True) v6409 t6408) ∧ (Kd.R (Kd.int .u64) 22 w' w.heap.size (fun _ => True) v6412 y6411) ∧ (Kd.R Kd.bool 4 w' w.heap.size (fun _ => True) v6415 t6414) ∧ (Kd.R Kd.bool 4 w' w.heap.size (fun _ => True) v6418 t6417) ∧ (w'.heap[gb6401]? = some (.cells #[.int .u64 a0_0, .int .u64 a0_1] 24 (0, 0))) ∧ (Below w.heap.size w w') ∧ (b 4 = true → Kd.R Kd.bool 4 w' w.heap.size (fun _ => True) v6425 t6424) ∧ (b 6 = true → Kd.R (Kd.int .u64) 22 w' w.heap.size (fun _ => True) v6428 y6427) ∧ (b 7 = true → Kd.R Kd.bool 4 w' w.heap.size (fun _ => True) v6431 t6430) ∧ (b 8 = true → Kd.R Kd.bool 4 w' w.heap.size (fun _ => True) v6434 t6433)) HT_.out HW_.out (by kernel_rfl) (by kernel_rfl) ?_ ?_ ?_
      · exact ⟨.bool false, .bool false, .bool false, .bool false, by simp only [putSel, Bool.false_eq_true, if_false], HO6407.out, HO6410.out, HO6413.out, HO6416.out, HO6419.out, BK6401.out, HB.out, fun h_ => absurd h_ (by decide), fun h_ => absurd h_ (by decide), fun h_ => absurd h_ (by decide), fun h_ => absurd h_ (by decide)⟩
      · skip
        clear BK6401 HB HO6407 HO6410 HO6413 HO6416 HO6419
        refine steps_cons ?_ ?_
        · rintro b a w' ⟨v6425, v6428, v6431, v6434, ha, Q_HO6407, Q_HO6410, Q_HO6413, Q_HO6416, Q_HO6419, Q_BK6401, Q_HB, Q_HO6426, Q_HO6429, Q_HO6432, Q_HO6435⟩ hb_ hon hoff
          refine ⟨_, rfl, fun K hK => ?_⟩
          have e2 : a.tmps[2]? = some (.pointer (some ⟨gb6401, 0, none⟩)) := by rw [ha]; exact (putSel_off rfl).trans rfl
          replace ha := Aside0.mk ha
          have HO6407 := Aside0.mk Q_HO6407
          have HO6410 := Aside0.mk Q_HO6410
          have HO6413 := Aside0.mk Q_HO6413
          have HO6416 := Aside0.mk Q_HO6416
          have HO6419 := Aside0.mk Q_HO6419
          have BK6401 := Aside0.mk Q_BK6401
          have HB := Aside0.mk Q_HB
          have hc0_ : w'.cell? ⟨gb6401, 0, none⟩ = some (.int .u64 a0_0) := bc BK6401 0
          have hc1_ : w'.cell? ⟨gb6401, 1, none⟩ = some (.int .u64 a0_1) := bc BK6401 1
          refine value_ (w1 := w') (v := .agg #[.int .u64 a0_0, .int .u64 a0_1]) (by rfl) rfl ?_ ?_
          · go_simp
            (try simp only [i64_w])
            try rfl
          refine hK.out _ _ ⟨v6425, v6428, v6431, v6434, (by rw [ha.out]; exact putSel_upk 0 hb_ rfl rfl rfl), Q_HO6407, Q_HO6410, Q_HO6413, Q_HO6416, Q_HO6419, Q_BK6401, Q_HB, fun h0_ => absurd ((hoff 4 (by kernel_rfl)).symm.trans h0_) (by decide), Q_HO6429, fun h0_ => absurd ((hoff 7 (by kernel_rfl)).symm.trans h0_) (by decide), fun h0_ => absurd ((hoff 8 (by kernel_rfl)).symm.trans h0_) (by decide)⟩
        refine steps_cons ?_ ?_
        · rintro b a w' ⟨v6425, v6428, v6431, v6434, ha, Q_HO6407, Q_HO6410, Q_HO6413, Q_HO6416, Q_HO6419, Q_BK6401, Q_HB, Q_HO6426, Q_HO6429, Q_HO6432, Q_HO6435⟩ hb_ hon hoff
          refine ⟨_, rfl, fun K hK => ?_⟩
          have e24 : a.tmps[24]? = some (.agg #[.int .u64 a0_0, .int .u64 a0_1]) := by rw [ha]; exact putSel_on (e := (0, 24, .agg #[.int .u64 a0_0, .int .u64 a0_1])) 0 rfl rfl (hon 0 (by kernel_rfl)) rfl
          have e25 : a.tmps[25]? = some (.int .u64 a1) := by rw [ha]; exact (putSel_off rfl).trans rfl
          replace ha := Aside0.mk ha
          have HO6407 := Aside0.mk Q_HO6407
          have HO6410 := Aside0.mk Q_HO6410
          have HO6413 := Aside0.mk Q_HO6413
          have HO6416 := Aside0.mk Q_HO6416
          have HO6419 := Aside0.mk Q_HO6419
          have BK6401 := Aside0.mk Q_BK6401
          have HB := Aside0.mk Q_HB
          refine goes_ Try.func23 (by kernel_rfl) rfl #[.agg #[.int .u64 a0_0, .int .u64 a0_1], .int .u64 a1] (by rfl) rfl rfl (by first | (simp only [List.map_toArray, List.map_cons, List.map_nil, Act.eval, Array.getD_eq_getD_getElem?, Option.getD_some, e24, e25]; done) | (simp only [List.map_toArray, List.map_cons, List.map_nil, Act.eval, Array.getD_eq_getD_getElem?, Option.getD_some, e24, e25]; rfl)) ?_
          with_reducible refine (wide_U128_Mul.calls a0_0 a0_1 a1 t6421 t6422 t6423 _ A10.out).mono ?_
          rintro e w35 ⟨rfl, hb⟩
          refine ⟨_, rfl, ?_⟩
          have n0_ := Aside0.mk (Kd.R_below (by (with_reducible repeat (first | apply Kd.R_alloc | apply Kd.R_drewN | apply Kd.R_drew)); exact Kd.R_mono HO6407.out (fun _ _ => trivial)) hb)
          have n1_ := Aside0.mk (Kd.R_below (by (with_reducible repeat (first | apply Kd.R_alloc | apply Kd.R_drewN | apply Kd.R_drew)); exact Kd.R_mono HO6410.out (fun _ _ => trivial)) hb)
          have n2_ := Aside0.mk (Kd.R_below (by (with_reducible repeat (first | apply Kd.R_alloc | apply Kd.R_drewN | apply Kd.R_drew)); exact Kd.R_mono HO6413.out (fun _ _ => trivial)) hb)
          have n3_ := Aside0.mk (Kd.R_below (by (with_reducible repeat (first | apply Kd.R_alloc | apply Kd.R_drewN | apply Kd.R_drew)); exact Kd.R_mono HO6416.out (fun _ _ => trivial)) hb)
          have n4_ := Aside0.mk (Kd.R_below (by (with_reducible repeat (first | apply Kd.R_alloc | apply Kd.R_drewN | apply Kd.R_drew)); exact Kd.R_mono HO6419.out (fun _ _ => trivial)) hb)
          have n5_ := kb BK6401 hb
          have n6_ := kh HB hb
          have z_HO6429 := fun (h0_ : b 6 = true) => (show Kd.R (Kd.int .u64) 22 w35 w.heap.size (fun _ => True) v6428 y6427 from by first | exact (Kd.R_below (by (with_reducible repeat (first | apply Kd.R_alloc | apply Kd.R_drewN | apply Kd.R_drew)); exact (Q_HO6429 h0_)) hb) | exact Kd.R_mono (Kd.R_below (by (with_reducible repeat (first | apply Kd.R_alloc | apply Kd.R_drewN | apply Kd.R_drew)); exact (Q_HO6429 h0_)) hb) (fun _ h_ => by first | trivial | exact h_ | exact h_.1))
          clear HO6407
          clear HO6410
          clear HO6413
          clear HO6416
          clear HO6419
          clear BK6401
          clear HB
          have HO6407 := n0_
          have HO6410 := n1_
          have HO6413 := n2_
          have HO6416 := n3_
          have HO6419 := n4_
          have BK6401 := n5_
          have HB := n6_
          clear n0_ n1_ n2_ n3_ n4_ n5_ n6_
          (try clear hb)
          (try clear hb2)
          (try clear hk)
          (try clear hi)
          refine hK.out _ _ ⟨v6425, v6428, v6431, v6434, (by rw [ha.out]; exact putSel_upk 1 hb_ rfl rfl rfl), (by (with_reducible repeat (first | apply Kd.R_alloc | apply Kd.R_drewN | apply Kd.R_drew)); exact Kd.R_mono HO6407.out (fun _ _ => trivial)), (by (with_reducible repeat (first | apply Kd.R_alloc | apply Kd.R_drewN | apply Kd.R_drew)); exact Kd.R_mono HO6410.out (fun _ _ => trivial)), (by (with_reducible repeat (first | apply Kd.R_alloc | apply Kd.R_drewN | apply Kd.R_drew)); exact Kd.R_mono HO6413.out (fun _ _ => trivial)), (by (with_reducible repeat (first | apply Kd.R_alloc | apply Kd.R_drewN | apply Kd.R_drew)); exact Kd.R_mono HO6416.out (fun _ _ => trivial)), (by (with_reducible repeat (first | apply Kd.R_alloc | apply Kd.R_drewN | apply Kd.R_drew)); exact Kd.R_mono HO6419.out (fun _ _ => trivial)), (pk BK6401), (pl HB), fun h0_ => absurd ((hoff 4 (by kernel_rfl)).symm.trans h0_) (by decide), z_HO6429, fun h0_ => absurd ((hoff 7 (by kernel_rfl)).symm.trans h0_) (by decide), fun h0_ => absurd ((hoff 8 (by kernel_rfl)).symm.trans h0_) (by decide)⟩
        refine steps_cons ?_ ?_
        · rintro b a w' ⟨v6425, v6428, v6431, v6434, ha, Q_HO6407, Q_HO6410, Q_HO6413, Q_HO6416, Q_HO6419, Q_BK6401, Q_HB, Q_HO6426, Q_HO6429, Q_HO6432, Q_HO6435⟩ hb_ hon hoff
          refine ⟨_, rfl, fun K hK => ?_⟩
          have e2 : a.tmps[2]? = some (.pointer (some ⟨gb6401, 0, none⟩)) := by rw [ha]; exact (putSel_off rfl).trans rfl
          replace ha := Aside0.mk ha
          have HO6407 := Aside0.mk Q_HO6407
          have HO6410 := Aside0.mk Q_HO6410
          have HO6413 := Aside0.mk Q_HO6413
          have HO6416 := Aside0.mk Q_HO6416
          have HO6419 := Aside0.mk Q_HO6419
          have BK6401 := Aside0.mk Q_BK6401
          have HB := Aside0.mk Q_HB
          have hc0_ : w'.cell? ⟨gb6401, 0, none⟩ = some (.int .u64 a0_0) := bc BK6401 0
          have hc1_ : w'.cell? ⟨gb6401, 1, none⟩ = some (.int .u64 a0_1) := bc BK6401 1
          refine value_ (w1 := w') (v := .agg #[.int .u64 a0_0, .int .u64 a0_1]) (by rfl) rfl ?_ ?_
          · go_simp
            (try simp only [i64_w])
            try rfl
          refine hK.out _ _ ⟨v6425, v6428, v6431, v6434, (by rw [ha.out]; exact putSel_upk 2 hb_ rfl rfl rfl), Q_HO6407, Q_HO6410, Q_HO6413, Q_HO6416, Q_HO6419, Q_BK6401, Q_HB, fun h0_ => absurd ((hoff 4 (by kernel_rfl)).symm.trans h0_) (by decide), Q_HO6429, fun h0_ => absurd ((hoff 7 (by kernel_rfl)).symm.trans h0_) (by decide), fun h0_ => absurd ((hoff 8 (by kernel_rfl)).symm.trans h0_) (by decide)⟩
        refine steps_cons ?_ ?_
        · rintro b a w' ⟨v6425, v6428, v6431, v6434, ha, Q_HO6407, Q_HO6410, Q_HO6413, Q_HO6416, Q_HO6419, Q_BK6401, Q_HB, Q_HO6426, Q_HO6429, Q_HO6432, Q_HO6435⟩ hb_ hon hoff
          refine ⟨_, rfl, fun K hK => ?_⟩
          have e27 : a.tmps[27]? = some (.agg #[.int .u64 a0_0, .int .u64 a0_1]) := by rw [ha]; exact putSel_on (e := (3, 27, .agg #[.int .u64 a0_0, .int .u64 a0_1])) 2 rfl rfl (hon 3 (by kernel_rfl)) rfl
          replace ha := Aside0.mk ha
          have HO6407 := Aside0.mk Q_HO6407
          have HO6410 := Aside0.mk Q_HO6410
          have HO6413 := Aside0.mk Q_HO6413
          have HO6416 := Aside0.mk Q_HO6416
          have HO6419 := Aside0.mk Q_HO6419
          have BK6401 := Aside0.mk Q_BK6401
          have HB := Aside0.mk Q_HB
          refine goes_ Try.func15 (by kernel_rfl) rfl #[.agg #[.int .u64 a0_0, .int .u64 a0_1]] (by rfl) rfl rfl (by first | (simp only [List.map_toArray, List.map_cons, List.map_nil, Act.eval, Array.getD_eq_getD_getElem?, Option.getD_some, e27]; done) | (simp only [List.map_toArray, List.map_cons, List.map_nil, Act.eval, Array.getD_eq_getD_getElem?, Option.getD_some, e27]; rfl)) ?_
          with_reducible refine (flyballlaw01_of.calls k a0_0 a0_1 t6424 _ A11.out).mono ?_
          rintro e w37 ⟨v6425, rfl, ho0, hb⟩
          refine ⟨_, rfl, ?_⟩
          have n0_ := Aside0.mk (Kd.R_below (by (with_reducible repeat (first | apply Kd.R_alloc | apply Kd.R_drewN | apply Kd.R_drew)); exact Kd.R_mono HO6407.out (fun _ _ => trivial)) hb)
          have n1_ := Aside0.mk (Kd.R_elder' (by (with_reducible repeat (first | apply Kd.R_alloc | apply Kd.R_drewN | apply Kd.R_drew)); exact Kd.R_mono HO6410.out (fun _ _ => trivial)) (Kd.R_base ho0) hb)
          have n2_ := Aside0.mk (Kd.R_below (by (with_reducible repeat (first | apply Kd.R_alloc | apply Kd.R_drewN | apply Kd.R_drew)); exact Kd.R_mono HO6413.out (fun _ _ => trivial)) hb)
          have n3_ := Aside0.mk (Kd.R_elder' (by (with_reducible repeat (first | apply Kd.R_alloc | apply Kd.R_drewN | apply Kd.R_drew)); exact Kd.R_mono HO6416.out (fun _ _ => trivial)) (Kd.R_base ho0) hb)
          have n4_ := Aside0.mk (Kd.R_elder' (by (with_reducible repeat (first | apply Kd.R_alloc | apply Kd.R_drewN | apply Kd.R_drew)); exact Kd.R_mono HO6419.out (fun _ _ => trivial)) (Kd.R_base ho0) hb)
          have n5_ := Aside0.mk (Kd.R_lower (Kd.R_new' (Kd.R_new' (Kd.R_new' ho0 (Kd.R_lt (by (with_reducible repeat (first | apply Kd.R_alloc | apply Kd.R_drewN | apply Kd.R_drew)); exact Kd.R_mono HO6410.out (fun _ _ => trivial)))) (Kd.R_lt (by (with_reducible repeat (first | apply Kd.R_alloc | apply Kd.R_drewN | apply Kd.R_drew)); exact Kd.R_mono HO6416.out (fun _ _ => trivial)))) (Kd.R_lt (by (with_reducible repeat (first | apply Kd.R_alloc | apply Kd.R_drewN | apply Kd.R_drew)); exact Kd.R_mono HO6419.out (fun _ _ => trivial)))) (below_size (pl HB)))
          have n6_ := kb BK6401 hb
          have n7_ := kh HB hb
          have z_HO6429 := fun (h0_ : b 6 = true) => (show Kd.R (Kd.int .u64) 22 w37 w.heap.size (fun _ => True) v6428 y6427 from by first | exact (Kd.R_below (by (with_reducible repeat (first | apply Kd.R_alloc | apply Kd.R_drewN | apply Kd.R_drew)); exact (Q_HO6429 h0_)) hb) | exact Kd.R_mono (Kd.R_below (by (with_reducible repeat (first | apply Kd.R_alloc | apply Kd.R_drewN | apply Kd.R_drew)); exact (Q_HO6429 h0_)) hb) (fun _ h_ => by first | trivial | exact h_ | exact h_.1))
          clear HO6407
          clear HO6410
          clear HO6413
          clear HO6416
          clear HO6419
          clear BK6401
          clear HB
          have HO6407 := n0_
          have HO6410 := n1_
          have HO6413 := n2_
          have HO6416 := n3_
          have HO6419 := n4_
          have HO6426 := n5_
          have BK6401 := n6_
          have HB := n7_
          clear n0_ n1_ n2_ n3_ n4_ n5_ n6_ n7_
          (try clear hb)
          (try clear hb2)
          (try clear hk)
          (try clear hi)
          (try clear ho0)
          refine hK.out _ _ ⟨v6425, v6428, v6431, v6434, (by rw [ha.out]; exact putSel_upk 3 hb_ rfl rfl rfl), (by (with_reducible repeat (first | apply Kd.R_alloc | apply Kd.R_drewN | apply Kd.R_drew)); exact Kd.R_mono HO6407.out (fun _ _ => trivial)), (by (with_reducible repeat (first | apply Kd.R_alloc | apply Kd.R_drewN | apply Kd.R_drew)); exact Kd.R_mono HO6410.out (fun _ _ => trivial)), (by (with_reducible repeat (first | apply Kd.R_alloc | apply Kd.R_drewN | apply Kd.R_drew)); exact Kd.R_mono HO6413.out (fun _ _ => trivial)), (by (with_reducible repeat (first | apply Kd.R_alloc | apply Kd.R_drewN | apply Kd.R_drew)); exact Kd.R_mono HO6416.out (fun _ _ => trivial)), (by (with_reducible repeat (first | apply Kd.R_alloc | apply Kd.R_drewN | apply Kd.R_drew)); exact Kd.R_mono HO6419.out (fun _ _ => trivial)), (pk BK6401), (pl HB), fun _ => (by (with_reducible repeat (first | apply Kd.R_alloc | apply Kd.R_drewN | apply Kd.R_drew)); exact Kd.R_mono HO6426.out (fun _ _ => trivial)), z_HO6429, fun h0_ => absurd ((hoff 7 (by kernel_rfl)).symm.trans h0_) (by decide), fun h0_ => absurd ((hoff 8 (by kernel_rfl)).symm.trans h0_) (by decide)⟩
        refine steps_cons ?_ ?_
        · rintro b a w' ⟨v6425, v6428, v6431, v6434, ha, Q_HO6407, Q_HO6410, Q_HO6413, Q_HO6416, Q_HO6419, Q_BK6401, Q_HB, Q_HO6426, Q_HO6429, Q_HO6432, Q_HO6435⟩ hb_ hon hoff
          refine ⟨_, rfl, fun K hK => ?_⟩
          have e29 : a.tmps[29]? = some (.int .u64 a1) := by rw [ha]; exact (putSel_off rfl).trans rfl
          replace ha := Aside0.mk ha
          have HO6407 := Aside0.mk Q_HO6407
          have HO6410 := Aside0.mk Q_HO6410
          have HO6413 := Aside0.mk Q_HO6413
          have HO6416 := Aside0.mk Q_HO6416
          have HO6419 := Aside0.mk Q_HO6419
          have BK6401 := Aside0.mk Q_BK6401
          have HB := Aside0.mk Q_HB
          refine Kd.R_lit_step (Kd.int .u64) _ 22 ?hg (N := 30) ?hd (xs := ([a1] : List Int)) (inner := [.int .u64 a1]) (ok := fun _ => True) (okp := fun _ => True) ?hr ?hp (fun _ hk => hk) trivial (Below.refl _ _) (Nat.le_refl _) (by simp) ?_; (case hd => rfl); (case hg => rfl); (case hr => first | (go_simp; done) | (go_simp; rfl)); (case hp => exact (Reps.one (show Kd.M (Kd.int .u64) _ _ _ a1 [.int .u64 a1] from rfl) (Reps.none _ _)))
          intro v6428 w35 ho36 hb hg_ hnew_
          clear hg_ hnew_
          (first | rw [← Ny6427.out] at ho36 | (simp only [Int.reduceToNat] at ho36; rw [← Ny6427.out] at ho36))
          have n0_ := Aside0.mk (Kd.R_elder' (by (with_reducible repeat (first | apply Kd.R_alloc | apply Kd.R_drewN | apply Kd.R_drew)); exact Kd.R_mono HO6407.out (fun _ _ => trivial)) (Kd.R_base ho36) hb)
          have n1_ := Aside0.mk (Kd.R_below (by (with_reducible repeat (first | apply Kd.R_alloc | apply Kd.R_drewN | apply Kd.R_drew)); exact Kd.R_mono HO6410.out (fun _ _ => trivial)) hb)
          have n2_ := Aside0.mk (Kd.R_elder' (by (with_reducible repeat (first | apply Kd.R_alloc | apply Kd.R_drewN | apply Kd.R_drew)); exact Kd.R_mono HO6413.out (fun _ _ => trivial)) (Kd.R_base ho36) hb)
          have n3_ := Aside0.mk (Kd.R_below (by (with_reducible repeat (first | apply Kd.R_alloc | apply Kd.R_drewN | apply Kd.R_drew)); exact Kd.R_mono HO6416.out (fun _ _ => trivial)) hb)
          have n4_ := Aside0.mk (Kd.R_below (by (with_reducible repeat (first | apply Kd.R_alloc | apply Kd.R_drewN | apply Kd.R_drew)); exact Kd.R_mono HO6419.out (fun _ _ => trivial)) hb)
          have n5_ := Aside0.mk (Kd.R_lower (Kd.R_new' (Kd.R_new' ho36 (Kd.R_lt (by (with_reducible repeat (first | apply Kd.R_alloc | apply Kd.R_drewN | apply Kd.R_drew)); exact Kd.R_mono HO6407.out (fun _ _ => trivial)))) (Kd.R_lt (by (with_reducible repeat (first | apply Kd.R_alloc | apply Kd.R_drewN | apply Kd.R_drew)); exact Kd.R_mono HO6413.out (fun _ _ => trivial)))) (below_size (pl HB)))
          have n6_ := kb BK6401 hb
          have n7_ := kh HB hb
          have z_HO6426 := fun (h0_ : b 4 = true) => (show Kd.R Kd.bool 4 w35 w.heap.size (fun _ => True) v6425 t6424 from by first | exact (Kd.R_below (by (with_reducible repeat (first | apply Kd.R_alloc | apply Kd.R_drewN | apply Kd.R_drew)); exact (Q_HO6426 h0_)) hb) | exact Kd.R_mono (Kd.R_below (by (with_reducible repeat (first | apply Kd.R_alloc | apply Kd.R_drewN | apply Kd.R_drew)); exact (Q_HO6426 h0_)) hb) (fun _ h_ => by first | trivial | exact h_ | exact h_.1))
          clear HO6407
          clear HO6410
          clear HO6413
          clear HO6416
          clear HO6419
          clear BK6401
          clear HB
          have HO6407 := n0_
          have HO6410 := n1_
          have HO6413 := n2_
          have HO6416 := n3_
          have HO6419 := n4_
          have HO6429 := n5_
          have BK6401 := n6_
          have HB := n7_
          clear n0_ n1_ n2_ n3_ n4_ n5_ n6_ n7_
          clear hb ho36
          refine hK.out _ _ ⟨v6425, v6428, v6431, v6434, (by rw [ha.out]; exact putSel_upk 4 hb_ rfl rfl rfl), (by (with_reducible repeat (first | apply Kd.R_alloc | apply Kd.R_drewN | apply Kd.R_drew)); exact Kd.R_mono HO6407.out (fun _ _ => trivial)), (by (with_reducible repeat (first | apply Kd.R_alloc | apply Kd.R_drewN | apply Kd.R_drew)); exact Kd.R_mono HO6410.out (fun _ _ => trivial)), (by (with_reducible repeat (first | apply Kd.R_alloc | apply Kd.R_drewN | apply Kd.R_drew)); exact Kd.R_mono HO6413.out (fun _ _ => trivial)), (by (with_reducible repeat (first | apply Kd.R_alloc | apply Kd.R_drewN | apply Kd.R_drew)); exact Kd.R_mono HO6416.out (fun _ _ => trivial)), (by (with_reducible repeat (first | apply Kd.R_alloc | apply Kd.R_drewN | apply Kd.R_drew)); exact Kd.R_mono HO6419.out (fun _ _ => trivial)), (pk BK6401), (pl HB), z_HO6426, fun _ => (by (with_reducible repeat (first | apply Kd.R_alloc | apply Kd.R_drewN | apply Kd.R_drew)); exact Kd.R_mono HO6429.out (fun _ _ => trivial)), fun h0_ => absurd ((hoff 7 (by kernel_rfl)).symm.trans h0_) (by decide), fun h0_ => absurd ((hoff 8 (by kernel_rfl)).symm.trans h0_) (by decide)⟩
        refine steps_cons ?_ ?_
        · rintro b a w' ⟨v6425, v6428, v6431, v6434, ha, Q_HO6407, Q_HO6410, Q_HO6413, Q_HO6416, Q_HO6419, Q_BK6401, Q_HB, Q_HO6426, Q_HO6429, Q_HO6432, Q_HO6435⟩ hb_ hon hoff
          refine ⟨_, rfl, fun K hK => ?_⟩
          have e30 : a.tmps[30]? = some (v6428) := by rw [ha]; exact putSel_on (e := (6, 30, v6428)) 4 rfl rfl (hon 6 (by kernel_rfl)) rfl
          replace ha := Aside0.mk ha
          have HO6407 := Aside0.mk Q_HO6407
          have HO6410 := Aside0.mk Q_HO6410
          have HO6413 := Aside0.mk Q_HO6413
          have HO6416 := Aside0.mk Q_HO6416
          have HO6419 := Aside0.mk Q_HO6419
          have BK6401 := Aside0.mk Q_BK6401
          have HB := Aside0.mk Q_HB
          have HO6426 := Aside0.mk (Q_HO6426 (hon 4 (by kernel_rfl)))
          have HO6429 := Aside0.mk (Q_HO6429 (hon 6 (by kernel_rfl)))
          obtain ⟨Ao40, co40, eo40⟩ := Kd.R_slice HO6429.out
          (first | subst eo40 | (injection eo40 with f1_ f2_ f3_; have f4_ := f1_.symm; have f5_ := f3_.symm; clear f1_ f2_ f3_; subst f4_; subst f5_))
          refine goes_ Try.func16 (by kernel_rfl) rfl #[.slice Ao40 y6427.length co40] (by rfl) rfl rfl (by first | (simp only [List.map_toArray, List.map_cons, List.map_nil, Act.eval, Array.getD_eq_getD_getElem?, Option.getD_some, e30]; done) | (simp only [List.map_toArray, List.map_cons, List.map_nil, Act.eval, Array.getD_eq_getD_getElem?, Option.getD_some, e30]; rfl)) ?_
          with_reducible refine (flyballref01_Of.calls k _ _ y6427 t6430 _ ?side1 ?side2 A12.out).mono ?_
          (case side1 => repeat (first | exact (Kd.R_reads' HO6429.out).2.2 | (with_reducible refine Kd.C_alloc ?_ _) | (with_reducible refine Kd.C_drewN ?_ _) | (with_reducible refine Kd.C_drew ?_)))
          (case side2 => exact (Kd.R_reads' HO6429.out).2.1)
          rintro e w41 ⟨v6431, rfl, ho0, hb⟩
          refine ⟨_, rfl, ?_⟩
          have n0_ := Aside0.mk (Kd.R_below (by (with_reducible repeat (first | apply Kd.R_alloc | apply Kd.R_drewN | apply Kd.R_drew)); exact Kd.R_mono HO6407.out (fun _ _ => trivial)) hb)
          have n1_ := Aside0.mk (Kd.R_elder' (by (with_reducible repeat (first | apply Kd.R_alloc | apply Kd.R_drewN | apply Kd.R_drew)); exact Kd.R_mono HO6410.out (fun _ _ => trivial)) (Kd.R_base ho0) hb)
          have n2_ := Aside0.mk (Kd.R_below (by (with_reducible repeat (first | apply Kd.R_alloc | apply Kd.R_drewN | apply Kd.R_drew)); exact Kd.R_mono HO6413.out (fun _ _ => trivial)) hb)
          have n3_ := Aside0.mk (Kd.R_elder' (by (with_reducible repeat (first | apply Kd.R_alloc | apply Kd.R_drewN | apply Kd.R_drew)); exact Kd.R_mono HO6416.out (fun _ _ => trivial)) (Kd.R_base ho0) hb)
          have n4_ := Aside0.mk (Kd.R_elder' (by (with_reducible repeat (first | apply Kd.R_alloc | apply Kd.R_drewN | apply Kd.R_drew)); exact Kd.R_mono HO6419.out (fun _ _ => trivial)) (Kd.R_base ho0) hb)
          have n5_ := Aside0.mk (Kd.R_elder' (by (with_reducible repeat (first | apply Kd.R_alloc | apply Kd.R_drewN | apply Kd.R_drew)); exact Kd.R_mono HO6426.out (fun _ _ => trivial)) (Kd.R_base ho0) hb)
          have n6_ := Aside0.mk (Kd.R_below (by (with_reducible repeat (first | apply Kd.R_alloc | apply Kd.R_drewN | apply Kd.R_drew)); exact Kd.R_mono HO6429.out (fun _ _ => trivial)) hb)
          have n7_ := Aside0.mk (Kd.R_lower (Kd.R_new' (Kd.R_new' (Kd.R_new' (Kd.R_new' ho0 (Kd.R_lt (by (with_reducible repeat (first | apply Kd.R_alloc | apply Kd.R_drewN | apply Kd.R_drew)); exact Kd.R_mono HO6410.out (fun _ _ => trivial)))) (Kd.R_lt (by (with_reducible repeat (first | apply Kd.R_alloc | apply Kd.R_drewN | apply Kd.R_drew)); exact Kd.R_mono HO6416.out (fun _ _ => trivial)))) (Kd.R_lt (by (with_reducible repeat (first | apply Kd.R_alloc | apply Kd.R_drewN | apply Kd.R_drew)); exact Kd.R_mono HO6419.out (fun _ _ => trivial)))) (Kd.R_lt (by (with_reducible repeat (first | apply Kd.R_alloc | apply Kd.R_drewN | apply Kd.R_drew)); exact Kd.R_mono HO6426.out (fun _ _ => trivial)))) (below_size (pl HB)))
          have n8_ := kb BK6401 hb
          have n9_ := kh HB hb
          clear HO6407
          clear HO6410
          clear HO6413
          clear HO6416
          clear HO6419
          clear HO6426
          clear HO6429
          clear BK6401
          clear HB
          have HO6407 := n0_
          have HO6410 := n1_
          have HO6413 := n2_
          have HO6416 := n3_
          have HO6419 := n4_
          have HO6426 := n5_
          have HO6429 := n6_
          have HO6432 := n7_
          have BK6401 := n8_
          have HB := n9_
          clear n0_ n1_ n2_ n3_ n4_ n5_ n6_ n7_ n8_ n9_
          (try clear hb)
          (try clear hb2)
          (try clear hk)
          (try clear hi)
          (try clear ho0)
          refine hK.out _ _ ⟨v6425, .slice Ao40 y6427.length co40, v6431, v6434, (by rw [ha.out]; exact putSel_upk 5 hb_ rfl rfl rfl), (by (with_reducible repeat (first | apply Kd.R_alloc | apply Kd.R_drewN | apply Kd.R_drew)); exact Kd.R_mono HO6407.out (fun _ _ => trivial)), (by (with_reducible repeat (first | apply Kd.R_alloc | apply Kd.R_drewN | apply Kd.R_drew)); exact Kd.R_mono HO6410.out (fun _ _ => trivial)), (by (with_reducible repeat (first | apply Kd.R_alloc | apply Kd.R_drewN | apply Kd.R_drew)); exact Kd.R_mono HO6413.out (fun _ _ => trivial)), (by (with_reducible repeat (first | apply Kd.R_alloc | apply Kd.R_drewN | apply Kd.R_drew)); exact Kd.R_mono HO6416.out (fun _ _ => trivial)), (by (with_reducible repeat (first | apply Kd.R_alloc | apply Kd.R_drewN | apply Kd.R_drew)); exact Kd.R_mono HO6419.out (fun _ _ => trivial)), (pk BK6401), (pl HB), fun _ => (by (with_reducible repeat (first | apply Kd.R_alloc | apply Kd.R_drewN | apply Kd.R_drew)); exact Kd.R_mono HO6426.out (fun _ _ => trivial)), fun _ => (by (with_reducible repeat (first | apply Kd.R_alloc | apply Kd.R_drewN | apply Kd.R_drew)); exact Kd.R_mono HO6429.out (fun _ _ => trivial)), fun _ => (by (with_reducible repeat (first | apply Kd.R_alloc | apply Kd.R_drewN | apply Kd.R_drew)); exact Kd.R_mono HO6432.out (fun _ _ => trivial)), fun h0_ => absurd ((hoff 8 (by kernel_rfl)).symm.trans h0_) (by decide)⟩
        refine steps_cons ?_ ?_
        · rintro b a w' ⟨v6425, v6428, v6431, v6434, ha, Q_HO6407, Q_HO6410, Q_HO6413, Q_HO6416, Q_HO6419, Q_BK6401, Q_HB, Q_HO6426, Q_HO6429, Q_HO6432, Q_HO6435⟩ hb_ hon hoff
          refine ⟨_, rfl, fun K hK => ?_⟩
          have e28 : a.tmps[28]? = some (v6425) := by rw [ha]; exact putSel_on (e := (4, 28, v6425)) 3 rfl rfl (hon 4 (by kernel_rfl)) rfl
          have e31 : a.tmps[31]? = some (v6431) := by rw [ha]; exact putSel_on (e := (7, 31, v6431)) 5 rfl rfl (hon 7 (by kernel_rfl)) rfl
          replace ha := Aside0.mk ha
          have HO6407 := Aside0.mk Q_HO6407
          have HO6410 := Aside0.mk Q_HO6410
          have HO6413 := Aside0.mk Q_HO6413
          have HO6416 := Aside0.mk Q_HO6416
          have HO6419 := Aside0.mk Q_HO6419
          have BK6401 := Aside0.mk Q_BK6401
          have HB := Aside0.mk Q_HB
          have HO6426 := Aside0.mk (Q_HO6426 (hon 4 (by kernel_rfl)))
          have HO6429 := Aside0.mk (Q_HO6429 (hon 6 (by kernel_rfl)))
          have HO6432 := Aside0.mk (Q_HO6432 (hon 7 (by kernel_rfl)))
          obtain ⟨Ao42, co42, eo42⟩ := Kd.R_slice HO6426.out
          (first | subst eo42 | (injection eo42 with f1_ f2_ f3_; have f4_ := f1_.symm; have f5_ := f3_.symm; clear f1_ f2_ f3_; subst f4_; subst f5_))
          obtain ⟨Ao43, co43, eo43⟩ := Kd.R_slice HO6432.out
          (first | subst eo43 | (injection eo43 with f1_ f2_ f3_; have f4_ := f1_.symm; have f5_ := f3_.symm; clear f1_ f2_ f3_; subst f4_; subst f5_))
          refine goes_ Try.func28 (by kernel_rfl) rfl #[.slice Ao42 t6424.length co42, .slice Ao43 t6430.length co43] (by rfl) rfl rfl (by first | (simp only [List.map_toArray, List.map_cons, List.map_nil, Act.eval, Array.getD_eq_getD_getElem?, Option.getD_some, e28, e31]; done) | (simp only [List.map_toArray, List.map_cons, List.map_nil, Act.eval, Array.getD_eq_getD_getElem?, Option.getD_some, e28, e31]; rfl)) ?_
          with_reducible refine (flyballref01_Mul.calls k _ _ t6424 _ _ t6430 t6433 _ ?side1 ?side2 ?side3 ?side4 A13.out).mono ?_
          (case side1 => repeat (first | exact (Kd.R_reads' HO6426.out).2.2 | (with_reducible refine Kd.C_alloc ?_ _) | (with_reducible refine Kd.C_drewN ?_ _) | (with_reducible refine Kd.C_drew ?_)))
          (case side2 => exact (Kd.R_reads' HO6426.out).2.1)
          (case side3 => repeat (first | exact (Kd.R_reads' HO6432.out).2.2 | (with_reducible refine Kd.C_alloc ?_ _) | (with_reducible refine Kd.C_drewN ?_ _) | (with_reducible refine Kd.C_drew ?_)))
          (case side4 => exact (Kd.R_reads' HO6432.out).2.1)
          rintro e w44 ⟨v6434, rfl, ho0, hb⟩
          refine ⟨_, rfl, ?_⟩
          have n0_ := Aside0.mk (Kd.R_below (by (with_reducible repeat (first | apply Kd.R_alloc | apply Kd.R_drewN | apply Kd.R_drew)); exact Kd.R_mono HO6407.out (fun _ _ => trivial)) hb)
          have n1_ := Aside0.mk (Kd.R_elder' (by (with_reducible repeat (first | apply Kd.R_alloc | apply Kd.R_drewN | apply Kd.R_drew)); exact Kd.R_mono HO6410.out (fun _ _ => trivial)) (Kd.R_base ho0) hb)
          have n2_ := Aside0.mk (Kd.R_below (by (with_reducible repeat (first | apply Kd.R_alloc | apply Kd.R_drewN | apply Kd.R_drew)); exact Kd.R_mono HO6413.out (fun _ _ => trivial)) hb)
          have n3_ := Aside0.mk (Kd.R_elder' (by (with_reducible repeat (first | apply Kd.R_alloc | apply Kd.R_drewN | apply Kd.R_drew)); exact Kd.R_mono HO6416.out (fun _ _ => trivial)) (Kd.R_base ho0) hb)
          have n4_ := Aside0.mk (Kd.R_elder' (by (with_reducible repeat (first | apply Kd.R_alloc | apply Kd.R_drewN | apply Kd.R_drew)); exact Kd.R_mono HO6419.out (fun _ _ => trivial)) (Kd.R_base ho0) hb)
          have n5_ := Aside0.mk (Kd.R_elder' (by (with_reducible repeat (first | apply Kd.R_alloc | apply Kd.R_drewN | apply Kd.R_drew)); exact Kd.R_mono HO6426.out (fun _ _ => trivial)) (Kd.R_base ho0) hb)
          have n6_ := Aside0.mk (Kd.R_below (by (with_reducible repeat (first | apply Kd.R_alloc | apply Kd.R_drewN | apply Kd.R_drew)); exact Kd.R_mono HO6429.out (fun _ _ => trivial)) hb)
          have n7_ := Aside0.mk (Kd.R_elder' (by (with_reducible repeat (first | apply Kd.R_alloc | apply Kd.R_drewN | apply Kd.R_drew)); exact Kd.R_mono HO6432.out (fun _ _ => trivial)) (Kd.R_base ho0) hb)
          have n8_ := Aside0.mk (Kd.R_lower (Kd.R_new' (Kd.R_new' (Kd.R_new' (Kd.R_new' (Kd.R_new' ho0 (Kd.R_lt (by (with_reducible repeat (first | apply Kd.R_alloc | apply Kd.R_drewN | apply Kd.R_drew)); exact Kd.R_mono HO6410.out (fun _ _ => trivial)))) (Kd.R_lt (by (with_reducible repeat (first | apply Kd.R_alloc | apply Kd.R_drewN | apply Kd.R_drew)); exact Kd.R_mono HO6416.out (fun _ _ => trivial)))) (Kd.R_lt (by (with_reducible repeat (first | apply Kd.R_alloc | apply Kd.R_drewN | apply Kd.R_drew)); exact Kd.R_mono HO6419.out (fun _ _ => trivial)))) (Kd.R_lt (by (with_reducible repeat (first | apply Kd.R_alloc | apply Kd.R_drewN | apply Kd.R_drew)); exact Kd.R_mono HO6426.out (fun _ _ => trivial)))) (Kd.R_lt (by (with_reducible repeat (first | apply Kd.R_alloc | apply Kd.R_drewN | apply Kd.R_drew)); exact Kd.R_mono HO6432.out (fun _ _ => trivial)))) (below_size (pl HB)))
          have n9_ := kb BK6401 hb
          have n10_ := kh HB hb
          clear HO6407
          clear HO6410
          clear HO6413
          clear HO6416
          clear HO6419
          clear HO6426
          clear HO6429
          clear HO6432
          clear BK6401
          clear HB
          have HO6407 := n0_
          have HO6410 := n1_
          have HO6413 := n2_
          have HO6416 := n3_
          have HO6419 := n4_
          have HO6426 := n5_
          have HO6429 := n6_
          have HO6432 := n7_
          have HO6435 := n8_
          have BK6401 := n9_
          have HB := n10_
          clear n0_ n1_ n2_ n3_ n4_ n5_ n6_ n7_ n8_ n9_ n10_
          (try clear hb)
          (try clear hb2)
          (try clear hk)
          (try clear hi)
          (try clear ho0)
          refine hK.out _ _ ⟨.slice Ao42 t6424.length co42, v6428, .slice Ao43 t6430.length co43, v6434, (by rw [ha.out]; exact putSel_upk 6 hb_ rfl rfl rfl), (by (with_reducible repeat (first | apply Kd.R_alloc | apply Kd.R_drewN | apply Kd.R_drew)); exact Kd.R_mono HO6407.out (fun _ _ => trivial)), (by (with_reducible repeat (first | apply Kd.R_alloc | apply Kd.R_drewN | apply Kd.R_drew)); exact Kd.R_mono HO6410.out (fun _ _ => trivial)), (by (with_reducible repeat (first | apply Kd.R_alloc | apply Kd.R_drewN | apply Kd.R_drew)); exact Kd.R_mono HO6413.out (fun _ _ => trivial)), (by (with_reducible repeat (first | apply Kd.R_alloc | apply Kd.R_drewN | apply Kd.R_drew)); exact Kd.R_mono HO6416.out (fun _ _ => trivial)), (by (with_reducible repeat (first | apply Kd.R_alloc | apply Kd.R_drewN | apply Kd.R_drew)); exact Kd.R_mono HO6419.out (fun _ _ => trivial)), (pk BK6401), (pl HB), fun _ => (by (with_reducible repeat (first | apply Kd.R_alloc | apply Kd.R_drewN | apply Kd.R_drew)); exact Kd.R_mono HO6426.out (fun _ _ => trivial)), fun _ => (by (with_reducible repeat (first | apply Kd.R_alloc | apply Kd.R_drewN | apply Kd.R_drew)); exact Kd.R_mono HO6429.out (fun _ _ => trivial)), fun _ => (by (with_reducible repeat (first | apply Kd.R_alloc | apply Kd.R_drewN | apply Kd.R_drew)); exact Kd.R_mono HO6432.out (fun _ _ => trivial)), fun _ => (by (with_reducible repeat (first | apply Kd.R_alloc | apply Kd.R_drewN | apply Kd.R_drew)); exact Kd.R_mono HO6435.out (fun _ _ => trivial))⟩
        refine steps_cons ?_ ?_
        · rintro b a w' ⟨v6425, v6428, v6431, v6434, ha, Q_HO6407, Q_HO6410, Q_HO6413, Q_HO6416, Q_HO6419, Q_BK6401, Q_HB, Q_HO6426, Q_HO6429, Q_HO6432, Q_HO6435⟩ hb_ hon hoff
          refine ⟨_, rfl, fun K hK => ?_⟩
          have e26 : a.tmps[26]? = some (.agg #[.int .u64 t6421, .int .u64 t6422, .int .u64 t6423]) := by rw [ha]; exact putSel_on (e := (2, 26, .agg #[.int .u64 t6421, .int .u64 t6422, .int .u64 t6423])) 1 rfl rfl (hon 2 (by kernel_rfl)) rfl
          have e32 : a.tmps[32]? = some (v6434) := by rw [ha]; exact putSel_on (e := (8, 32, v6434)) 6 rfl rfl (hon 8 (by kernel_rfl)) rfl
          replace ha := Aside0.mk ha
          have HO6407 := Aside0.mk Q_HO6407
          have HO6410 := Aside0.mk Q_HO6410
          have HO6413 := Aside0.mk Q_HO6413
          have HO6416 := Aside0.mk Q_HO6416
          have HO6419 := Aside0.mk Q_HO6419
          have BK6401 := Aside0.mk Q_BK6401
          have HB := Aside0.mk Q_HB
          have HO6426 := Aside0.mk (Q_HO6426 (hon 4 (by kernel_rfl)))
          have HO6429 := Aside0.mk (Q_HO6429 (hon 6 (by kernel_rfl)))
          have HO6432 := Aside0.mk (Q_HO6432 (hon 7 (by kernel_rfl)))
          have HO6435 := Aside0.mk (Q_HO6435 (hon 8 (by kernel_rfl)))
          obtain ⟨Ao45, co45, eo45⟩ := Kd.R_slice HO6435.out
          (first | subst eo45 | (injection eo45 with f1_ f2_ f3_; have f4_ := f1_.symm; have f5_ := f3_.symm; clear f1_ f2_ f3_; subst f4_; subst f5_))
          refine goes_ Try.func20 (by kernel_rfl) rfl #[.agg #[.int .u64 t6421, .int .u64 t6422, .int .u64 t6423], .slice Ao45 t6433.length co45] (by rfl) rfl rfl (by first | (simp only [List.map_toArray, List.map_cons, List.map_nil, Act.eval, Array.getD_eq_getD_getElem?, Option.getD_some, e26, e32]; done) | (simp only [List.map_toArray, List.map_cons, List.map_nil, Act.eval, Array.getD_eq_getD_getElem?, Option.getD_some, e26, e32]; rfl)) ?_
          with_reducible refine (flyballlaw01_is3.calls k t6421 t6422 t6423 _ _ t6433 t6436 _ ?side1 ?side2 A14.out).mono ?_
          (case side1 => repeat (first | exact (Kd.R_reads' HO6435.out).2.2 | (with_reducible refine Kd.C_alloc ?_ _) | (with_reducible refine Kd.C_drewN ?_ _) | (with_reducible refine Kd.C_drew ?_)))
          (case side2 => exact (Kd.R_reads' HO6435.out).2.1)
          rintro e w46 ⟨rfl, hb⟩
          refine ⟨_, rfl, ?_⟩
          have n0_ := Aside0.mk (Kd.R_below (by (with_reducible repeat (first | apply Kd.R_alloc | apply Kd.R_drewN | apply Kd.R_drew)); exact Kd.R_mono HO6407.out (fun _ _ => trivial)) hb)
          have n1_ := Aside0.mk (Kd.R_below (by (with_reducible repeat (first | apply Kd.R_alloc | apply Kd.R_drewN | apply Kd.R_drew)); exact Kd.R_mono HO6410.out (fun _ _ => trivial)) hb)
          have n2_ := Aside0.mk (Kd.R_below (by (with_reducible repeat (first | apply Kd.R_alloc | apply Kd.R_drewN | apply Kd.R_drew)); exact Kd.R_mono HO6413.out (fun _ _ => trivial)) hb)
          have n3_ := Aside0.mk (Kd.R_below (by (with_reducible repeat (first | apply Kd.R_alloc | apply Kd.R_drewN | apply Kd.R_drew)); exact Kd.R_mono HO6416.out (fun _ _ => trivial)) hb)
          have n4_ := Aside0.mk (Kd.R_below (by (with_reducible repeat (first | apply Kd.R_alloc | apply Kd.R_drewN | apply Kd.R_drew)); exact Kd.R_mono HO6419.out (fun _ _ => trivial)) hb)
          have n5_ := Aside0.mk (Kd.R_below (by (with_reducible repeat (first | apply Kd.R_alloc | apply Kd.R_drewN | apply Kd.R_drew)); exact Kd.R_mono HO6426.out (fun _ _ => trivial)) hb)
          have n6_ := Aside0.mk (Kd.R_below (by (with_reducible repeat (first | apply Kd.R_alloc | apply Kd.R_drewN | apply Kd.R_drew)); exact Kd.R_mono HO6429.out (fun _ _ => trivial)) hb)
          have n7_ := Aside0.mk (Kd.R_below (by (with_reducible repeat (first | apply Kd.R_alloc | apply Kd.R_drewN | apply Kd.R_drew)); exact Kd.R_mono HO6432.out (fun _ _ => trivial)) hb)
          have n8_ := Aside0.mk (Kd.R_below (by (with_reducible repeat (first | apply Kd.R_alloc | apply Kd.R_drewN | apply Kd.R_drew)); exact Kd.R_mono HO6435.out (fun _ _ => trivial)) hb)
          have n9_ := kb BK6401 hb
          have n10_ := kh HB hb
          clear HO6407
          clear HO6410
          clear HO6413
          clear HO6416
          clear HO6419
          clear HO6426
          clear HO6429
          clear HO6432
          clear HO6435
          clear BK6401
          clear HB
          have HO6407 := n0_
          have HO6410 := n1_
          have HO6413 := n2_
          have HO6416 := n3_
          have HO6419 := n4_
          have HO6426 := n5_
          have HO6429 := n6_
          have HO6432 := n7_
          have HO6435 := n8_
          have BK6401 := n9_
          have HB := n10_
          clear n0_ n1_ n2_ n3_ n4_ n5_ n6_ n7_ n8_ n9_ n10_
          (try clear hb)
          (try clear hb2)
          (try clear hk)
          (try clear hi)
          refine hK.out _ _ ⟨v6425, v6428, v6431, .slice Ao45 t6433.length co45, (by rw [ha.out]; exact putSel_upk 7 hb_ rfl rfl rfl), (by (with_reducible repeat (first | apply Kd.R_alloc | apply Kd.R_drewN | apply Kd.R_drew)); exact Kd.R_mono HO6407.out (fun _ _ => trivial)), (by (with_reducible repeat (first | apply Kd.R_alloc | apply Kd.R_drewN | apply Kd.R_drew)); exact Kd.R_mono HO6410.out (fun _ _ => trivial)), (by (with_reducible repeat (first | apply Kd.R_alloc | apply Kd.R_drewN | apply Kd.R_drew)); exact Kd.R_mono HO6413.out (fun _ _ => trivial)), (by (with_reducible repeat (first | apply Kd.R_alloc | apply Kd.R_drewN | apply Kd.R_drew)); exact Kd.R_mono HO6416.out (fun _ _ => trivial)), (by (with_reducible repeat (first | apply Kd.R_alloc | apply Kd.R_drewN | apply Kd.R_drew)); exact Kd.R_mono HO6419.out (fun _ _ => trivial)), (pk BK6401), (pl HB), fun _ => (by (with_reducible repeat (first | apply Kd.R_alloc | apply Kd.R_drewN | apply Kd.R_drew)); exact Kd.R_mono HO6426.out (fun _ _ => trivial)), fun _ => (by (with_reducible repeat (first | apply Kd.R_alloc | apply Kd.R_drewN | apply Kd.R_drew)); exact Kd.R_mono HO6429.out (fun _ _ => trivial)), fun _ => (by (with_reducible repeat (first | apply Kd.R_alloc | apply Kd.R_drewN | apply Kd.R_drew)); exact Kd.R_mono HO6432.out (fun _ _ => trivial)), fun _ => (by (with_reducible repeat (first | apply Kd.R_alloc | apply Kd.R_drewN | apply Kd.R_drew)); exact Kd.R_mono HO6435.out (fun _ _ => trivial))⟩
        refine steps_cons ?_ ?_
        · rintro b a w' ⟨v6425, v6428, v6431, v6434, ha, Q_HO6407, Q_HO6410, Q_HO6413, Q_HO6416, Q_HO6419, Q_BK6401, Q_HB, Q_HO6426, Q_HO6429, Q_HO6432, Q_HO6435⟩ hb_ hon hoff
          refine ⟨_, rfl, fun K hK => ?_⟩
          have e33 : a.tmps[33]? = some (.bool t6436) := by rw [ha]; exact putSel_on (e := (9, 33, .bool t6436)) 7 rfl rfl (hon 9 (by kernel_rfl)) rfl
          replace ha := Aside0.mk ha
          have HO6407 := Aside0.mk Q_HO6407
          have HO6410 := Aside0.mk Q_HO6410
          have HO6413 := Aside0.mk Q_HO6413
          have HO6416 := Aside0.mk Q_HO6416
          have HO6419 := Aside0.mk Q_HO6419
          have BK6401 := Aside0.mk Q_BK6401
          have HB := Aside0.mk Q_HB
          have HO6426 := Aside0.mk (Q_HO6426 (hon 4 (by kernel_rfl)))
          have HO6429 := Aside0.mk (Q_HO6429 (hon 6 (by kernel_rfl)))
          have HO6432 := Aside0.mk (Q_HO6432 (hon 7 (by kernel_rfl)))
          have HO6435 := Aside0.mk (Q_HO6435 (hon 8 (by kernel_rfl)))
          refine value_ (w1 := w') (v := .bool t6436) (by rfl) rfl ?_ ?_
          · go_simp
            (try simp only [i64_w])
            try rfl
          refine hK.out _ _ ⟨v6425, v6428, v6431, v6434, (by rw [ha.out]; exact putSel_upk 8 hb_ rfl rfl rfl), Q_HO6407, Q_HO6410, Q_HO6413, Q_HO6416, Q_HO6419, Q_BK6401, Q_HB, Q_HO6426, Q_HO6429, Q_HO6432, Q_HO6435⟩
        exact steps_nil
      rintro b a w46 hall ⟨v6425, v6428, v6431, v6434, ha, Q_HO6407, Q_HO6410, Q_HO6413, Q_HO6416, Q_HO6419, Q_BK6401, Q_HB, Q_HO6426, Q_HO6429, Q_HO6432, Q_HO6435⟩
      clear BK6401 HB HO6407 HO6410 HO6413 HO6416 HO6419
      have hb0_ := hall 0 (by kernel_rfl)
      have hb2_ := hall 2 (by kernel_rfl)
      have hb3_ := hall 3 (by kernel_rfl)
      have hb4_ := hall 4 (by kernel_rfl)
      have hb6_ := hall 6 (by kernel_rfl)
      have hb7_ := hall 7 (by kernel_rfl)
      have hb8_ := hall 8 (by kernel_rfl)
      have hb9_ := hall 9 (by kernel_rfl)
      have hb10_ := hall 10 (by kernel_rfl)
      subst ha
      simp only [putSel, hb0_, hb2_, hb3_, hb4_, hb6_, hb7_, hb8_, hb9_, hb10_, if_true, Act.put, List.setIfInBounds_toArray, List.set_cons_zero, List.set_cons_succ]
      have HO6407 := Aside0.mk Q_HO6407
      clear Q_HO6407
      have HO6410 := Aside0.mk Q_HO6410
      clear Q_HO6410
      have HO6413 := Aside0.mk Q_HO6413
      clear Q_HO6413
      have HO6416 := Aside0.mk Q_HO6416
      clear Q_HO6416
      have HO6419 := Aside0.mk Q_HO6419
      clear Q_HO6419
      have BK6401 := Aside0.mk Q_BK6401
      clear Q_BK6401
      have HB := Aside0.mk Q_HB
      clear Q_HB
      have HO6426 := Aside0.mk (Q_HO6426 hb4_)
      clear Q_HO6426
      have HO6429 := Aside0.mk (Q_HO6429 hb6_)
      clear Q_HO6429
      have HO6432 := Aside0.mk (Q_HO6432 hb7_)
      clear Q_HO6432
      have HO6435 := Aside0.mk (Q_HO6435 hb8_)
      clear Q_HO6435
      clear hall hb0_ hb2_ hb3_ hb4_ hb6_ hb7_ hb8_ hb9_ hb10_
      try go_wp2
      go_ret
      exact ⟨pe, pl HB⟩
    · replace c15 := Bool.eq_false_iff.mpr c15
      subst c15
      rw [if_neg (show ¬ (false = true) by decide)] at H
      exact absurd H (by simp)
  · replace c4 := Bool.eq_false_iff.mpr c4
    subst c4
    rw [if_neg (show ¬ (false = true) by decide)] at H
    obtain rfl := Option.some.inj H
    go_enter Try.func5, Try.ntmps5
    go_wp2_with (first | ((with_reducible refine gate_dst (N := 2) rfl ?_); refine kx 2 #[.int .u64 a0_0, .int .u64 a0_1] 24 ?_; intro gb6401 hg w47 hbox hb; have BK6401 := Aside0.mk (hbox); have GW6401 := kg HB hg; have GE6401 := kg HB hg; replace HB := kh HB hb; clear hb hbox hg) | ((with_reducible refine gate_callee (f := 11) rfl ?_); refine kc (some 8) Try.func11 #[] (flyballlaw01_works.calls k  false _ A3.out) ?_; intro w48 hb; replace BK6401 := kb BK6401 hb; replace HB := kh HB hb; (try clear hb); (try clear hb2); (try clear hk); (try clear hi)))
    go_ret
    exact ⟨pe, pl HB⟩
end Go.Proofs.Ytdchdapllehppaa.PAll
end
