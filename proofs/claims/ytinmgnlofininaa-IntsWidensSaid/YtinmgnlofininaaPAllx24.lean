-- Laid by this session's wip/more.py over the kit's print; hand-written parts are in it.
import Derived.Test.YtinmgnlofininaaPAllx0
import Derived.Test.YtinmgnlofininaaPAllx1
import Derived.Test.YtinmgnlofininaaPAllx3
import Derived.Test.YtinmgnlofininaaPAllx10
import Derived.Test.YtinmgnlofininaaPAllx22
import Derived.Test.YtinmgnlofininaaPAllx23
namespace Go.Proofs.Ytinmgnlofininaa.PAll
open Go.RowKit Go.Proofs.YtinmgnlofininaaW.PrintWords Go.Proofs.YtinmgnlofininaaW.PrintLast Go.Proofs.YtinmgnlofininaaW.PrintMore
attribute [local go_sem] max2_int min2_int max_two min_two max_three min_three max_four min_four   -- for this text's walks alone
set_option linter.unusedVariables false
set_option linter.unusedSimpArgs false

attribute [local go_sem high] eqA23
/-! ### flyballlaw17_IntsWidens: function 12 -/
def flyballlaw17_IntsWidens.f (k : Nat) (a0_0 : Bool) (a0_1 : Int) (a0_2 : Int) (a1_0 : Bool) (a1_1 : Int) (a1_2 : Int) (l2 : List Int) : Option (Bool) := (flyballlaw17_works.f k).bind fun t6853 => (if t6853 = true then (if (l2.length : Int) > 200 then (some t6853) else ((ints_Widen.f k a0_0 a0_1 a0_2 a1_0 a1_1 a1_2 l2).bind fun bt6854 => ((flyballref17_Widen.f k a0_0 a0_1 a0_2 a1_0 a1_1 a1_2 l2).bind fun bt6858 => (if (bt6854.1 == bt6858.1 && (bt6854.2.1 == bt6858.2.1 && (bt6854.2.2 == bt6858.2.2))) = true then ((ints_Inside.f a0_0 a0_1 a0_2 bt6854.1 bt6854.2.1 bt6854.2.2).bind fun t6861 => (if t6861 = true then ((ints_Inside.f a1_0 a1_1 a1_2 bt6854.1 bt6854.2.1 bt6854.2.2).bind fun t6862 => (some t6862)) else (none))) else (none))))) else (some false))
theorem flyballlaw17_IntsWidens.mono : ∀ a0 a1 a2 a3 a4 a5 a6 k, LeO (flyballlaw17_IntsWidens.f k a0 a1 a2 a3 a4 a5 a6) (flyballlaw17_IntsWidens.f (k + 1) a0 a1 a2 a3 a4 a5 a6) := by
  intro a0 a1 a2 a3 a4 a5 a6 k
  unfold flyballlaw17_IntsWidens.f
  repeat' first
      | (with_reducible exact flyballlaw17_works.mono _)
      | (with_reducible exact flyballref17_Widen.mono _ _ _ _ _ _ _ _)
      | (with_reducible exact ints_Widen.mono _ _ _ _ _ _ _ _)
      | (with_reducible exact LeO.refl _)
      | (with_reducible exact LeO.none _)
      | (with_reducible refine LeO.ite ?_ ?_)
      | (with_reducible refine LeO.bind ?_ (fun _ => ?_))
      | exact flyballlaw17_works.mono _
      | exact flyballref17_Widen.mono _ _ _ _ _ _ _ _
      | exact ints_Widen.mono _ _ _ _ _ _ _ _
      | exact LeO.none _
      | refine LeO.ite ?_ ?_
      | refine LeO.bind ?_ (fun _ => ?_)
def flyballlaw17_IntsWidens.T7 : Bool × List (List Nat × List Nat) := (true, [([], []), ([0], [0]), ([1], [1]), ([1], [1]), ([1], [1]), ([1], [1]), ([3, 4, 5, 1, 1], [1, 3, 4, 5]), ([2, 6, 1], [1, 2, 6]), ([1, 7], [1, 7]), ([8, 6], [8]), ([9], [9]), ([9], [9]), ([10, 11, 9, 9], [9, 10, 11]), ([9, 12], [9, 12]), ([13, 12], [13]), ([14], [14]), ([14], [14]), ([15, 16, 14, 14], [14, 15, 16]), ([14, 17], [14, 17]), ([18, 17, 0, 1, 2, 3, 4, 5, 6, 7, 8, 9, 10, 11, 12, 13, 14, 15, 16, 17, 18], [18])])
def flyballlaw17_IntsWidens.B7 : List Nat := [0, 1, 3, 3, 3, 3, 59, 127, 255, 511, 1023, 1023, 4095, 8191, 16383, 32767, 32767, 131071, 262143, 524287]
theorem flyballlaw17_IntsWidens.tab7 : rtab .any (opsOf Try.f12 7) = flyballlaw17_IntsWidens.T7 := by kernel_rfl
theorem flyballlaw17_IntsWidens.bits7 : waitsOk flyballlaw17_IntsWidens.T7.2 flyballlaw17_IntsWidens.B7 = true := by kernel_rfl
set_option maxHeartbeats 8000000 in
set_option maxRecDepth 100000 in
theorem flyballlaw17_IntsWidens.calls (k : Nat) (a0_0 : Bool) (a0_1 : Int) (a0_2 : Int) (a1_0 : Bool) (a1_1 : Int) (a1_2 : Int) (A2 : Option Addr) (c2 : Nat) (l2 : List Int) (r : Bool) (w : World) (hr2 : Kd.C (Kd.int .i64) w A2 l2.length l2) (hc2 : l2.length ≤ c2) (h : flyballlaw17_IntsWidens.f k a0_0 a0_1 a0_2 a1_0 a1_1 a1_2 l2 = some r) :
    Calls Try.prog 12 #[.agg #[.bool a0_0, .int .i64 a0_1, .int .i64 a0_2], .agg #[.bool a1_0, .int .i64 a1_1, .int .i64 a1_2], .slice A2 l2.length c2] w fun e w' => e = .returned (.bool r) ∧ Below w.heap.size w w' := by
  have hu23 := Try.underlying23
  have HR2 := Aside0.mk hr2
  have HC2 := Aside0.mk hc2
  clear hr2 hc2
  have HB := Aside0.mk (Below.refl w.heap.size w)
  have H := h
  clear h
  unfold flyballlaw17_IntsWidens.f at H
  obtain ⟨t6853, A40, H⟩ := Option.bind_eq_some_iff.mp H
  have A4 := Aside0.mk A40
  clear A40
  (try dsimp only at H)
  by_cases c5 : t6853 = true
  · subst c5
    rw [if_pos rfl] at H
    by_cases c6 : (l2.length : Int) > 200
    · rw [if_pos c6] at H
      have c6b0 : decide (200 < (l2.length : Int)) = true := decide_eq_true c6
      have c6b1 : decide (200 < l2.length) = true := decide_eq_true (by omega)
      clear c6
      obtain rfl := Option.some.inj H
      go_enter Try.func12, Try.ntmps12
      go_wp2_with (first | ((with_reducible refine gate_dst (N := 3) rfl ?_); refine kx 3 #[.bool a0_0, .int .i64 a0_1, .int .i64 a0_2] 23 ?_; intro gb6851 hg w7 hbox hb; have BK6851 := Aside0.mk (hbox); have GW6851 := kg HB hg; have GE6851 := kg HB hg; replace HB := kh HB hb; clear hb hbox hg) | ((with_reducible refine gate_dst (N := 4) rfl ?_); refine kx 4 #[.bool a1_0, .int .i64 a1_1, .int .i64 a1_2] 23 ?_; intro gb6852 hg w8 hbox hb; have BK6852 := Aside0.mk (hbox); have GW6852 := kg HB hg; have GE6852 := kg HB hg; have NB6851_6852 := kn BK6851 hg; have NB6852_6851 := km BK6851 hg; replace BK6851 := kb BK6851 hb; replace HB := kh HB hb; clear hb hbox hg) | ((with_reducible refine gate_callee (f := 38) rfl ?_); refine kc (some 9) Try.func38 #[] (flyballlaw17_works.calls k  true _ A4.out) ?_; intro w9 hb; replace BK6851 := kb BK6851 hb; replace BK6852 := kb BK6852 hb; replace HB := kh HB hb; (try clear hb)))
      go_ret
      exact ⟨pe, pl HB⟩
    · rw [if_neg c6] at H
      have c6b0 : decide (200 < (l2.length : Int)) = false := decide_eq_false c6
      have c6b1 : decide (200 < l2.length) = false := decide_eq_false (by omega)
      clear c6
      obtain ⟨⟨t6854, t6855, t6856⟩, A100, H⟩ := Option.bind_eq_some_iff.mp H
      have A10 := Aside0.mk A100
      clear A100
      (try dsimp only at H)
      obtain ⟨⟨t6858, t6859, t6860⟩, A110, H⟩ := Option.bind_eq_some_iff.mp H
      have A11 := Aside0.mk A110
      clear A110
      (try dsimp only at H)
      by_cases c12 : (t6854 == t6858 && (t6855 == t6859 && (t6856 == t6860))) = true
      · rw [if_pos c12] at H
        have c12b0 : (t6854 == t6858 && (t6855 == t6859 && (t6856 == t6860))) = true := c12
        (try (have c12b1 : decide (t6854 = t6858 && (t6855 == t6859 && (t6856 == t6860))) = true := by simpa using c12))
        (try (have c12b2 : (t6854 == t6858 && (t6855 == t6859 && (t6856 == t6860))) = true := by simpa using c12))
        clear c12
        obtain ⟨t6861, A130, H⟩ := Option.bind_eq_some_iff.mp H
        have A13 := Aside0.mk A130
        clear A130
        (try dsimp only at H)
        by_cases c14 : t6861 = true
        · subst c14
          rw [if_pos rfl] at H
          obtain ⟨t6862, A150, H⟩ := Option.bind_eq_some_iff.mp H
          have A15 := Aside0.mk A150
          clear A150
          (try dsimp only at H)
          obtain rfl := Option.some.inj H
          go_enter Try.func12, Try.ntmps12
          try go_wp2_with (first | ((with_reducible refine gate_dst (N := 3) rfl ?_); refine kx 3 #[.bool a0_0, .int .i64 a0_1, .int .i64 a0_2] 23 ?_; intro gb6851 hg w16 hbox hb; have BK6851 := Aside0.mk (hbox); have GW6851 := kg HB hg; have GE6851 := kg HB hg; replace HB := kh HB hb; clear hb hbox hg) | ((with_reducible refine gate_dst (N := 4) rfl ?_); refine kx 4 #[.bool a1_0, .int .i64 a1_1, .int .i64 a1_2] 23 ?_; intro gb6852 hg w17 hbox hb; have BK6852 := Aside0.mk (hbox); have GW6852 := kg HB hg; have GE6852 := kg HB hg; have NB6851_6852 := kn BK6851 hg; have NB6852_6851 := km BK6851 hg; replace BK6851 := kb BK6851 hb; replace HB := kh HB hb; clear hb hbox hg) | ((with_reducible refine gate_callee (f := 38) rfl ?_); refine kc (some 9) Try.func38 #[] (flyballlaw17_works.calls k  true _ A4.out) ?_; intro w18 hb; replace BK6851 := kb BK6851 hb; replace BK6852 := kb BK6852 hb; replace HB := kh HB hb; (try clear hb); have hnb19 := NB6851_6852.out; have hnc19 := NB6852_6851.out; have ⟨hcz20_0, hcz20_1, hcz20_2, hfz20_0, hfz20_1, hfz20_2⟩ := kz3f BK6851; have ⟨hcz21_0, hcz21_1, hcz21_2, hfz21_0, hfz21_1, hfz21_2⟩ := kz3f BK6852) | ((with_reducible refine gate_callee (f := 57) rfl ?_); refine goesL_ (some 19) rfl rfl Try.func57 (by kernel_rfl) rfl #[.agg #[.bool a0_0, .int .i64 a0_1, .int .i64 a0_2], .agg #[.bool a1_0, .int .i64 a1_1, .int .i64 a1_2], .slice A2 l2.length c2] rfl pa ?_; (with_reducible refine (ints_Widen.calls k a0_0 a0_1 a0_2 a1_0 a1_1 a1_2 _ _ l2 t6854 t6855 t6856 _ ?side1 ?side2 A10.out).mono ?_); (case side1 => repeat (first | exact (Kd.C_below HR2.out HB.out) | (with_reducible refine Kd.C_alloc ?_ _) | (with_reducible refine Kd.C_drewN ?_ _) | (with_reducible refine Kd.C_drew ?_))); (case side2 => exact HC2.out); rintro e w22 ⟨rfl, hb⟩; refine ⟨_, rfl, ?_⟩; replace BK6851 := kb BK6851 hb; replace BK6852 := kb BK6852 hb; replace HB := kh HB hb; (try clear hb)) | ((with_reducible refine gate_dst (N := 8) rfl ?_); refine kx 8 #[.bool false, .int .i64 0, .int .i64 0] 23 ?_; intro gb6857 hg w23 hbox hb; have BK6857 := Aside0.mk (hbox); have GW6857 := kg HB hg; have GE6857 := kg HB hg; have NB6851_6857 := kn BK6851 hg; have NB6857_6851 := km BK6851 hg; have NB6852_6857 := kn BK6852 hg; have NB6857_6852 := km BK6852 hg; replace BK6851 := kb BK6851 hb; replace BK6852 := kb BK6852 hb; replace HB := kh HB hb; clear hb hbox hg; have hnb24 := NB6857_6851.out; have hnc24 := NB6851_6857.out; have hnb25 := NB6857_6852.out; have hnc25 := NB6852_6857.out; have ⟨hcz26_0, hcz26_1, hcz26_2, hfz26_0, hfz26_1, hfz26_2⟩ := kz3f BK6857))
          generalize hW_ : (((w23.setCell ⟨gb6857, 0, none⟩ (.bool t6854)).setCell ⟨gb6857, 1, none⟩ (.int .i64 t6855)).setCell ⟨gb6857, 2, none⟩ (.int .i64 t6856)) = w27
          replace BK6851 := kr BK6851 hW_
          replace BK6852 := kr BK6852 hW_
          replace BK6857 := kr (o' := .cells #[.bool t6854, .int .i64 t6855, .int .i64 t6856] 23 (0, 0)) BK6857 hW_
          replace HB := kq HB hW_
          clear hW_
          replace BK6851 := Aside0.mk (blk_drew BK6851.out)
          replace BK6852 := Aside0.mk (blk_drew BK6852.out)
          replace BK6857 := Aside0.mk (blk_drew BK6857.out)
          replace HB := Aside0.mk (below_drew1 HB.out)
          refine start_ (n := 20) (S := fun w' => w'.cell? ⟨gb6857, 0, none⟩ = some (.bool t6854) ∧ w'.cell? ⟨gb6857, 1, none⟩ = some (.int .i64 t6855) ∧ w'.cell? ⟨gb6857, 2, none⟩ = some (.int .i64 t6856) ∧ w'.cell? ⟨gb6851, 0, none⟩ = some (.bool a0_0) ∧ w'.cell? ⟨gb6851, 1, none⟩ = some (.int .i64 a0_1) ∧ w'.cell? ⟨gb6851, 2, none⟩ = some (.int .i64 a0_2) ∧ w'.cell? ⟨gb6852, 0, none⟩ = some (.bool a1_0) ∧ w'.cell? ⟨gb6852, 1, none⟩ = some (.int .i64 a1_1) ∧ w'.cell? ⟨gb6852, 2, none⟩ = some (.int .i64 a1_2)) (ds := []) #[false, false, false, false, false, false, false, false, false, false, false, false, false, false, false, false, false, false, false, false] (by kernel_rfl) rfl rfl ⟨bc BK6857 0, bc BK6857 1, bc BK6857 2, bc BK6851 0, bc BK6851 1, bc BK6851 2, bc BK6852 0, bc BK6852 1, bc BK6852 2⟩ (fun hHeld => ?_); refine with_tabW flyballlaw17_IntsWidens.tab7 flyballlaw17_IntsWidens.bits7 (fun HT_ HW_ => ?_)
          generalize w27.drew = w28 at BK6851 BK6852 BK6857 HB hHeld ⊢
          refine pur 0 (some 20) #[true, false, false, false, false, false, false, false, false, false, false, false, false, false, false, false, false, false, false, false] (any_of HT_.out (by kernel_rfl)) ?_
          refine pur 1 (some 21) #[true, true, false, false, false, false, false, false, false, false, false, false, false, false, false, false, false, false, false, false] (any_of HT_.out (by kernel_rfl)) ?_
          refine pur 5 (some 25) #[true, true, false, false, false, true, false, false, false, false, false, false, false, false, false, false, false, false, false, false] (any_of HT_.out (by kernel_rfl)) ?_
          refine tak 2 (some 22) #[true, true, true, false, false, true, false, false, false, false, false, false, false, false, false, false, false, false, false, false] (take_ofW HT_.out HW_.out (by kernel_rfl)) hHeld ?_
          refine tak 3 (some 23) #[true, true, true, true, false, true, false, false, false, false, false, false, false, false, false, false, false, false, false, false] (take_ofW HT_.out HW_.out (by kernel_rfl)) hHeld ?_
          refine tak 4 (some 24) #[true, true, true, true, true, true, false, false, false, false, false, false, false, false, false, false, false, false, false, false] (take_ofW HT_.out HW_.out (by kernel_rfl)) hHeld ?_
          refine one_ (i := 6) (N := some 26) #[true, true, true, true, true, true, true, false, false, false, false, false, false, false, false, false, false, false, false, false] rfl rfl (one_of HT_.out (by kernel_rfl)) (by decide) (fun K hK => ?_)
          refine goes_ Try.func58 (by kernel_rfl) rfl #[.agg #[.bool a0_0, .int .i64 a0_1, .int .i64 a0_2], .agg #[.bool a1_0, .int .i64 a1_1, .int .i64 a1_2], .slice A2 l2.length c2] (by rfl) rfl rfl pa ?_
          with_reducible refine (flyballref17_Widen.calls k a0_0 a0_1 a0_2 a1_0 a1_1 a1_2 (fun k_ => k_ < w.heap.size) _ _ l2 t6858 t6859 t6860 _ ?side1 A11.out).mono ?_
          (case side1 => exact Kd.V_mk HC2.out (Kd.F_below (Kd.C_F (Kd.heap_int .i64) HR2.out) (pl HB)))
          rintro e w29 ⟨rfl, hb⟩
          refine ⟨_, rfl, ?_⟩
          replace BK6851 := kb BK6851 hb
          replace BK6852 := kb BK6852 hb
          replace BK6857 := kb BK6857 hb
          replace HB := kh HB hb
          (try clear hb)
          refine hK.out _ _ ⟨bc BK6857 0, bc BK6857 1, bc BK6857 2, bc BK6851 0, bc BK6851 1, bc BK6851 2, bc BK6852 0, bc BK6852 1, bc BK6852 2⟩ (fun hHeld => ?_)
          clear hK K
          refine nrm (some 26) ?_
          refine pur 7 (some 27) #[true, true, true, true, true, true, true, true, false, false, false, false, false, false, false, false, false, false, false, false] (any_of HT_.out (by kernel_rfl)) ?_
          refine pur 8 (some 28) #[true, true, true, true, true, true, true, true, true, false, false, false, false, false, false, false, false, false, false, false] (any_of HT_.out (by kernel_rfl)) ?_
          refine pur 9 (some 29) #[true, true, true, true, true, true, true, true, true, true, false, false, false, false, false, false, false, false, false, false] (any_of HT_.out (by kernel_rfl)) ?_
          refine tak 10 (some 30) #[true, true, true, true, true, true, true, true, true, true, true, false, false, false, false, false, false, false, false, false] (take_ofW HT_.out HW_.out (by kernel_rfl)) hHeld ?_
          refine tak 11 (some 31) #[true, true, true, true, true, true, true, true, true, true, true, true, false, false, false, false, false, false, false, false] (take_ofW HT_.out HW_.out (by kernel_rfl)) hHeld ?_
          refine one_ (i := 12) (N := some 32) #[true, true, true, true, true, true, true, true, true, true, true, true, true, false, false, false, false, false, false, false] rfl rfl (one_of HT_.out (by kernel_rfl)) (by decide) (fun K hK => ?_)
          refine gc Try.func41 #[.agg #[.bool a0_0, .int .i64 a0_1, .int .i64 a0_2], .agg #[.bool t6854, .int .i64 t6855, .int .i64 t6856]] (ints_Inside.calls a0_0 a0_1 a0_2 t6854 t6855 t6856 true _ A13.out) ?_
          intro w30 hb
          replace BK6851 := kb BK6851 hb
          replace BK6852 := kb BK6852 hb
          replace BK6857 := kb BK6857 hb
          replace HB := kh HB hb
          (try clear hb)
          refine hK.out _ _ ⟨bc BK6857 0, bc BK6857 1, bc BK6857 2, bc BK6851 0, bc BK6851 1, bc BK6851 2, bc BK6852 0, bc BK6852 1, bc BK6852 2⟩ (fun hHeld => ?_)
          clear hK K
          refine nrm (some 32) ?_
          refine pur 13 (some 33) #[true, true, true, true, true, true, true, true, true, true, true, true, true, true, false, false, false, false, false, false] (any_of HT_.out (by kernel_rfl)) ?_
          refine pur 14 (some 34) #[true, true, true, true, true, true, true, true, true, true, true, true, true, true, true, false, false, false, false, false] (any_of HT_.out (by kernel_rfl)) ?_
          refine tak 15 (some 35) #[true, true, true, true, true, true, true, true, true, true, true, true, true, true, true, true, false, false, false, false] (take_ofW HT_.out HW_.out (by kernel_rfl)) hHeld ?_
          refine tak 16 (some 36) #[true, true, true, true, true, true, true, true, true, true, true, true, true, true, true, true, true, false, false, false] (take_ofW HT_.out HW_.out (by kernel_rfl)) hHeld ?_
          refine one_ (i := 17) (N := some 37) #[true, true, true, true, true, true, true, true, true, true, true, true, true, true, true, true, true, true, false, false] rfl rfl (one_of HT_.out (by kernel_rfl)) (by decide) (fun K hK => ?_)
          refine gc Try.func41 #[.agg #[.bool a1_0, .int .i64 a1_1, .int .i64 a1_2], .agg #[.bool t6854, .int .i64 t6855, .int .i64 t6856]] (ints_Inside.calls a1_0 a1_1 a1_2 t6854 t6855 t6856 t6862 _ A15.out) ?_
          intro w31 hb
          replace BK6851 := kb BK6851 hb
          replace BK6852 := kb BK6852 hb
          replace BK6857 := kb BK6857 hb
          replace HB := kh HB hb
          (try clear hb)
          refine hK.out _ _ ⟨bc BK6857 0, bc BK6857 1, bc BK6857 2, bc BK6851 0, bc BK6851 1, bc BK6851 2, bc BK6852 0, bc BK6852 1, bc BK6852 2⟩ (fun hHeld => ?_)
          clear hK K
          refine nrm (some 37) ?_
          refine pur 18 (some 38) #[true, true, true, true, true, true, true, true, true, true, true, true, true, true, true, true, true, true, true, false] (any_of HT_.out (by kernel_rfl)) ?_
          refine pur 19 (some 6) #[true, true, true, true, true, true, true, true, true, true, true, true, true, true, true, true, true, true, true, true] (any_of HT_.out (by kernel_rfl)) ?_
          refine done_ (done_of HT_.out (by kernel_rfl)) ?_
          try go_wp2
          go_ret
          exact ⟨pe, pl HB⟩
        · replace c14 := Bool.eq_false_iff.mpr c14
          subst c14
          rw [if_neg (show ¬ (false = true) by decide)] at H
          exact absurd H (by simp)
      · rw [if_neg c12] at H
        exact absurd H (by simp)
  · replace c5 := Bool.eq_false_iff.mpr c5
    subst c5
    rw [if_neg (show ¬ (false = true) by decide)] at H
    obtain rfl := Option.some.inj H
    go_enter Try.func12, Try.ntmps12
    go_wp2_with (first | ((with_reducible refine gate_dst (N := 3) rfl ?_); refine kx 3 #[.bool a0_0, .int .i64 a0_1, .int .i64 a0_2] 23 ?_; intro gb6851 hg w32 hbox hb; have BK6851 := Aside0.mk (hbox); have GW6851 := kg HB hg; have GE6851 := kg HB hg; replace HB := kh HB hb; clear hb hbox hg) | ((with_reducible refine gate_dst (N := 4) rfl ?_); refine kx 4 #[.bool a1_0, .int .i64 a1_1, .int .i64 a1_2] 23 ?_; intro gb6852 hg w33 hbox hb; have BK6852 := Aside0.mk (hbox); have GW6852 := kg HB hg; have GE6852 := kg HB hg; have NB6851_6852 := kn BK6851 hg; have NB6852_6851 := km BK6851 hg; replace BK6851 := kb BK6851 hb; replace HB := kh HB hb; clear hb hbox hg) | ((with_reducible refine gate_callee (f := 38) rfl ?_); refine kc (some 9) Try.func38 #[] (flyballlaw17_works.calls k  false _ A4.out) ?_; intro w34 hb; replace BK6851 := kb BK6851 hb; replace BK6852 := kb BK6852 hb; replace HB := kh HB hb; (try clear hb)))
    go_ret
    exact ⟨pe, pl HB⟩

end Go.Proofs.Ytinmgnlofininaa.PAll
