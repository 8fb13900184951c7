/- Functions of the print, turned to this claim. -/
import Derived.Test.YtinmgnlofininaaZKW
import Derived.Test.YtinmgnlofininaaZKx0
import Derived.Test.YtinmgnlofininaaZKx4
import Derived.Test.YtinmgnlofininaaZKx22
import Derived.Test.YtinmgnlofininaaZKx25
section
namespace Go.Proofs.Ytinmgnlofininaa.PAll
open Go.RowKit Go.Proofs.YtinmgnlofininaaW.PrintWords Go.Proofs.YtinmgnlofininaaW.PrintLast Go.Proofs.YtinmgnlofininaaW.PrintMore
attribute [local go_sem] max2_int min2_int max_two min_two max_three min_three max_four min_four   -- for this text's walks alone
set_option linter.unusedVariables false
set_option linter.unusedSimpArgs false
/-! ### clock_Join_1: function 66 -/
def clock_Join_1.f (k : Nat) (a0_0 : Bool) (a0_1 : Int) (a0_2 : Int) (a1_0 : Bool) (a1_1 : Int) (a1_2 : Int) : Option (Bool × Int × Int) := (ints_Join.f k (([(⟨a0_0, a0_1, a0_2⟩ : S23), (⟨a1_0, a1_1, a1_2⟩ : S23)] : List (S23)))).bind fun bt8357 => (some (bt8357.1, bt8357.2.1, bt8357.2.2))
theorem clock_Join_1.mono : ∀ a0 a1 a2 a3 a4 a5 k, LeO (clock_Join_1.f k a0 a1 a2 a3 a4 a5) (clock_Join_1.f (k + 1) a0 a1 a2 a3 a4 a5) := by
  intro a0 a1 a2 a3 a4 a5 k
  unfold clock_Join_1.f
  repeat' first
      | (with_reducible exact ints_Join.mono _ _)
      | (with_reducible exact LeO.refl _)
      | (with_reducible exact LeO.none _)
      | (with_reducible refine LeO.ite ?_ ?_)
      | (with_reducible refine LeO.bind ?_ (fun _ => ?_))
      | exact ints_Join.mono _ _
      | exact LeO.none _
      | refine LeO.ite ?_ ?_
      | refine LeO.bind ?_ (fun _ => ?_)
set_option maxHeartbeats 8000000 in
set_option maxRecDepth 100000 in
theorem clock_Join_1.calls (k : Nat) (a0_0 : Bool) (a0_1 : Int) (a0_2 : Int) (a1_0 : Bool) (a1_1 : Int) (a1_2 : Int) (r1 : Bool) (r2 : Int) (r3 : Int) (w : World) (h : clock_Join_1.f k a0_0 a0_1 a0_2 a1_0 a1_1 a1_2 = some (r1, r2, r3)) :
    Calls Try.prog 66 #[.agg #[.bool a0_0, .int .i64 a0_1, .int .i64 a0_2], .agg #[.bool a1_0, .int .i64 a1_1, .int .i64 a1_2]] w fun e w' => e = .returned (.agg #[.bool r1, .int .i64 r2, .int .i64 r3]) ∧ Below w.heap.size w w' := by
  have hu23 := Try.underlying23
  have HB := Aside0.mk (Below.refl w.heap.size w)
  have H := h
  clear h
  unfold clock_Join_1.f at H
  obtain ⟨y8354, hy8354⟩ : ∃ y_ : List (S23), y_ = (([(⟨a0_0, a0_1, a0_2⟩ : S23), (⟨a1_0, a1_1, a1_2⟩ : S23)] : List (S23))) := ⟨_, rfl⟩
  replace H : ((ints_Join.f k y8354).bind fun bt8357 => (some (bt8357.1, bt8357.2.1, bt8357.2.2))) = some (r1, r2, r3) := by first | (rw [hy8354]; with_reducible exact H) | (have H2_ := (Option.bind_some _ _).symm.trans H; rw [hy8354]; with_reducible exact H2_) | (have H2_ := (Option.bind_some _ _).symm.trans H; with_reducible exact H2_) | with_reducible exact H | (rw [hy8354]; exact H) | exact H
  have Ny8354 := Aside0.mk hy8354
  clear hy8354
  obtain ⟨⟨t8357, t8358, t8359⟩, A30, H⟩ := Option.bind_eq_some_iff.mp H
  have A3 := Aside0.mk A30
  clear A30
  (try dsimp only at H)
  simp only [Option.some.injEq, Prod.mk.injEq] at H
  obtain ⟨rfl, rfl, rfl⟩ := H
  go_enter Try.func66, Try.ntmps66
  go_wp2_with (first | ((with_reducible refine gate_dst (N := 2) rfl ?_); refine kx 2 #[.bool a0_0, .int .i64 a0_1, .int .i64 a0_2] 23 ?_; intro gb8351 hg w4 hbox hb; have BK8351 := Aside0.mk (hbox); have GW8351 := kg HB hg; have GE8351 := kg HB hg; replace HB := kh HB hb; clear hb hbox hg) | ((with_reducible refine gate_dst (N := 3) rfl ?_); refine kx 3 #[.bool a1_0, .int .i64 a1_1, .int .i64 a1_2] 23 ?_; intro gb8352 hg w5 hbox hb; have BK8352 := Aside0.mk (hbox); have GW8352 := kg HB hg; have GE8352 := kg HB hg; have NB8351_8352 := kn BK8351 hg; have NB8352_8351 := km BK8351 hg; replace BK8351 := kb BK8351 hb; replace HB := kh HB hb; clear hb hbox hg) | ((with_reducible refine gate_dst (N := 4) rfl ?_); refine kx 4 #[.bool false, .int .i64 0, .int .i64 0] 23 ?_; intro gb8353 hg w6 hbox hb; have BK8353 := Aside0.mk (hbox); have GW8353 := kg HB hg; have GE8353 := kg HB hg; have NB8351_8353 := kn BK8351 hg; have NB8353_8351 := km BK8351 hg; have NB8352_8353 := kn BK8352 hg; have NB8353_8352 := km BK8352 hg; replace BK8351 := kb BK8351 hb; replace BK8352 := kb BK8352 hb; replace HB := kh HB hb; clear hb hbox hg; have hnb7 := NB8351_8352.out; have hnc7 := NB8352_8351.out; have hnb8 := NB8351_8353.out; have hnc8 := NB8353_8351.out; have ⟨hcz9_0, hcz9_1, hcz9_2, hfz9_0, hfz9_1, hfz9_2⟩ := kz3f BK8351; have hnb10 := NB8352_8353.out; have hnc10 := NB8353_8352.out; have ⟨hcz11_0, hcz11_1, hcz11_2, hfz11_0, hfz11_1, hfz11_2⟩ := kz3f BK8352) | ((with_reducible refine gate_dst (N := 7) rfl ?_); refine Kd.R_lit k23 _ 23 ?hg (N := 7) ?hd (xs := ([(⟨a0_0, a0_1, a0_2⟩ : S23), (⟨a1_0, a1_1, a1_2⟩ : S23)] : List (S23))) (inner := [.bool a0_0, .int .i64 a0_1, .int .i64 a0_2, .bool a1_0, .int .i64 a1_1, .int .i64 a1_2]) (ok := fun _ => True) (okp := fun _ => True) ?hr ?hp (fun _ hk => hk) trivial (Below.refl _ _) (Nat.le_refl _) (by simp) ?_; (case hd => rfl); (case hg => rfl); (case hr => first | (go_simp; done) | (go_simp; rfl)); (case hp => exact (Reps.c3 (show Kd.M k23 _ _ _ (⟨a0_0, a0_1, a0_2⟩ : S23) [.bool a0_0, .int .i64 a0_1, .int .i64 a0_2] from (k23_mkM _ _ _ (⟨a0_0, a0_1, a0_2⟩ : S23) )) (Reps.c3 (show Kd.M k23 _ _ _ (⟨a1_0, a1_1, a1_2⟩ : S23) [.bool a1_0, .int .i64 a1_1, .int .i64 a1_2] from (k23_mkM _ _ _ (⟨a1_0, a1_1, a1_2⟩ : S23) )) (Reps.none _ _)))); intro v8355 w12 ho13 hb hg_ hnew_; clear hg_ hnew_; (first | rw [← Ny8354.out] at ho13 | (simp only [Int.reduceToNat] at ho13; rw [← Ny8354.out] at ho13)); have HO8356 := Aside0.mk (Kd.R_lower (Kd.R_newB (Kd.R_newB (Kd.R_newB ho13 (g := gb8351) (o := .cells #[.bool a0_0, .int .i64 a0_1, .int .i64 a0_2] 23 (0, 0)) (pk BK8351)) (g := gb8352) (o := .cells #[.bool a1_0, .int .i64 a1_1, .int .i64 a1_2] 23 (0, 0)) (pk BK8352)) (g := gb8353) (o := .cells #[.bool false, .int .i64 0, .int .i64 0] 23 (0, 0)) (pk BK8353)) (below_size (pl HB))); replace BK8351 := kb BK8351 hb; replace BK8352 := kb BK8352 hb; replace BK8353 := kb BK8353 hb; replace HB := kh HB hb; clear hb ho13; obtain ⟨Ao14, co14, eo14⟩ := Kd.R_slice HO8356.out; subst eo14) | ((with_reducible refine gate_callee (f := 43) rfl ?_); refine goesL_ (some 8) rfl rfl Try.func43 (by kernel_rfl) rfl #[.slice Ao14 y8354.length co14] rfl pa ?_; (with_reducible refine (ints_Join.calls k _ _ y8354 t8357 t8358 t8359 _ ?side1 ?side2 A3.out).mono ?_); (case side1 => repeat (first | exact (Kd.R_reads' HO8356.out).2.2 | (with_reducible refine Kd.C_alloc ?_ _) | (with_reducible refine Kd.C_drewN ?_ _) | (with_reducible refine Kd.C_drew ?_))); (case side2 => exact (Kd.R_reads' HO8356.out).2.1); rintro e w15 ⟨rfl, hb⟩; refine ⟨_, rfl, ?_⟩; have n0_ := Aside0.mk (Kd.R_below (by (with_reducible repeat (first | apply Kd.R_alloc | apply Kd.R_drewN | apply Kd.R_drew)); exact HO8356.out) hb); have n1_ := kb BK8351 hb; have n2_ := kb BK8352 hb; have n3_ := kb BK8353 hb; have n4_ := kh HB hb; clear HO8356; clear BK8351; clear BK8352; clear BK8353; clear HB; have HO8356 := n0_; have BK8351 := n1_; have BK8352 := n2_; have BK8353 := n3_; have HB := n4_; clear n0_ n1_ n2_ n3_ n4_; (try clear hb); (try clear hb2); (try clear hk); (try clear hi); have ⟨hcz16_0, hcz16_1, hcz16_2, hfz16_0, hfz16_1, hfz16_2⟩ := kz3f BK8353))
  refine bodyPost_ret (results_cell_row rfl _ _ gb8353 23 #[.bool t8357, .int .i64 t8358, .int .i64 t8359] (0, 0) _ rfl (pK BK8353) Try.underlying23 rfl (by kernel_rfl)) rfl ?_
  exact ⟨pe, pl HB⟩
/-! ### clock_bothJoin: function 101 -/
def clock_bothJoin.f (k : Nat) (a0_0 : Bool) (a0_1 : Int) (a0_2 : Int) (a0_3 : Bool) (a0_4 : Int) (a0_5 : Int) (a1_0 : Bool) (a1_1 : Int) (a1_2 : Int) (a1_3 : Bool) (a1_4 : Int) (a1_5 : Int) : Option (Bool × Int × Int × Bool × Int × Int) := (clock_norm.f k a0_0 a0_1 a0_2 a0_3 a0_4 a0_5).bind fun bt8504 => ((clock_norm.f k a1_0 a1_1 a1_2 a1_3 a1_4 a1_5).bind fun bt8510 => ((clock_Join_1.f k bt8504.1 bt8504.2.1 bt8504.2.2.1 bt8510.1 bt8510.2.1 bt8510.2.2.1).bind fun bt8516 => ((clock_Join_1.f k bt8504.2.2.2.1 bt8504.2.2.2.2.1 bt8504.2.2.2.2.2 bt8510.2.2.2.1 bt8510.2.2.2.2.1 bt8510.2.2.2.2.2).bind fun bt8519 => ((clock_norm.f k bt8516.1 bt8516.2.1 bt8516.2.2 bt8519.1 bt8519.2.1 bt8519.2.2).bind fun bt8522 => (some (bt8522.1, bt8522.2.1, bt8522.2.2.1, bt8522.2.2.2.1, bt8522.2.2.2.2.1, bt8522.2.2.2.2.2))))))
theorem clock_bothJoin.mono : ∀ a0 a1 a2 a3 a4 a5 a6 a7 a8 a9 a10 a11 k, LeO (clock_bothJoin.f k a0 a1 a2 a3 a4 a5 a6 a7 a8 a9 a10 a11) (clock_bothJoin.f (k + 1) a0 a1 a2 a3 a4 a5 a6 a7 a8 a9 a10 a11) := by
  intro a0 a1 a2 a3 a4 a5 a6 a7 a8 a9 a10 a11 k
  unfold clock_bothJoin.f
  repeat' first
      | (with_reducible exact clock_Join_1.mono _ _ _ _ _ _ _)
      | (with_reducible exact clock_norm.mono _ _ _ _ _ _ _)
      | (with_reducible exact LeO.refl _)
      | (with_reducible exact LeO.none _)
      | (with_reducible refine LeO.ite ?_ ?_)
      | (with_reducible refine LeO.bind ?_ (fun _ => ?_))
      | exact clock_Join_1.mono _ _ _ _ _ _ _
      | exact clock_norm.mono _ _ _ _ _ _ _
      | exact LeO.none _
      | refine LeO.ite ?_ ?_
      | refine LeO.bind ?_ (fun _ => ?_)
def clock_bothJoin.T2 : Bool × List (List Nat × List Nat) := (true, [([], []), ([], []), ([1], [1]), ([], []), ([3], [3]), ([0, 2, 4], [0, 2, 4]), ([], []), ([], []), ([7], [7]), ([], []), ([9], [9]), ([6, 8, 10, 5], [6, 8, 10]), ([5, 11], [5, 11]), ([12, 11], [12]), ([13, 13, 0, 1, 2, 3, 4, 5, 6, 7, 8, 9, 10, 11, 12, 13], [13])])
def clock_bothJoin.B2 : List Nat := [0, 0, 2, 0, 8, 31, 0, 0, 128, 0, 512, 2047, 4095, 8191, 16383]
theorem clock_bothJoin.tab2 : rtab .any (opsOf Try.f65 2) = clock_bothJoin.T2 := by kernel_rfl
theorem clock_bothJoin.bits2 : waitsOk clock_bothJoin.T2.2 clock_bothJoin.B2 = true := by kernel_rfl
set_option maxHeartbeats 8000000 in
set_option maxRecDepth 100000 in
theorem clock_bothJoin.calls (k : Nat) (a0_0 : Bool) (a0_1 : Int) (a0_2 : Int) (a0_3 : Bool) (a0_4 : Int) (a0_5 : Int) (a1_0 : Bool) (a1_1 : Int) (a1_2 : Int) (a1_3 : Bool) (a1_4 : Int) (a1_5 : Int) (r1 : Bool) (r2 : Int) (r3 : Int) (r4 : Bool) (r5 : Int) (r6 : Int) (w : World) (h : clock_bothJoin.f k a0_0 a0_1 a0_2 a0_3 a0_4 a0_5 a1_0 a1_1 a1_2 a1_3 a1_4 a1_5 = some (r1, r2, r3, r4, r5, r6)) :
    Calls Try.prog 65 #[.agg #[.bool a0_0, .int .i64 a0_1, .int .i64 a0_2, .bool a0_3, .int .i64 a0_4, .int .i64 a0_5], .agg #[.bool a1_0, .int .i64 a1_1, .int .i64 a1_2, .bool a1_3, .int .i64 a1_4, .int .i64 a1_5], .func (.func 66) #[] #[]] w fun e w' => e = .returned (.agg #[.bool r1, .int .i64 r2, .int .i64 r3, .bool r4, .int .i64 r5, .int .i64 r6]) ∧ Below w.heap.size w w' := by
  have hu25 := Try.underlying25
  have hu23 := Try.underlying23
  have HB := Aside0.mk (Below.refl w.heap.size w)
  have H := h
  clear h
  unfold clock_bothJoin.f at H
  obtain ⟨⟨t8504, t8505, t8506, t8507, t8508, t8509⟩, A30, H⟩ := Option.bind_eq_some_iff.mp H
  have A3 := Aside0.mk A30
  clear A30
  (try dsimp only at H)
  obtain ⟨⟨t8510, t8511, t8512, t8513, t8514, t8515⟩, A40, H⟩ := Option.bind_eq_some_iff.mp H
  have A4 := Aside0.mk A40
  clear A40
  (try dsimp only at H)
  obtain ⟨⟨t8516, t8517, t8518⟩, A50, H⟩ := Option.bind_eq_some_iff.mp H
  have A5 := Aside0.mk A50
  clear A50
  (try dsimp only at H)
  obtain ⟨⟨t8519, t8520, t8521⟩, A60, H⟩ := Option.bind_eq_some_iff.mp H
  have A6 := Aside0.mk A60
  clear A60
  (try dsimp only at H)
  obtain ⟨⟨t8522, t8523, t8524, t8525, t8526, t8527⟩, A70, H⟩ := Option.bind_eq_some_iff.mp H
  have A7 := Aside0.mk A70
  clear A70
  (try dsimp only at H)
  simp only [Option.some.injEq, Prod.mk.injEq] at H
  obtain ⟨rfl, rfl, rfl, rfl, rfl, rfl⟩ := H
  go_enter Try.func65, Try.ntmps65
  try go_wp2_with (first | ((with_reducible refine gate_dst (N := 3) rfl ?_); refine kx 3 #[.bool a0_0, .int .i64 a0_1, .int .i64 a0_2, .bool a0_3, .int .i64 a0_4, .int .i64 a0_5] 25 ?_; intro gb8501 hg w8 hbox hb; have BK8501 := Aside0.mk (hbox); have GW8501 := kg HB hg; have GE8501 := kg HB hg; replace HB := kh HB hb; clear hb hbox hg) | ((with_reducible refine gate_dst (N := 4) rfl ?_); refine kx 4 #[.bool a1_0, .int .i64 a1_1, .int .i64 a1_2, .bool a1_3, .int .i64 a1_4, .int .i64 a1_5] 25 ?_; intro gb8502 hg w9 hbox hb; have BK8502 := Aside0.mk (hbox); have GW8502 := kg HB hg; have GE8502 := kg HB hg; have NB8501_8502 := kn BK8501 hg; have NB8502_8501 := km BK8501 hg; replace BK8501 := kb BK8501 hb; replace HB := kh HB hb; clear hb hbox hg) | ((with_reducible refine gate_dst (N := 6) rfl ?_); refine kx 6 #[.bool false, .int .i64 0, .int .i64 0, .bool false, .int .i64 0, .int .i64 0] 25 ?_; intro gb8503 hg w10 hbox hb; have BK8503 := Aside0.mk (hbox); have GW8503 := kg HB hg; have GE8503 := kg HB hg; have NB8501_8503 := kn BK8501 hg; have NB8503_8501 := km BK8501 hg; have NB8502_8503 := kn BK8502 hg; have NB8503_8502 := km BK8502 hg; replace BK8501 := kb BK8501 hb; replace BK8502 := kb BK8502 hb; replace HB := kh HB hb; clear hb hbox hg))
  replace BK8501 := Aside0.mk (blk_drew BK8501.out)
  replace BK8502 := Aside0.mk (blk_drew BK8502.out)
  replace BK8503 := Aside0.mk (blk_drew BK8503.out)
  replace HB := Aside0.mk (below_drew1 HB.out)
  refine start_ (n := 6) (S := fun w' => w'.cell? ⟨gb8501, 0, none⟩ = some (.bool a0_0) ∧ w'.cell? ⟨gb8501, 1, none⟩ = some (.int .i64 a0_1) ∧ w'.cell? ⟨gb8501, 2, none⟩ = some (.int .i64 a0_2) ∧ w'.cell? ⟨gb8501, 3, none⟩ = some (.bool a0_3) ∧ w'.cell? ⟨gb8501, 4, none⟩ = some (.int .i64 a0_4) ∧ w'.cell? ⟨gb8501, 5, none⟩ = some (.int .i64 a0_5) ∧ w'.cell? ⟨gb8502, 0, none⟩ = some (.bool a1_0) ∧ w'.cell? ⟨gb8502, 1, none⟩ = some (.int .i64 a1_1) ∧ w'.cell? ⟨gb8502, 2, none⟩ = some (.int .i64 a1_2) ∧ w'.cell? ⟨gb8502, 3, none⟩ = some (.bool a1_3) ∧ w'.cell? ⟨gb8502, 4, none⟩ = some (.int .i64 a1_4) ∧ w'.cell? ⟨gb8502, 5, none⟩ = some (.int .i64 a1_5)) (ds := [4, 5]) #[false, false, false, false, false, false] (by kernel_rfl) rfl rfl ⟨bc BK8501 0, bc BK8501 1, bc BK8501 2, bc BK8501 3, bc BK8501 4, bc BK8501 5, bc BK8502 0, bc BK8502 1, bc BK8502 2, bc BK8502 3, bc BK8502 4, bc BK8502 5⟩ (fun hHeld => ?_)
  generalize w10.drew = w11 at BK8501 BK8502 BK8503 HB hHeld ⊢
  refine tak 0 (some 7) #[true, false, false, false, false, false] (by kernel_rfl) hHeld ?_
  refine tak 2 (some 9) #[true, false, true, false, false, false] (by kernel_rfl) hHeld ?_
  refine one_ (i := 1) (N := some 8) #[true, true, true, false, false, false] rfl rfl (by kernel_rfl) (by decide) (fun K hK => ?_)
  refine gc Try.func61 #[.agg #[.bool a0_0, .int .i64 a0_1, .int .i64 a0_2, .bool a0_3, .int .i64 a0_4, .int .i64 a0_5]] (clock_norm.calls k a0_0 a0_1 a0_2 a0_3 a0_4 a0_5 t8504 t8505 t8506 t8507 t8508 t8509 _ A3.out) ?_
  intro w12 hb
  replace BK8501 := kb BK8501 hb
  replace BK8502 := kb BK8502 hb
  replace BK8503 := kb BK8503 hb
  replace HB := kh HB hb
  (try clear hb)
  refine hK.out _ _ ⟨bc BK8501 0, bc BK8501 1, bc BK8501 2, bc BK8501 3, bc BK8501 4, bc BK8501 5, bc BK8502 0, bc BK8502 1, bc BK8502 2, bc BK8502 3, bc BK8502 4, bc BK8502 5⟩ (fun hHeld => ?_)
  clear hK K
  refine nrm (some 8) ?_
  refine one_ (i := 3) (N := some 10) #[true, true, true, true, false, false] rfl rfl (by kernel_rfl) (by decide) (fun K hK => ?_)
  refine gc Try.func61 #[.agg #[.bool a1_0, .int .i64 a1_1, .int .i64 a1_2, .bool a1_3, .int .i64 a1_4, .int .i64 a1_5]] (clock_norm.calls k a1_0 a1_1 a1_2 a1_3 a1_4 a1_5 t8510 t8511 t8512 t8513 t8514 t8515 _ A4.out) ?_
  intro w13 hb
  replace BK8501 := kb BK8501 hb
  replace BK8502 := kb BK8502 hb
  replace BK8503 := kb BK8503 hb
  replace HB := kh HB hb
  (try clear hb)
  refine hK.out _ _ ⟨bc BK8501 0, bc BK8501 1, bc BK8501 2, bc BK8501 3, bc BK8501 4, bc BK8501 5, bc BK8502 0, bc BK8502 1, bc BK8502 2, bc BK8502 3, bc BK8502 4, bc BK8502 5⟩ (fun hHeld => ?_)
  clear hK K
  refine nrm (some 10) ?_
  refine last_ (i := 4) (N := none) #[true, true, true, true, true, false] rfl rfl (by kernel_rfl) (by decide) (fun K hK => ?_)
  have hs14 : w13.cell? ⟨gb8501, 0, none⟩ = some (.bool a0_0) := bc BK8501 0
  have hfs14 := blk_frozen BK8501.out 0
  have hns14_1 := NB8502_8501.out
  have hns14_2 := NB8503_8501.out
  have hms14_1 := NB8501_8502.out
  have hms14_2 := NB8501_8503.out
  have hs15 : w13.cell? ⟨gb8501, 1, none⟩ = some (.int .i64 a0_1) := bc BK8501 1
  have hfs15 := blk_frozen BK8501.out 1
  have hs16 : w13.cell? ⟨gb8501, 2, none⟩ = some (.int .i64 a0_2) := bc BK8501 2
  have hfs16 := blk_frozen BK8501.out 2
  have hs17 : w13.cell? ⟨gb8501, 3, none⟩ = some (.bool a0_3) := bc BK8501 3
  have hfs17 := blk_frozen BK8501.out 3
  have hs18 : w13.cell? ⟨gb8501, 4, none⟩ = some (.int .i64 a0_4) := bc BK8501 4
  have hfs18 := blk_frozen BK8501.out 4
  have hs19 : w13.cell? ⟨gb8501, 5, none⟩ = some (.int .i64 a0_5) := bc BK8501 5
  have hfs19 := blk_frozen BK8501.out 5
  refine skip_ (w1 := ?_) (by rfl) rfl ?_ ?_
  rotate_left
  · go_simp
    rfl
  refine hK.out _ _ ?_
  clear hK K
  refine last_ (i := 5) (N := none) #[true, true, true, true, true, true] rfl rfl (by kernel_rfl) (by decide) (fun K hK => ?_)
  have hs20 : w13.cell? ⟨gb8502, 0, none⟩ = some (.bool a1_0) := bc BK8502 0
  have hfs20 := blk_frozen BK8502.out 0
  have hns20_0 := NB8501_8502.out
  have hns20_2 := NB8503_8502.out
  have hms20_0 := NB8502_8501.out
  have hms20_2 := NB8502_8503.out
  have hs21 : w13.cell? ⟨gb8502, 1, none⟩ = some (.int .i64 a1_1) := bc BK8502 1
  have hfs21 := blk_frozen BK8502.out 1
  have hs22 : w13.cell? ⟨gb8502, 2, none⟩ = some (.int .i64 a1_2) := bc BK8502 2
  have hfs22 := blk_frozen BK8502.out 2
  have hs23 : w13.cell? ⟨gb8502, 3, none⟩ = some (.bool a1_3) := bc BK8502 3
  have hfs23 := blk_frozen BK8502.out 3
  have hs24 : w13.cell? ⟨gb8502, 4, none⟩ = some (.int .i64 a1_4) := bc BK8502 4
  have hfs24 := blk_frozen BK8502.out 4
  have hs25 : w13.cell? ⟨gb8502, 5, none⟩ = some (.int .i64 a1_5) := bc BK8502 5
  have hfs25 := blk_frozen BK8502.out 5
  refine skip_ (w1 := ?_) (by rfl) rfl ?_ ?_
  rotate_left
  · go_simp
    rfl
  refine hK.out _ _ ?_
  clear hK K
  refine done_ (by kernel_rfl) ?_
  try go_wp2
  generalize hW_ : ((((((((((((w13.setCell ⟨gb8501, 0, none⟩ (.bool t8504)).setCell ⟨gb8501, 1, none⟩ (.int .i64 t8505)).setCell ⟨gb8501, 2, none⟩ (.int .i64 t8506)).setCell ⟨gb8501, 3, none⟩ (.bool t8507)).setCell ⟨gb8501, 4, none⟩ (.int .i64 t8508)).setCell ⟨gb8501, 5, none⟩ (.int .i64 t8509)).setCell ⟨gb8502, 0, none⟩ (.bool t8510)).setCell ⟨gb8502, 1, none⟩ (.int .i64 t8511)).setCell ⟨gb8502, 2, none⟩ (.int .i64 t8512)).setCell ⟨gb8502, 3, none⟩ (.bool t8513)).setCell ⟨gb8502, 4, none⟩ (.int .i64 t8514)).setCell ⟨gb8502, 5, none⟩ (.int .i64 t8515)) = w26
  replace BK8501 := kr (o' := .cells #[.bool t8504, .int .i64 t8505, .int .i64 t8506, .bool t8507, .int .i64 t8508, .int .i64 t8509] 25 (0, 0)) BK8501 hW_
  replace BK8502 := kr (o' := .cells #[.bool t8510, .int .i64 t8511, .int .i64 t8512, .bool t8513, .int .i64 t8514, .int .i64 t8515] 25 (0, 0)) BK8502 hW_
  replace BK8503 := kr BK8503 hW_
  replace HB := kq HB hW_
  clear hW_
  replace BK8501 := Aside0.mk (blk_drew BK8501.out)
  replace BK8502 := Aside0.mk (blk_drew BK8502.out)
  replace BK8503 := Aside0.mk (blk_drew BK8503.out)
  replace HB := Aside0.mk (below_drew1 HB.out)
  refine start_ (n := 15) (S := fun w' => w'.cell? ⟨gb8501, 0, none⟩ = some (.bool t8504) ∧ w'.cell? ⟨gb8501, 1, none⟩ = some (.int .i64 t8505) ∧ w'.cell? ⟨gb8501, 2, none⟩ = some (.int .i64 t8506) ∧ w'.cell? ⟨gb8501, 3, none⟩ = some (.bool t8507) ∧ w'.cell? ⟨gb8501, 4, none⟩ = some (.int .i64 t8508) ∧ w'.cell? ⟨gb8501, 5, none⟩ = some (.int .i64 t8509) ∧ w'.cell? ⟨gb8502, 0, none⟩ = some (.bool t8510) ∧ w'.cell? ⟨gb8502, 1, none⟩ = some (.int .i64 t8511) ∧ w'.cell? ⟨gb8502, 2, none⟩ = some (.int .i64 t8512) ∧ w'.cell? ⟨gb8502, 3, none⟩ = some (.bool t8513) ∧ w'.cell? ⟨gb8502, 4, none⟩ = some (.int .i64 t8514) ∧ w'.cell? ⟨gb8502, 5, none⟩ = some (.int .i64 t8515)) (ds := []) #[false, false, false, false, false, false, false, false, false, false, false, false, false, false, false] (by kernel_rfl) rfl rfl ⟨bc BK8501 0, bc BK8501 1, bc BK8501 2, bc BK8501 3, bc BK8501 4, bc BK8501 5, bc BK8502 0, bc BK8502 1, bc BK8502 2, bc BK8502 3, bc BK8502 4, bc BK8502 5⟩ (fun hHeld => ?_); refine with_tabW clock_bothJoin.tab2 clock_bothJoin.bits2 (fun HT_ HW_ => ?_)
  generalize w26.drew = w27 at BK8501 BK8502 BK8503 HB hHeld ⊢
  refine pur 0 (some 11) #[true, false, false, false, false, false, false, false, false, false, false, false, false, false, false] (any_of HT_.out (by kernel_rfl)) ?_
  refine pur 1 (some 12) #[true, true, false, false, false, false, false, false, false, false, false, false, false, false, false] (any_of HT_.out (by kernel_rfl)) ?_
  refine pur 3 (some 14) #[true, true, false, true, false, false, false, false, false, false, false, false, false, false, false] (any_of HT_.out (by kernel_rfl)) ?_
  refine pur 6 (some 17) #[true, true, false, true, false, false, true, false, false, false, false, false, false, false, false] (any_of HT_.out (by kernel_rfl)) ?_
  refine pur 7 (some 18) #[true, true, false, true, false, false, true, true, false, false, false, false, false, false, false] (any_of HT_.out (by kernel_rfl)) ?_
  refine pur 9 (some 20) #[true, true, false, true, false, false, true, true, false, true, false, false, false, false, false] (any_of HT_.out (by kernel_rfl)) ?_
  refine tak 2 (some 13) #[true, true, true, true, false, false, true, true, false, true, false, false, false, false, false] (take_ofW HT_.out HW_.out (by kernel_rfl)) hHeld ?_
  refine tak 4 (some 15) #[true, true, true, true, true, false, true, true, false, true, false, false, false, false, false] (take_ofW HT_.out HW_.out (by kernel_rfl)) hHeld ?_
  refine tak 8 (some 19) #[true, true, true, true, true, false, true, true, true, true, false, false, false, false, false] (take_ofW HT_.out HW_.out (by kernel_rfl)) hHeld ?_
  refine tak 10 (some 21) #[true, true, true, true, true, false, true, true, true, true, true, false, false, false, false] (take_ofW HT_.out HW_.out (by kernel_rfl)) hHeld ?_
  refine one_ (i := 5) (N := some 16) #[true, true, true, true, true, true, true, true, true, true, true, false, false, false, false] rfl rfl (one_of HT_.out (by kernel_rfl)) (by decide) (fun K hK => ?_)
  refine goesU0_ Try.func66 (by kernel_rfl) rfl (by rfl) #[.agg #[.bool t8504, .int .i64 t8505, .int .i64 t8506], .agg #[.bool t8510, .int .i64 t8511, .int .i64 t8512]] (by rfl) rfl rfl pa ?_
  with_reducible refine (clock_Join_1.calls k t8504 t8505 t8506 t8510 t8511 t8512 t8516 t8517 t8518 _ A5.out).mono ?_
  rintro e w28 ⟨rfl, hb⟩
  refine ⟨_, rfl, ?_⟩
  replace BK8501 := kb BK8501 hb
  replace BK8502 := kb BK8502 hb
  replace BK8503 := kb BK8503 hb
  replace HB := kh HB hb
  (try clear hb)
  refine hK.out _ _ ⟨bc BK8501 0, bc BK8501 1, bc BK8501 2, bc BK8501 3, bc BK8501 4, bc BK8501 5, bc BK8502 0, bc BK8502 1, bc BK8502 2, bc BK8502 3, bc BK8502 4, bc BK8502 5⟩ (fun hHeld => ?_)
  clear hK K
  refine nrm (some 16) ?_
  refine one_ (i := 11) (N := some 22) #[true, true, true, true, true, true, true, true, true, true, true, true, false, false, false] rfl rfl (one_of HT_.out (by kernel_rfl)) (by decide) (fun K hK => ?_)
  refine goesU0_ Try.func66 (by kernel_rfl) rfl (by rfl) #[.agg #[.bool t8507, .int .i64 t8508, .int .i64 t8509], .agg #[.bool t8513, .int .i64 t8514, .int .i64 t8515]] (by rfl) rfl rfl pa ?_
  with_reducible refine (clock_Join_1.calls k t8507 t8508 t8509 t8513 t8514 t8515 t8519 t8520 t8521 _ A6.out).mono ?_
  rintro e w29 ⟨rfl, hb⟩
  refine ⟨_, rfl, ?_⟩
  replace BK8501 := kb BK8501 hb
  replace BK8502 := kb BK8502 hb
  replace BK8503 := kb BK8503 hb
  replace HB := kh HB hb
  (try clear hb)
  refine hK.out _ _ ⟨bc BK8501 0, bc BK8501 1, bc BK8501 2, bc BK8501 3, bc BK8501 4, bc BK8501 5, bc BK8502 0, bc BK8502 1, bc BK8502 2, bc BK8502 3, bc BK8502 4, bc BK8502 5⟩ (fun hHeld => ?_)
  clear hK K
  refine nrm (some 22) ?_
  refine pur 12 (some 23) #[true, true, true, true, true, true, true, true, true, true, true, true, true, false, false] (any_of HT_.out (by kernel_rfl)) ?_
  refine one_ (i := 13) (N := some 24) #[true, true, true, true, true, true, true, true, true, true, true, true, true, true, false] rfl rfl (one_of HT_.out (by kernel_rfl)) (by decide) (fun K hK => ?_)
  refine gc Try.func61 #[.agg #[.bool t8516, .int .i64 t8517, .int .i64 t8518, .bool t8519, .int .i64 t8520, .int .i64 t8521]] (clock_norm.calls k t8516 t8517 t8518 t8519 t8520 t8521 t8522 t8523 t8524 t8525 t8526 t8527 _ A7.out) ?_
  intro w30 hb
  replace BK8501 := kb BK8501 hb
  replace BK8502 := kb BK8502 hb
  replace BK8503 := kb BK8503 hb
  replace HB := kh HB hb
  (try clear hb)
  refine hK.out _ _ ⟨bc BK8501 0, bc BK8501 1, bc BK8501 2, bc BK8501 3, bc BK8501 4, bc BK8501 5, bc BK8502 0, bc BK8502 1, bc BK8502 2, bc BK8502 3, bc BK8502 4, bc BK8502 5⟩ (fun hHeld => ?_)
  clear hK K
  refine nrm (some 24) ?_
  refine one_ (i := 14) (N := none) #[true, true, true, true, true, true, true, true, true, true, true, true, true, true, true] rfl rfl (one_of HT_.out (by kernel_rfl)) (by decide) (fun K hK => ?_)
  have hs31 : w30.cell? ⟨gb8503, 0, none⟩ = some (.bool false) := bc BK8503 0
  have hfs31 := blk_frozen BK8503.out 0
  have hns31_0 := NB8501_8503.out
  have hns31_1 := NB8502_8503.out
  have hms31_0 := NB8503_8501.out
  have hms31_1 := NB8503_8502.out
  have hs32 : w30.cell? ⟨gb8503, 1, none⟩ = some (.int .i64 0) := bc BK8503 1
  have hfs32 := blk_frozen BK8503.out 1
  have hs33 : w30.cell? ⟨gb8503, 2, none⟩ = some (.int .i64 0) := bc BK8503 2
  have hfs33 := blk_frozen BK8503.out 2
  have hs34 : w30.cell? ⟨gb8503, 3, none⟩ = some (.bool false) := bc BK8503 3
  have hfs34 := blk_frozen BK8503.out 3
  have hs35 : w30.cell? ⟨gb8503, 4, none⟩ = some (.int .i64 0) := bc BK8503 4
  have hfs35 := blk_frozen BK8503.out 4
  have hs36 : w30.cell? ⟨gb8503, 5, none⟩ = some (.int .i64 0) := bc BK8503 5
  have hfs36 := blk_frozen BK8503.out 5
  refine skip_ (w1 := ?_) (by rfl) rfl ?_ ?_
  rotate_left
  · go_simp
    rfl
  refine hK.out _ _ ⟨cf hHeld.1, cf hHeld.2.1, cf hHeld.2.2.1, cf hHeld.2.2.2.1, cf hHeld.2.2.2.2.1, cf hHeld.2.2.2.2.2.1, cf hHeld.2.2.2.2.2.2.1, cf hHeld.2.2.2.2.2.2.2.1, cf hHeld.2.2.2.2.2.2.2.2.1, cf hHeld.2.2.2.2.2.2.2.2.2.1, cf hHeld.2.2.2.2.2.2.2.2.2.2.1, cf hHeld.2.2.2.2.2.2.2.2.2.2.2⟩ (fun hHeld => ?_)
  clear hK K
  refine done_ (done_of HT_.out (by kernel_rfl)) ?_
  try go_wp2
  refine bodyPost_ret (results_cell_row rfl _ _ gb8503 25 #[.bool t8522, .int .i64 t8523, .int .i64 t8524, .bool t8525, .int .i64 t8526, .int .i64 t8527] (0, 0) _ rfl (pK BK8503) Try.underlying25 rfl (by kernel_rfl)) rfl ?_
  exact ⟨pe, pl HB⟩
/-! ### clock_Join: function 26 -/
def clock_Join.f (k : Nat) (a0_0 : Bool) (a0_1 : Int) (a0_2 : Int) (a0_3 : Bool) (a0_4 : Int) (a0_5 : Int) (a1_0 : Bool) (a1_1 : Int) (a1_2 : Int) (a1_3 : Bool) (a1_4 : Int) (a1_5 : Int) : Option (Bool × Int × Int × Bool × Int × Int) := (clock_bothJoin.f k a0_0 a0_1 a0_2 a0_3 a0_4 a0_5 a1_0 a1_1 a1_2 a1_3 a1_4 a1_5).bind fun bt8654 => (some (bt8654.1, bt8654.2.1, bt8654.2.2.1, bt8654.2.2.2.1, bt8654.2.2.2.2.1, bt8654.2.2.2.2.2))
theorem clock_Join.mono : ∀ a0 a1 a2 a3 a4 a5 a6 a7 a8 a9 a10 a11 k, LeO (clock_Join.f k a0 a1 a2 a3 a4 a5 a6 a7 a8 a9 a10 a11) (clock_Join.f (k + 1) a0 a1 a2 a3 a4 a5 a6 a7 a8 a9 a10 a11) := by
  intro a0 a1 a2 a3 a4 a5 a6 a7 a8 a9 a10 a11 k
  unfold clock_Join.f
  repeat' first
      | (with_reducible exact clock_bothJoin.mono _ _ _ _ _ _ _ _ _ _ _ _ _)
      | (with_reducible exact LeO.refl _)
      | (with_reducible exact LeO.none _)
      | (with_reducible refine LeO.ite ?_ ?_)
      | (with_reducible refine LeO.bind ?_ (fun _ => ?_))
      | exact clock_bothJoin.mono _ _ _ _ _ _ _ _ _ _ _ _ _
      | exact LeO.none _
      | refine LeO.ite ?_ ?_
      | refine LeO.bind ?_ (fun _ => ?_)
set_option maxHeartbeats 8000000 in
set_option maxRecDepth 100000 in
theorem clock_Join.calls (k : Nat) (a0_0 : Bool) (a0_1 : Int) (a0_2 : Int) (a0_3 : Bool) (a0_4 : Int) (a0_5 : Int) (a1_0 : Bool) (a1_1 : Int) (a1_2 : Int) (a1_3 : Bool) (a1_4 : Int) (a1_5 : Int) (r1 : Bool) (r2 : Int) (r3 : Int) (r4 : Bool) (r5 : Int) (r6 : Int) (w : World) (h : clock_Join.f k a0_0 a0_1 a0_2 a0_3 a0_4 a0_5 a1_0 a1_1 a1_2 a1_3 a1_4 a1_5 = some (r1, r2, r3, r4, r5, r6)) :
    Calls Try.prog 26 #[.agg #[.bool a0_0, .int .i64 a0_1, .int .i64 a0_2, .bool a0_3, .int .i64 a0_4, .int .i64 a0_5], .agg #[.bool a1_0, .int .i64 a1_1, .int .i64 a1_2, .bool a1_3, .int .i64 a1_4, .int .i64 a1_5]] w fun e w' => e = .returned (.agg #[.bool r1, .int .i64 r2, .int .i64 r3, .bool r4, .int .i64 r5, .int .i64 r6]) ∧ Below w.heap.size w w' := by
  have hu25 := Try.underlying25
  have HB := Aside0.mk (Below.refl w.heap.size w)
  have H := h
  clear h
  unfold clock_Join.f at H
  obtain ⟨⟨t8654, t8655, t8656, t8657, t8658, t8659⟩, A30, H⟩ := Option.bind_eq_some_iff.mp H
  have A3 := Aside0.mk A30
  clear A30
  (try dsimp only at H)
  simp only [Option.some.injEq, Prod.mk.injEq] at H
  obtain ⟨rfl, rfl, rfl, rfl, rfl, rfl⟩ := H
  go_enter Try.func26, Try.ntmps26
  go_wp2_with (first | ((with_reducible refine gate_dst (N := 2) rfl ?_); refine kx 2 #[.bool a0_0, .int .i64 a0_1, .int .i64 a0_2, .bool a0_3, .int .i64 a0_4, .int .i64 a0_5] 25 ?_; intro gb8651 hg w4 hbox hb; have BK8651 := Aside0.mk (hbox); have GW8651 := kg HB hg; have GE8651 := kg HB hg; replace HB := kh HB hb; clear hb hbox hg) | ((with_reducible refine gate_dst (N := 3) rfl ?_); refine kx 3 #[.bool a1_0, .int .i64 a1_1, .int .i64 a1_2, .bool a1_3, .int .i64 a1_4, .int .i64 a1_5] 25 ?_; intro gb8652 hg w5 hbox hb; have BK8652 := Aside0.mk (hbox); have GW8652 := kg HB hg; have GE8652 := kg HB hg; have NB8651_8652 := kn BK8651 hg; have NB8652_8651 := km BK8651 hg; replace BK8651 := kb BK8651 hb; replace HB := kh HB hb; clear hb hbox hg) | ((with_reducible refine gate_dst (N := 4) rfl ?_); refine kx 4 #[.bool false, .int .i64 0, .int .i64 0, .bool false, .int .i64 0, .int .i64 0] 25 ?_; intro gb8653 hg w6 hbox hb; have BK8653 := Aside0.mk (hbox); have GW8653 := kg HB hg; have GE8653 := kg HB hg; have NB8651_8653 := kn BK8651 hg; have NB8653_8651 := km BK8651 hg; have NB8652_8653 := kn BK8652 hg; have NB8653_8652 := km BK8652 hg; replace BK8651 := kb BK8651 hb; replace BK8652 := kb BK8652 hb; replace HB := kh HB hb; clear hb hbox hg; have hnb7 := NB8651_8652.out; have hnc7 := NB8652_8651.out; have hnb8 := NB8651_8653.out; have hnc8 := NB8653_8651.out; have ⟨hcz9_0, hcz9_1, hcz9_2, hcz9_3, hcz9_4, hcz9_5, hfz9_0, hfz9_1, hfz9_2, hfz9_3, hfz9_4, hfz9_5⟩ := kz6f BK8651; have hnb10 := NB8652_8653.out; have hnc10 := NB8653_8652.out; have ⟨hcz11_0, hcz11_1, hcz11_2, hcz11_3, hcz11_4, hcz11_5, hfz11_0, hfz11_1, hfz11_2, hfz11_3, hfz11_4, hfz11_5⟩ := kz6f BK8652) | ((with_reducible refine gate_callee (f := 65) rfl ?_); refine kc (some 7) Try.func65 #[.agg #[.bool a0_0, .int .i64 a0_1, .int .i64 a0_2, .bool a0_3, .int .i64 a0_4, .int .i64 a0_5], .agg #[.bool a1_0, .int .i64 a1_1, .int .i64 a1_2, .bool a1_3, .int .i64 a1_4, .int .i64 a1_5], .func (.func 66) #[] #[]] (clock_bothJoin.calls k a0_0 a0_1 a0_2 a0_3 a0_4 a0_5 a1_0 a1_1 a1_2 a1_3 a1_4 a1_5 t8654 t8655 t8656 t8657 t8658 t8659 _ A3.out) ?_; intro w12 hb; replace BK8651 := kb BK8651 hb; replace BK8652 := kb BK8652 hb; replace BK8653 := kb BK8653 hb; replace HB := kh HB hb; (try clear hb); have ⟨hcz13_0, hcz13_1, hcz13_2, hcz13_3, hcz13_4, hcz13_5, hfz13_0, hfz13_1, hfz13_2, hfz13_3, hfz13_4, hfz13_5⟩ := kz6f BK8653))
  refine bodyPost_ret (results_cell_row rfl _ _ gb8653 25 #[.bool t8654, .int .i64 t8655, .int .i64 t8656, .bool t8657, .int .i64 t8658, .int .i64 t8659] (0, 0) _ rfl (pK BK8653) Try.underlying25 rfl (by kernel_rfl)) rfl ?_
  exact ⟨pe, pl HB⟩
/-! ### clock_WidenDo: function 105 -/
def clock_WidenDo.f (k : Nat) (a0_0 : Bool) (a0_1 : Int) (a0_2 : Int) (a1_0 : Bool) (a1_1 : Int) (a1_2 : Int) (l2 : List Int) : Option (Bool × Int × Int) := (ints_Widen.f k a0_0 a0_1 a0_2 a1_0 a1_1 a1_2 l2).bind fun bt8804 => (some (bt8804.1, bt8804.2.1, bt8804.2.2))
theorem clock_WidenDo.mono : ∀ a0 a1 a2 a3 a4 a5 a6 k, LeO (clock_WidenDo.f k a0 a1 a2 a3 a4 a5 a6) (clock_WidenDo.f (k + 1) a0 a1 a2 a3 a4 a5 a6) := by
  intro a0 a1 a2 a3 a4 a5 a6 k
  unfold clock_WidenDo.f
  repeat' first
      | (with_reducible exact ints_Widen.mono _ _ _ _ _ _ _ _)
      | (with_reducible exact LeO.refl _)
      | (with_reducible exact LeO.none _)
      | (with_reducible refine LeO.ite ?_ ?_)
      | (with_reducible refine LeO.bind ?_ (fun _ => ?_))
      | exact ints_Widen.mono _ _ _ _ _ _ _ _
      | exact LeO.none _
      | refine LeO.ite ?_ ?_
      | refine LeO.bind ?_ (fun _ => ?_)
set_option maxHeartbeats 8000000 in
set_option maxRecDepth 100000 in
theorem clock_WidenDo.calls (k : Nat) (a0_0 : Bool) (a0_1 : Int) (a0_2 : Int) (a1_0 : Bool) (a1_1 : Int) (a1_2 : Int) (A2 : Option Addr) (c2 : Nat) (l2 : List Int) (g2 : Nat) (r1 : Bool) (r2 : Int) (r3 : Int) (w : World) (hp2 : w.cell? ⟨g2, 0, none⟩ = some (.slice A2 l2.length c2)) (hr2 : Kd.C (Kd.int .i64) w A2 l2.length l2) (hc2 : l2.length ≤ c2) (h : clock_WidenDo.f k a0_0 a0_1 a0_2 a1_0 a1_1 a1_2 l2 = some (r1, r2, r3)) :
    Calls Try.prog 67 #[.agg #[.bool a0_0, .int .i64 a0_1, .int .i64 a0_2], .agg #[.bool a1_0, .int .i64 a1_1, .int .i64 a1_2], .pointer (some ⟨g2, 0, none⟩)] w fun e w' => e = .returned (.agg #[.bool r1, .int .i64 r2, .int .i64 r3]) ∧ Below w.heap.size w w' := by
  have hu23 := Try.underlying23
  have HP2 := Aside0.mk hp2
  clear hp2
  have HR2 := Aside0.mk hr2
  have HC2 := Aside0.mk hc2
  clear hr2 hc2
  have HB := Aside0.mk (Below.refl w.heap.size w)
  have H := h
  clear h
  unfold clock_WidenDo.f at H
  obtain ⟨⟨t8804, t8805, t8806⟩, A40, H⟩ := Option.bind_eq_some_iff.mp H
  have A4 := Aside0.mk A40
  clear A40
  (try dsimp only at H)
  simp only [Option.some.injEq, Prod.mk.injEq] at H
  obtain ⟨rfl, rfl, rfl⟩ := H
  go_enter Try.func67, Try.ntmps67
  go_wp2_with (first | ((with_reducible refine gate_dst (N := 3) rfl ?_); refine kx 3 #[.bool a0_0, .int .i64 a0_1, .int .i64 a0_2] 23 ?_; intro gb8801 hg w5 hbox hb; have BK8801 := Aside0.mk (hbox); have GW8801 := kg HB hg; have GE8801 := kg HB hg; replace HB := kh HB hb; clear hb hbox hg) | ((with_reducible refine gate_dst (N := 4) rfl ?_); refine kx 4 #[.bool a1_0, .int .i64 a1_1, .int .i64 a1_2] 23 ?_; intro gb8802 hg w6 hbox hb; have BK8802 := Aside0.mk (hbox); have GW8802 := kg HB hg; have GE8802 := kg HB hg; have NB8801_8802 := kn BK8801 hg; have NB8802_8801 := km BK8801 hg; replace BK8801 := kb BK8801 hb; replace HB := kh HB hb; clear hb hbox hg) | ((with_reducible refine gate_dst (N := 5) rfl ?_); refine kx 5 #[.bool false, .int .i64 0, .int .i64 0] 23 ?_; intro gb8803 hg w7 hbox hb; have BK8803 := Aside0.mk (hbox); have GW8803 := kg HB hg; have GE8803 := kg HB hg; have NB8801_8803 := kn BK8801 hg; have NB8803_8801 := km BK8801 hg; have NB8802_8803 := kn BK8802 hg; have NB8803_8802 := km BK8802 hg; replace BK8801 := kb BK8801 hb; replace BK8802 := kb BK8802 hb; replace HB := kh HB hb; clear hb hbox hg; have hp2 := pw_cell_below HB.out HP2.out; have hnb8 := NB8801_8802.out; have hnc8 := NB8802_8801.out; have hnb9 := NB8801_8803.out; have hnc9 := NB8803_8801.out; have ⟨hcz10_0, hcz10_1, hcz10_2, hfz10_0, hfz10_1, hfz10_2⟩ := kz3f BK8801; have hnb11 := NB8802_8803.out; have hnc11 := NB8803_8802.out; have ⟨hcz12_0, hcz12_1, hcz12_2, hfz12_0, hfz12_1, hfz12_2⟩ := kz3f BK8802) | ((with_reducible refine gate_callee (f := 57) rfl ?_); refine goesL_ (some 9) rfl rfl Try.func57 (by kernel_rfl) rfl #[.agg #[.bool a0_0, .int .i64 a0_1, .int .i64 a0_2], .agg #[.bool a1_0, .int .i64 a1_1, .int .i64 a1_2], .slice A2 l2.length c2] rfl pa ?_; (with_reducible refine (ints_Widen.calls k a0_0 a0_1 a0_2 a1_0 a1_1 a1_2 _ _ l2 t8804 t8805 t8806 _ ?side1 ?side2 A4.out).mono ?_); (case side1 => repeat (first | exact (Kd.C_below HR2.out HB.out) | (with_reducible refine Kd.C_alloc ?_ _) | (with_reducible refine Kd.C_drewN ?_ _) | (with_reducible refine Kd.C_drew ?_))); (case side2 => exact HC2.out); rintro e w13 ⟨rfl, hb⟩; refine ⟨_, rfl, ?_⟩; replace BK8801 := kb BK8801 hb; replace BK8802 := kb BK8802 hb; replace BK8803 := kb BK8803 hb; replace HB := kh HB hb; (try clear hb); have ⟨hcz14_0, hcz14_1, hcz14_2, hfz14_0, hfz14_1, hfz14_2⟩ := kz3f BK8803))
  refine bodyPost_ret (results_cell_row rfl _ _ gb8803 23 #[.bool t8804, .int .i64 t8805, .int .i64 t8806] (0, 0) _ rfl (pK BK8803) Try.underlying23 rfl (by kernel_rfl)) rfl ?_
  exact ⟨pe, pl HB⟩
end Go.Proofs.Ytinmgnlofininaa.PAll
end
