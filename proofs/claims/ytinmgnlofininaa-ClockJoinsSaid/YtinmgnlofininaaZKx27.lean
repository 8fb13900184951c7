/- Functions of the print, turned to this claim. -/
import Derived.Test.YtinmgnlofininaaZKW
import Derived.Test.YtinmgnlofininaaZKx0
import Derived.Test.YtinmgnlofininaaZKx4
import Derived.Test.YtinmgnlofininaaZKx5
import Derived.Test.YtinmgnlofininaaZKx25
import Derived.Test.YtinmgnlofininaaZKx26
section
namespace Go.Proofs.Ytinmgnlofininaa.PAll
open Go.RowKit Go.Proofs.YtinmgnlofininaaW.PrintWords Go.Proofs.YtinmgnlofininaaW.PrintLast Go.Proofs.YtinmgnlofininaaW.PrintMore
attribute [local go_sem] max2_int min2_int max_two min_two max_three min_three max_four min_four   -- for this text's walks alone
set_option linter.unusedVariables false
set_option linter.unusedSimpArgs false
/-! ### clock_bothMeet: function 100 -/
def clock_bothMeet.f (k : Nat) (a0_0 : Bool) (a0_1 : Int) (a0_2 : Int) (a0_3 : Bool) (a0_4 : Int) (a0_5 : Int) (a1_0 : Bool) (a1_1 : Int) (a1_2 : Int) (a1_3 : Bool) (a1_4 : Int) (a1_5 : Int) : Option (Bool × Int × Int × Bool × Int × Int) := (clock_norm.f k a0_0 a0_1 a0_2 a0_3 a0_4 a0_5).bind fun bt7754 => ((clock_norm.f k a1_0 a1_1 a1_2 a1_3 a1_4 a1_5).bind fun bt7760 => ((ints_Meet.f k bt7754.1 bt7754.2.1 bt7754.2.2.1 bt7760.1 bt7760.2.1 bt7760.2.2.1).bind fun bt7766 => ((ints_Meet.f k bt7754.2.2.2.1 bt7754.2.2.2.2.1 bt7754.2.2.2.2.2 bt7760.2.2.2.1 bt7760.2.2.2.2.1 bt7760.2.2.2.2.2).bind fun bt7769 => ((clock_norm.f k bt7766.1 bt7766.2.1 bt7766.2.2 bt7769.1 bt7769.2.1 bt7769.2.2).bind fun bt7772 => (some (bt7772.1, bt7772.2.1, bt7772.2.2.1, bt7772.2.2.2.1, bt7772.2.2.2.2.1, bt7772.2.2.2.2.2))))))
theorem clock_bothMeet.mono : ∀ a0 a1 a2 a3 a4 a5 a6 a7 a8 a9 a10 a11 k, LeO (clock_bothMeet.f k a0 a1 a2 a3 a4 a5 a6 a7 a8 a9 a10 a11) (clock_bothMeet.f (k + 1) a0 a1 a2 a3 a4 a5 a6 a7 a8 a9 a10 a11) := by
  intro a0 a1 a2 a3 a4 a5 a6 a7 a8 a9 a10 a11 k
  unfold clock_bothMeet.f
  repeat' first
      | (with_reducible exact clock_norm.mono _ _ _ _ _ _ _)
      | (with_reducible exact ints_Meet.mono _ _ _ _ _ _ _)
      | (with_reducible exact LeO.refl _)
      | (with_reducible exact LeO.none _)
      | (with_reducible refine LeO.ite ?_ ?_)
      | (with_reducible refine LeO.bind ?_ (fun _ => ?_))
      | exact clock_norm.mono _ _ _ _ _ _ _
      | exact ints_Meet.mono _ _ _ _ _ _ _
      | exact LeO.none _
      | refine LeO.ite ?_ ?_
      | refine LeO.bind ?_ (fun _ => ?_)
def clock_bothMeet.T2 : Bool × List (List Nat × List Nat) := (true, [([], []), ([], []), ([1], [1]), ([], []), ([3], [3]), ([0, 2, 4], [0, 2, 4]), ([], []), ([], []), ([7], [7]), ([], []), ([9], [9]), ([6, 8, 10, 5], [6, 8, 10]), ([5, 11], [5, 11]), ([12, 11], [12]), ([13, 13, 0, 1, 2, 3, 4, 5, 6, 7, 8, 9, 10, 11, 12, 13], [13])])
def clock_bothMeet.B2 : List Nat := [0, 0, 2, 0, 8, 31, 0, 0, 128, 0, 512, 2047, 4095, 8191, 16383]
theorem clock_bothMeet.tab2 : rtab .any (opsOf Try.f65 2) = clock_bothMeet.T2 := by kernel_rfl
theorem clock_bothMeet.bits2 : waitsOk clock_bothMeet.T2.2 clock_bothMeet.B2 = true := by kernel_rfl
set_option maxHeartbeats 8000000 in
set_option maxRecDepth 100000 in
theorem clock_bothMeet.calls (k : Nat) (a0_0 : Bool) (a0_1 : Int) (a0_2 : Int) (a0_3 : Bool) (a0_4 : Int) (a0_5 : Int) (a1_0 : Bool) (a1_1 : Int) (a1_2 : Int) (a1_3 : Bool) (a1_4 : Int) (a1_5 : Int) (r1 : Bool) (r2 : Int) (r3 : Int) (r4 : Bool) (r5 : Int) (r6 : Int) (w : World) (h : clock_bothMeet.f k a0_0 a0_1 a0_2 a0_3 a0_4 a0_5 a1_0 a1_1 a1_2 a1_3 a1_4 a1_5 = some (r1, r2, r3, r4, r5, r6)) :
    Calls Try.prog 65 #[.agg #[.bool a0_0, .int .i64 a0_1, .int .i64 a0_2, .bool a0_3, .int .i64 a0_4, .int .i64 a0_5], .agg #[.bool a1_0, .int .i64 a1_1, .int .i64 a1_2, .bool a1_3, .int .i64 a1_4, .int .i64 a1_5], .func (.func 45) #[] #[]] w fun e w' => e = .returned (.agg #[.bool r1, .int .i64 r2, .int .i64 r3, .bool r4, .int .i64 r5, .int .i64 r6]) ∧ Below w.heap.size w w' := by
  have hu25 := Try.underlying25
  have hu23 := Try.underlying23
  have HB := Aside0.mk (Below.refl w.heap.size w)
  have H := h
  clear h
  unfold clock_bothMeet.f at H
  obtain ⟨⟨t7754, t7755, t7756, t7757, t7758, t7759⟩, A30, H⟩ := Option.bind_eq_some_iff.mp H
  have A3 := Aside0.mk A30
  clear A30
  (try dsimp only at H)
  obtain ⟨⟨t7760, t7761, t7762, t7763, t7764, t7765⟩, A40, H⟩ := Option.bind_eq_some_iff.mp H
  have A4 := Aside0.mk A40
  clear A40
  (try dsimp only at H)
  obtain ⟨⟨t7766, t7767, t7768⟩, A50, H⟩ := Option.bind_eq_some_iff.mp H
  have A5 := Aside0.mk A50
  clear A50
  (try dsimp only at H)
  obtain ⟨⟨t7769, t7770, t7771⟩, A60, H⟩ := Option.bind_eq_some_iff.mp H
  have A6 := Aside0.mk A60
  clear A60
  (try dsimp only at H)
  obtain ⟨⟨t7772, t7773, t7774, t7775, t7776, t7777⟩, A70, H⟩ := Option.bind_eq_some_iff.mp H
  have A7 := Aside0.mk A70
  clear A70
  (try dsimp only at H)
  simp only [Option.some.injEq, Prod.mk.injEq] at H
  obtain ⟨rfl, rfl, rfl, rfl, rfl, rfl⟩ := H
  go_enter Try.func65, Try.ntmps65
  try go_wp2_with (first | ((with_reducible refine gate_dst (N := 3) rfl ?_); refine kx 3 #[.bool a0_0, .int .i64 a0_1, .int .i64 a0_2, .bool a0_3, .int .i64 a0_4, .int .i64 a0_5] 25 ?_; intro gb7751 hg w8 hbox hb; have BK7751 := Aside0.mk (hbox); have GW7751 := kg HB hg; have GE7751 := kg HB hg; replace HB := kh HB hb; clear hb hbox hg) | ((with_reducible refine gate_dst (N := 4) rfl ?_); refine kx 4 #[.bool a1_0, .int .i64 a1_1, .int .i64 a1_2, .bool a1_3, .int .i64 a1_4, .int .i64 a1_5] 25 ?_; intro gb7752 hg w9 hbox hb; have BK7752 := Aside0.mk (hbox); have GW7752 := kg HB hg; have GE7752 := kg HB hg; have NB7751_7752 := kn BK7751 hg; have NB7752_7751 := km BK7751 hg; replace BK7751 := kb BK7751 hb; replace HB := kh HB hb; clear hb hbox hg) | ((with_reducible refine gate_dst (N := 6) rfl ?_); refine kx 6 #[.bool false, .int .i64 0, .int .i64 0, .bool false, .int .i64 0, .int .i64 0] 25 ?_; intro gb7753 hg w10 hbox hb; have BK7753 := Aside0.mk (hbox); have GW7753 := kg HB hg; have GE7753 := kg HB hg; have NB7751_7753 := kn BK7751 hg; have NB7753_7751 := km BK7751 hg; have NB7752_7753 := kn BK7752 hg; have NB7753_7752 := km BK7752 hg; replace BK7751 := kb BK7751 hb; replace BK7752 := kb BK7752 hb; replace HB := kh HB hb; clear hb hbox hg))
  replace BK7751 := Aside0.mk (blk_drew BK7751.out)
  replace BK7752 := Aside0.mk (blk_drew BK7752.out)
  replace BK7753 := Aside0.mk (blk_drew BK7753.out)
  replace HB := Aside0.mk (below_drew1 HB.out)
  refine start_ (n := 6) (S := fun w' => w'.cell? ⟨gb7751, 0, none⟩ = some (.bool a0_0) ∧ w'.cell? ⟨gb7751, 1, none⟩ = some (.int .i64 a0_1) ∧ w'.cell? ⟨gb7751, 2, none⟩ = some (.int .i64 a0_2) ∧ w'.cell? ⟨gb7751, 3, none⟩ = some (.bool a0_3) ∧ w'.cell? ⟨gb7751, 4, none⟩ = some (.int .i64 a0_4) ∧ w'.cell? ⟨gb7751, 5, none⟩ = some (.int .i64 a0_5) ∧ w'.cell? ⟨gb7752, 0, none⟩ = some (.bool a1_0) ∧ w'.cell? ⟨gb7752, 1, none⟩ = some (.int .i64 a1_1) ∧ w'.cell? ⟨gb7752, 2, none⟩ = some (.int .i64 a1_2) ∧ w'.cell? ⟨gb7752, 3, none⟩ = some (.bool a1_3) ∧ w'.cell? ⟨gb7752, 4, none⟩ = some (.int .i64 a1_4) ∧ w'.cell? ⟨gb7752, 5, none⟩ = some (.int .i64 a1_5)) (ds := [4, 5]) #[false, false, false, false, false, false] (by kernel_rfl) rfl rfl ⟨bc BK7751 0, bc BK7751 1, bc BK7751 2, bc BK7751 3, bc BK7751 4, bc BK7751 5, bc BK7752 0, bc BK7752 1, bc BK7752 2, bc BK7752 3, bc BK7752 4, bc BK7752 5⟩ (fun hHeld => ?_)
  generalize w10.drew = w11 at BK7751 BK7752 BK7753 HB hHeld ⊢
  refine tak 0 (some 7) #[true, false, false, false, false, false] (by kernel_rfl) hHeld ?_
  refine tak 2 (some 9) #[true, false, true, false, false, false] (by kernel_rfl) hHeld ?_
  refine one_ (i := 1) (N := some 8) #[true, true, true, false, false, false] rfl rfl (by kernel_rfl) (by decide) (fun K hK => ?_)
  refine gc Try.func61 #[.agg #[.bool a0_0, .int .i64 a0_1, .int .i64 a0_2, .bool a0_3, .int .i64 a0_4, .int .i64 a0_5]] (clock_norm.calls k a0_0 a0_1 a0_2 a0_3 a0_4 a0_5 t7754 t7755 t7756 t7757 t7758 t7759 _ A3.out) ?_
  intro w12 hb
  replace BK7751 := kb BK7751 hb
  replace BK7752 := kb BK7752 hb
  replace BK7753 := kb BK7753 hb
  replace HB := kh HB hb
  (try clear hb)
  refine hK.out _ _ ⟨bc BK7751 0, bc BK7751 1, bc BK7751 2, bc BK7751 3, bc BK7751 4, bc BK7751 5, bc BK7752 0, bc BK7752 1, bc BK7752 2, bc BK7752 3, bc BK7752 4, bc BK7752 5⟩ (fun hHeld => ?_)
  clear hK K
  refine nrm (some 8) ?_
  refine one_ (i := 3) (N := some 10) #[true, true, true, true, false, false] rfl rfl (by kernel_rfl) (by decide) (fun K hK => ?_)
  refine gc Try.func61 #[.agg #[.bool a1_0, .int .i64 a1_1, .int .i64 a1_2, .bool a1_3, .int .i64 a1_4, .int .i64 a1_5]] (clock_norm.calls k a1_0 a1_1 a1_2 a1_3 a1_4 a1_5 t7760 t7761 t7762 t7763 t7764 t7765 _ A4.out) ?_
  intro w13 hb
  replace BK7751 := kb BK7751 hb
  replace BK7752 := kb BK7752 hb
  replace BK7753 := kb BK7753 hb
  replace HB := kh HB hb
  (try clear hb)
  refine hK.out _ _ ⟨bc BK7751 0, bc BK7751 1, bc BK7751 2, bc BK7751 3, bc BK7751 4, bc BK7751 5, bc BK7752 0, bc BK7752 1, bc BK7752 2, bc BK7752 3, bc BK7752 4, bc BK7752 5⟩ (fun hHeld => ?_)
  clear hK K
  refine nrm (some 10) ?_
  refine last_ (i := 4) (N := none) #[true, true, true, true, true, false] rfl rfl (by kernel_rfl) (by decide) (fun K hK => ?_)
  have hs14 : w13.cell? ⟨gb7751, 0, none⟩ = some (.bool a0_0) := bc BK7751 0
  have hfs14 := blk_frozen BK7751.out 0
  have hns14_1 := NB7752_7751.out
  have hns14_2 := NB7753_7751.out
  have hms14_1 := NB7751_7752.out
  have hms14_2 := NB7751_7753.out
  have hs15 : w13.cell? ⟨gb7751, 1, none⟩ = some (.int .i64 a0_1) := bc BK7751 1
  have hfs15 := blk_frozen BK7751.out 1
  have hs16 : w13.cell? ⟨gb7751, 2, none⟩ = some (.int .i64 a0_2) := bc BK7751 2
  have hfs16 := blk_frozen BK7751.out 2
  have hs17 : w13.cell? ⟨gb7751, 3, none⟩ = some (.bool a0_3) := bc BK7751 3
  have hfs17 := blk_frozen BK7751.out 3
  have hs18 : w13.cell? ⟨gb7751, 4, none⟩ = some (.int .i64 a0_4) := bc BK7751 4
  have hfs18 := blk_frozen BK7751.out 4
  have hs19 : w13.cell? ⟨gb7751, 5, none⟩ = some (.int .i64 a0_5) := bc BK7751 5
  have hfs19 := blk_frozen BK7751.out 5
  refine skip_ (w1 := ?_) (by rfl) rfl ?_ ?_
  rotate_left
  · go_simp
    rfl
  refine hK.out _ _ ?_
  clear hK K
  refine last_ (i := 5) (N := none) #[true, true, true, true, true, true] rfl rfl (by kernel_rfl) (by decide) (fun K hK => ?_)
  have hs20 : w13.cell? ⟨gb7752, 0, none⟩ = some (.bool a1_0) := bc BK7752 0
  have hfs20 := blk_frozen BK7752.out 0
  have hns20_0 := NB7751_7752.out
  have hns20_2 := NB7753_7752.out
  have hms20_0 := NB7752_7751.out
  have hms20_2 := NB7752_7753.out
  have hs21 : w13.cell? ⟨gb7752, 1, none⟩ = some (.int .i64 a1_1) := bc BK7752 1
  have hfs21 := blk_frozen BK7752.out 1
  have hs22 : w13.cell? ⟨gb7752, 2, none⟩ = some (.int .i64 a1_2) := bc BK7752 2
  have hfs22 := blk_frozen BK7752.out 2
  have hs23 : w13.cell? ⟨gb7752, 3, none⟩ = some (.bool a1_3) := bc BK7752 3
  have hfs23 := blk_frozen BK7752.out 3
  have hs24 : w13.cell? ⟨gb7752, 4, none⟩ = some (.int .i64 a1_4) := bc BK7752 4
  have hfs24 := blk_frozen BK7752.out 4
  have hs25 : w13.cell? ⟨gb7752, 5, none⟩ = some (.int .i64 a1_5) := bc BK7752 5
  have hfs25 := blk_frozen BK7752.out 5
  refine skip_ (w1 := ?_) (by rfl) rfl ?_ ?_
  rotate_left
  · go_simp
    rfl
  refine hK.out _ _ ?_
  clear hK K
  refine done_ (by kernel_rfl) ?_
  try go_wp2
  generalize hW_ : ((((((((((((w13.setCell ⟨gb7751, 0, none⟩ (.bool t7754)).setCell ⟨gb7751, 1, none⟩ (.int .i64 t7755)).setCell ⟨gb7751, 2, none⟩ (.int .i64 t7756)).setCell ⟨gb7751, 3, none⟩ (.bool t7757)).setCell ⟨gb7751, 4, none⟩ (.int .i64 t7758)).setCell ⟨gb7751, 5, none⟩ (.int .i64 t7759)).setCell ⟨gb7752, 0, none⟩ (.bool t7760)).setCell ⟨gb7752, 1, none⟩ (.int .i64 t7761)).setCell ⟨gb7752, 2, none⟩ (.int .i64 t7762)).setCell ⟨gb7752, 3, none⟩ (.bool t7763)).setCell ⟨gb7752, 4, none⟩ (.int .i64 t7764)).setCell ⟨gb7752, 5, none⟩ (.int .i64 t7765)) = w26
  replace BK7751 := kr (o' := .cells #[.bool t7754, .int .i64 t7755, .int .i64 t7756, .bool t7757, .int .i64 t7758, .int .i64 t7759] 25 (0, 0)) BK7751 hW_
  replace BK7752 := kr (o' := .cells #[.bool t7760, .int .i64 t7761, .int .i64 t7762, .bool t7763, .int .i64 t7764, .int .i64 t7765] 25 (0, 0)) BK7752 hW_
  replace BK7753 := kr BK7753 hW_
  replace HB := kq HB hW_
  clear hW_
  replace BK7751 := Aside0.mk (blk_drew BK7751.out)
  replace BK7752 := Aside0.mk (blk_drew BK7752.out)
  replace BK7753 := Aside0.mk (blk_drew BK7753.out)
  replace HB := Aside0.mk (below_drew1 HB.out)
  refine start_ (n := 15) (S := fun w' => w'.cell? ⟨gb7751, 0, none⟩ = some (.bool t7754) ∧ w'.cell? ⟨gb7751, 1, none⟩ = some (.int .i64 t7755) ∧ w'.cell? ⟨gb7751, 2, none⟩ = some (.int .i64 t7756) ∧ w'.cell? ⟨gb7751, 3, none⟩ = some (.bool t7757) ∧ w'.cell? ⟨gb7751, 4, none⟩ = some (.int .i64 t7758) ∧ w'.cell? ⟨gb7751, 5, none⟩ = some (.int .i64 t7759) ∧ w'.cell? ⟨gb7752, 0, none⟩ = some (.bool t7760) ∧ w'.cell? ⟨gb7752, 1, none⟩ = some (.int .i64 t7761) ∧ w'.cell? ⟨gb7752, 2, none⟩ = some (.int .i64 t7762) ∧ w'.cell? ⟨gb7752, 3, none⟩ = some (.bool t7763) ∧ w'.cell? ⟨gb7752, 4, none⟩ = some (.int .i64 t7764) ∧ w'.cell? ⟨gb7752, 5, none⟩ = some (.int .i64 t7765)) (ds := []) #[false, false, false, false, false, false, false, false, false, false, false, false, false, false, false] (by kernel_rfl) rfl rfl ⟨bc BK7751 0, bc BK7751 1, bc BK7751 2, bc BK7751 3, bc BK7751 4, bc BK7751 5, bc BK7752 0, bc BK7752 1, bc BK7752 2, bc BK7752 3, bc BK7752 4, bc BK7752 5⟩ (fun hHeld => ?_); refine with_tabW clock_bothMeet.tab2 clock_bothMeet.bits2 (fun HT_ HW_ => ?_)
  generalize w26.drew = w27 at BK7751 BK7752 BK7753 HB hHeld ⊢
  refine pur 0 (some 11) #[true, false, false, false, false, false, false, false, false, false, false, false, false, false, false] (any_of HT_.out (by kernel_rfl)) ?_
  refine pur 1 (some 12) #[true, true, false, false, false, false, false, false, false, false, false, false, false, false, false] (any_of HT_.out (by kernel_rfl)) ?_
  refine pur 3 (some 14) #[true, true, false, true, false, false, false, false, false, false, false, false, false, false, false] (any_of HT_.out (by kernel_rfl)) ?_
  refine pur 6 (some 17) #[true, true, false, true, false, false, true, false, false, false, false, false, false, false, false] (any_of HT_.out (by kernel_rfl)) ?_
  refine pur 7 (some 18) #[true, true, false, true, false, false, true, true, false, false, false, false, false, false, false] (any_of HT_.out (by kernel_rfl)) ?_
  refine pur 9 (some 20) #[true, true, false, true, false, false, true, true, false, true, false, false, false, false, false] (any_of HT_.out (by kernel_rfl)) ?_
  refine tak 2 (some 13) #[true, true, true, true, false, false, true, true, false, true, false, false, false, false, false] (take_ofW HT_.out HW_.out (by kernel_rfl)) hHeld ?_
  refine tak 4 (some 15) #[true, true, true, true, true, false, true, true, false, true, false, false, false, false, false] (take_ofW HT_.out HW_.out (by kernel_rfl)) hHeld ?_
  refine tak 8 (some 19) #[true, true, true, true, true, false, true, true, true, true, false, false, false, false, false] (take_ofW HT_.out HW_.out (by kernel_rfl)) hHeld ?_
  refine tak 10 (some 21) #[true, true, true, true, true, false, true, true, true, true, true, false, false, false, false] (take_ofW HT_.out HW_.out (by kernel_rfl)) hHeld ?_
  refine one_ (i := 5) (N := some 16) #[true, true, true, true, true, true, true, true, true, true, true, false, false, false, false] rfl rfl (one_of HT_.out (by kernel_rfl)) (by decide) (fun K hK => ?_)
  refine goesU0_ Try.func45 (by kernel_rfl) rfl (by rfl) #[.agg #[.bool t7754, .int .i64 t7755, .int .i64 t7756], .agg #[.bool t7760, .int .i64 t7761, .int .i64 t7762]] (by rfl) rfl rfl pa ?_
  with_reducible refine (ints_Meet.calls k t7754 t7755 t7756 t7760 t7761 t7762 t7766 t7767 t7768 _ A5.out).mono ?_
  rintro e w28 ⟨rfl, hb⟩
  refine ⟨_, rfl, ?_⟩
  replace BK7751 := kb BK7751 hb
  replace BK7752 := kb BK7752 hb
  replace BK7753 := kb BK7753 hb
  replace HB := kh HB hb
  (try clear hb)
  refine hK.out _ _ ⟨bc BK7751 0, bc BK7751 1, bc BK7751 2, bc BK7751 3, bc BK7751 4, bc BK7751 5, bc BK7752 0, bc BK7752 1, bc BK7752 2, bc BK7752 3, bc BK7752 4, bc BK7752 5⟩ (fun hHeld => ?_)
  clear hK K
  refine nrm (some 16) ?_
  refine one_ (i := 11) (N := some 22) #[true, true, true, true, true, true, true, true, true, true, true, true, false, false, false] rfl rfl (one_of HT_.out (by kernel_rfl)) (by decide) (fun K hK => ?_)
  refine goesU0_ Try.func45 (by kernel_rfl) rfl (by rfl) #[.agg #[.bool t7757, .int .i64 t7758, .int .i64 t7759], .agg #[.bool t7763, .int .i64 t7764, .int .i64 t7765]] (by rfl) rfl rfl pa ?_
  with_reducible refine (ints_Meet.calls k t7757 t7758 t7759 t7763 t7764 t7765 t7769 t7770 t7771 _ A6.out).mono ?_
  rintro e w29 ⟨rfl, hb⟩
  refine ⟨_, rfl, ?_⟩
  replace BK7751 := kb BK7751 hb
  replace BK7752 := kb BK7752 hb
  replace BK7753 := kb BK7753 hb
  replace HB := kh HB hb
  (try clear hb)
  refine hK.out _ _ ⟨bc BK7751 0, bc BK7751 1, bc BK7751 2, bc BK7751 3, bc BK7751 4, bc BK7751 5, bc BK7752 0, bc BK7752 1, bc BK7752 2, bc BK7752 3, bc BK7752 4, bc BK7752 5⟩ (fun hHeld => ?_)
  clear hK K
  refine nrm (some 22) ?_
  refine pur 12 (some 23) #[true, true, true, true, true, true, true, true, true, true, true, true, true, false, false] (any_of HT_.out (by kernel_rfl)) ?_
  refine one_ (i := 13) (N := some 24) #[true, true, true, true, true, true, true, true, true, true, true, true, true, true, false] rfl rfl (one_of HT_.out (by kernel_rfl)) (by decide) (fun K hK => ?_)
  refine gc Try.func61 #[.agg #[.bool t7766, .int .i64 t7767, .int .i64 t7768, .bool t7769, .int .i64 t7770, .int .i64 t7771]] (clock_norm.calls k t7766 t7767 t7768 t7769 t7770 t7771 t7772 t7773 t7774 t7775 t7776 t7777 _ A7.out) ?_
  intro w30 hb
  replace BK7751 := kb BK7751 hb
  replace BK7752 := kb BK7752 hb
  replace BK7753 := kb BK7753 hb
  replace HB := kh HB hb
  (try clear hb)
  refine hK.out _ _ ⟨bc BK7751 0, bc BK7751 1, bc BK7751 2, bc BK7751 3, bc BK7751 4, bc BK7751 5, bc BK7752 0, bc BK7752 1, bc BK7752 2, bc BK7752 3, bc BK7752 4, bc BK7752 5⟩ (fun hHeld => ?_)
  clear hK K
  refine nrm (some 24) ?_
  refine one_ (i := 14) (N := none) #[true, true, true, true, true, true, true, true, true, true, true, true, true, true, true] rfl rfl (one_of HT_.out (by kernel_rfl)) (by decide) (fun K hK => ?_)
  have hs31 : w30.cell? ⟨gb7753, 0, none⟩ = some (.bool false) := bc BK7753 0
  have hfs31 := blk_frozen BK7753.out 0
  have hns31_0 := NB7751_7753.out
  have hns31_1 := NB7752_7753.out
  have hms31_0 := NB7753_7751.out
  have hms31_1 := NB7753_7752.out
  have hs32 : w30.cell? ⟨gb7753, 1, none⟩ = some (.int .i64 0) := bc BK7753 1
  have hfs32 := blk_frozen BK7753.out 1
  have hs33 : w30.cell? ⟨gb7753, 2, none⟩ = some (.int .i64 0) := bc BK7753 2
  have hfs33 := blk_frozen BK7753.out 2
  have hs34 : w30.cell? ⟨gb7753, 3, none⟩ = some (.bool false) := bc BK7753 3
  have hfs34 := blk_frozen BK7753.out 3
  have hs35 : w30.cell? ⟨gb7753, 4, none⟩ = some (.int .i64 0) := bc BK7753 4
  have hfs35 := blk_frozen BK7753.out 4
  have hs36 : w30.cell? ⟨gb7753, 5, none⟩ = some (.int .i64 0) := bc BK7753 5
  have hfs36 := blk_frozen BK7753.out 5
  refine skip_ (w1 := ?_) (by rfl) rfl ?_ ?_
  rotate_left
  · go_simp
    rfl
  refine hK.out _ _ ⟨cf hHeld.1, cf hHeld.2.1, cf hHeld.2.2.1, cf hHeld.2.2.2.1, cf hHeld.2.2.2.2.1, cf hHeld.2.2.2.2.2.1, cf hHeld.2.2.2.2.2.2.1, cf hHeld.2.2.2.2.2.2.2.1, cf hHeld.2.2.2.2.2.2.2.2.1, cf hHeld.2.2.2.2.2.2.2.2.2.1, cf hHeld.2.2.2.2.2.2.2.2.2.2.1, cf hHeld.2.2.2.2.2.2.2.2.2.2.2⟩ (fun hHeld => ?_)
  clear hK K
  refine done_ (done_of HT_.out (by kernel_rfl)) ?_
  try go_wp2
  refine bodyPost_ret (results_cell_row rfl _ _ gb7753 25 #[.bool t7772, .int .i64 t7773, .int .i64 t7774, .bool t7775, .int .i64 t7776, .int .i64 t7777] (0, 0) _ rfl (pK BK7753) Try.underlying25 rfl (by kernel_rfl)) rfl ?_
  exact ⟨pe, pl HB⟩
/-! ### clock_Meet: function 28 -/
def clock_Meet.f (k : Nat) (a0_0 : Bool) (a0_1 : Int) (a0_2 : Int) (a0_3 : Bool) (a0_4 : Int) (a0_5 : Int) (a1_0 : Bool) (a1_1 : Int) (a1_2 : Int) (a1_3 : Bool) (a1_4 : Int) (a1_5 : Int) : Option (Bool × Int × Int × Bool × Int × Int) := (clock_bothMeet.f k a0_0 a0_1 a0_2 a0_3 a0_4 a0_5 a1_0 a1_1 a1_2 a1_3 a1_4 a1_5).bind fun bt7904 => (some (bt7904.1, bt7904.2.1, bt7904.2.2.1, bt7904.2.2.2.1, bt7904.2.2.2.2.1, bt7904.2.2.2.2.2))
theorem clock_Meet.mono : ∀ a0 a1 a2 a3 a4 a5 a6 a7 a8 a9 a10 a11 k, LeO (clock_Meet.f k a0 a1 a2 a3 a4 a5 a6 a7 a8 a9 a10 a11) (clock_Meet.f (k + 1) a0 a1 a2 a3 a4 a5 a6 a7 a8 a9 a10 a11) := by
  intro a0 a1 a2 a3 a4 a5 a6 a7 a8 a9 a10 a11 k
  unfold clock_Meet.f
  repeat' first
      | (with_reducible exact clock_bothMeet.mono _ _ _ _ _ _ _ _ _ _ _ _ _)
      | (with_reducible exact LeO.refl _)
      | (with_reducible exact LeO.none _)
      | (with_reducible refine LeO.ite ?_ ?_)
      | (with_reducible refine LeO.bind ?_ (fun _ => ?_))
      | exact clock_bothMeet.mono _ _ _ _ _ _ _ _ _ _ _ _ _
      | exact LeO.none _
      | refine LeO.ite ?_ ?_
      | refine LeO.bind ?_ (fun _ => ?_)
set_option maxHeartbeats 8000000 in
set_option maxRecDepth 100000 in
theorem clock_Meet.calls (k : Nat) (a0_0 : Bool) (a0_1 : Int) (a0_2 : Int) (a0_3 : Bool) (a0_4 : Int) (a0_5 : Int) (a1_0 : Bool) (a1_1 : Int) (a1_2 : Int) (a1_3 : Bool) (a1_4 : Int) (a1_5 : Int) (r1 : Bool) (r2 : Int) (r3 : Int) (r4 : Bool) (r5 : Int) (r6 : Int) (w : World) (h : clock_Meet.f k a0_0 a0_1 a0_2 a0_3 a0_4 a0_5 a1_0 a1_1 a1_2 a1_3 a1_4 a1_5 = some (r1, r2, r3, r4, r5, r6)) :
    Calls Try.prog 28 #[.agg #[.bool a0_0, .int .i64 a0_1, .int .i64 a0_2, .bool a0_3, .int .i64 a0_4, .int .i64 a0_5], .agg #[.bool a1_0, .int .i64 a1_1, .int .i64 a1_2, .bool a1_3, .int .i64 a1_4, .int .i64 a1_5]] w fun e w' => e = .returned (.agg #[.bool r1, .int .i64 r2, .int .i64 r3, .bool r4, .int .i64 r5, .int .i64 r6]) ∧ Below w.heap.size w w' := by
  have hu25 := Try.underlying25
  have HB := Aside0.mk (Below.refl w.heap.size w)
  have H := h
  clear h
  unfold clock_Meet.f at H
  obtain ⟨⟨t7904, t7905, t7906, t7907, t7908, t7909⟩, A30, H⟩ := Option.bind_eq_some_iff.mp H
  have A3 := Aside0.mk A30
  clear A30
  (try dsimp only at H)
  simp only [Option.some.injEq, Prod.mk.injEq] at H
  obtain ⟨rfl, rfl, rfl, rfl, rfl, rfl⟩ := H
  go_enter Try.func28, Try.ntmps28
  go_wp2_with (first | ((with_reducible refine gate_dst (N := 2) rfl ?_); refine kx 2 #[.bool a0_0, .int .i64 a0_1, .int .i64 a0_2, .bool a0_3, .int .i64 a0_4, .int .i64 a0_5] 25 ?_; intro gb7901 hg w4 hbox hb; have BK7901 := Aside0.mk (hbox); have GW7901 := kg HB hg; have GE7901 := kg HB hg; replace HB := kh HB hb; clear hb hbox hg) | ((with_reducible refine gate_dst (N := 3) rfl ?_); refine kx 3 #[.bool a1_0, .int .i64 a1_1, .int .i64 a1_2, .bool a1_3, .int .i64 a1_4, .int .i64 a1_5] 25 ?_; intro gb7902 hg w5 hbox hb; have BK7902 := Aside0.mk (hbox); have GW7902 := kg HB hg; have GE7902 := kg HB hg; have NB7901_7902 := kn BK7901 hg; have NB7902_7901 := km BK7901 hg; replace BK7901 := kb BK7901 hb; replace HB := kh HB hb; clear hb hbox hg) | ((with_reducible refine gate_dst (N := 4) rfl ?_); refine kx 4 #[.bool false, .int .i64 0, .int .i64 0, .bool false, .int .i64 0, .int .i64 0] 25 ?_; intro gb7903 hg w6 hbox hb; have BK7903 := Aside0.mk (hbox); have GW7903 := kg HB hg; have GE7903 := kg HB hg; have NB7901_7903 := kn BK7901 hg; have NB7903_7901 := km BK7901 hg; have NB7902_7903 := kn BK7902 hg; have NB7903_7902 := km BK7902 hg; replace BK7901 := kb BK7901 hb; replace BK7902 := kb BK7902 hb; replace HB := kh HB hb; clear hb hbox hg; have hnb7 := NB7901_7902.out; have hnc7 := NB7902_7901.out; have hnb8 := NB7901_7903.out; have hnc8 := NB7903_7901.out; have ⟨hcz9_0, hcz9_1, hcz9_2, hcz9_3, hcz9_4, hcz9_5, hfz9_0, hfz9_1, hfz9_2, hfz9_3, hfz9_4, hfz9_5⟩ := kz6f BK7901; have hnb10 := NB7902_7903.out; have hnc10 := NB7903_7902.out; have ⟨hcz11_0, hcz11_1, hcz11_2, hcz11_3, hcz11_4, hcz11_5, hfz11_0, hfz11_1, hfz11_2, hfz11_3, hfz11_4, hfz11_5⟩ := kz6f BK7902) | ((with_reducible refine gate_callee (f := 65) rfl ?_); refine kc (some 7) Try.func65 #[.agg #[.bool a0_0, .int .i64 a0_1, .int .i64 a0_2, .bool a0_3, .int .i64 a0_4, .int .i64 a0_5], .agg #[.bool a1_0, .int .i64 a1_1, .int .i64 a1_2, .bool a1_3, .int .i64 a1_4, .int .i64 a1_5], .func (.func 45) #[] #[]] (clock_bothMeet.calls k a0_0 a0_1 a0_2 a0_3 a0_4 a0_5 a1_0 a1_1 a1_2 a1_3 a1_4 a1_5 t7904 t7905 t7906 t7907 t7908 t7909 _ A3.out) ?_; intro w12 hb; replace BK7901 := kb BK7901 hb; replace BK7902 := kb BK7902 hb; replace BK7903 := kb BK7903 hb; replace HB := kh HB hb; (try clear hb); have ⟨hcz13_0, hcz13_1, hcz13_2, hcz13_3, hcz13_4, hcz13_5, hfz13_0, hfz13_1, hfz13_2, hfz13_3, hfz13_4, hfz13_5⟩ := kz6f BK7903))
  refine bodyPost_ret (results_cell_row rfl _ _ gb7903 25 #[.bool t7904, .int .i64 t7905, .int .i64 t7906, .bool t7907, .int .i64 t7908, .int .i64 t7909] (0, 0) _ rfl (pK BK7903) Try.underlying25 rfl (by kernel_rfl)) rfl ?_
  exact ⟨pe, pl HB⟩
/-! ### clock_Tight: function 22 -/
def clock_Tight.f (k : Nat) (a0_0 : Bool) (a0_1 : Int) (a0_2 : Int) (a0_3 : Bool) (a0_4 : Int) (a0_5 : Int) (a1_0 : Bool) (a1_1 : Int) (a1_2 : Int) (a2_0 : Bool) (a2_1 : Int) (a2_2 : Int) : Option (Bool × Int × Int × Bool × Int × Int) := (clock_Of.f k a1_0 a1_1 a1_2 a2_0 a2_1 a2_2).bind fun bt8055 => ((clock_Meet.f k a0_0 a0_1 a0_2 a0_3 a0_4 a0_5 bt8055.1 bt8055.2.1 bt8055.2.2.1 bt8055.2.2.2.1 bt8055.2.2.2.2.1 bt8055.2.2.2.2.2).bind fun bt8061 => (some (bt8061.1, bt8061.2.1, bt8061.2.2.1, bt8061.2.2.2.1, bt8061.2.2.2.2.1, bt8061.2.2.2.2.2)))
theorem clock_Tight.mono : ∀ a0 a1 a2 a3 a4 a5 a6 a7 a8 a9 a10 a11 k, LeO (clock_Tight.f k a0 a1 a2 a3 a4 a5 a6 a7 a8 a9 a10 a11) (clock_Tight.f (k + 1) a0 a1 a2 a3 a4 a5 a6 a7 a8 a9 a10 a11) := by
  intro a0 a1 a2 a3 a4 a5 a6 a7 a8 a9 a10 a11 k
  unfold clock_Tight.f
  repeat' first
      | (with_reducible exact clock_Meet.mono _ _ _ _ _ _ _ _ _ _ _ _ _)
      | (with_reducible exact clock_Of.mono _ _ _ _ _ _ _)
      | (with_reducible exact LeO.refl _)
      | (with_reducible exact LeO.none _)
      | (with_reducible refine LeO.ite ?_ ?_)
      | (with_reducible refine LeO.bind ?_ (fun _ => ?_))
      | exact clock_Meet.mono _ _ _ _ _ _ _ _ _ _ _ _ _
      | exact clock_Of.mono _ _ _ _ _ _ _
      | exact LeO.none _
      | refine LeO.ite ?_ ?_
      | refine LeO.bind ?_ (fun _ => ?_)
set_option maxHeartbeats 8000000 in
set_option maxRecDepth 100000 in
theorem clock_Tight.calls (k : Nat) (a0_0 : Bool) (a0_1 : Int) (a0_2 : Int) (a0_3 : Bool) (a0_4 : Int) (a0_5 : Int) (a1_0 : Bool) (a1_1 : Int) (a1_2 : Int) (a2_0 : Bool) (a2_1 : Int) (a2_2 : Int) (r1 : Bool) (r2 : Int) (r3 : Int) (r4 : Bool) (r5 : Int) (r6 : Int) (w : World) (h : clock_Tight.f k a0_0 a0_1 a0_2 a0_3 a0_4 a0_5 a1_0 a1_1 a1_2 a2_0 a2_1 a2_2 = some (r1, r2, r3, r4, r5, r6)) :
    Calls Try.prog 22 #[.agg #[.bool a0_0, .int .i64 a0_1, .int .i64 a0_2, .bool a0_3, .int .i64 a0_4, .int .i64 a0_5], .agg #[.bool a1_0, .int .i64 a1_1, .int .i64 a1_2], .agg #[.bool a2_0, .int .i64 a2_1, .int .i64 a2_2]] w fun e w' => e = .returned (.agg #[.bool r1, .int .i64 r2, .int .i64 r3, .bool r4, .int .i64 r5, .int .i64 r6]) ∧ Below w.heap.size w w' := by
  have hu25 := Try.underlying25
  have hu23 := Try.underlying23
  have HB := Aside0.mk (Below.refl w.heap.size w)
  have H := h
  clear h
  unfold clock_Tight.f at H
  obtain ⟨⟨t8055, t8056, t8057, t8058, t8059, t8060⟩, A40, H⟩ := Option.bind_eq_some_iff.mp H
  have A4 := Aside0.mk A40
  clear A40
  (try dsimp only at H)
  obtain ⟨⟨t8061, t8062, t8063, t8064, t8065, t8066⟩, A50, H⟩ := Option.bind_eq_some_iff.mp H
  have A5 := Aside0.mk A50
  clear A50
  (try dsimp only at H)
  simp only [Option.some.injEq, Prod.mk.injEq] at H
  obtain ⟨rfl, rfl, rfl, rfl, rfl, rfl⟩ := H
  go_enter Try.func22, Try.ntmps22
  try go_wp2_with (first | ((with_reducible refine gate_dst (N := 3) rfl ?_); refine kx 3 #[.bool a0_0, .int .i64 a0_1, .int .i64 a0_2, .bool a0_3, .int .i64 a0_4, .int .i64 a0_5] 25 ?_; intro gb8051 hg w6 hbox hb; have BK8051 := Aside0.mk (hbox); have GW8051 := kg HB hg; have GE8051 := kg HB hg; replace HB := kh HB hb; clear hb hbox hg) | ((with_reducible refine gate_dst (N := 4) rfl ?_); refine kx 4 #[.bool a1_0, .int .i64 a1_1, .int .i64 a1_2] 23 ?_; intro gb8052 hg w7 hbox hb; have BK8052 := Aside0.mk (hbox); have GW8052 := kg HB hg; have GE8052 := kg HB hg; have NB8051_8052 := kn BK8051 hg; have NB8052_8051 := km BK8051 hg; replace BK8051 := kb BK8051 hb; replace HB := kh HB hb; clear hb hbox hg) | ((with_reducible refine gate_dst (N := 5) rfl ?_); refine kx 5 #[.bool a2_0, .int .i64 a2_1, .int .i64 a2_2] 23 ?_; intro gb8053 hg w8 hbox hb; have BK8053 := Aside0.mk (hbox); have GW8053 := kg HB hg; have GE8053 := kg HB hg; have NB8051_8053 := kn BK8051 hg; have NB8053_8051 := km BK8051 hg; have NB8052_8053 := kn BK8052 hg; have NB8053_8052 := km BK8052 hg; replace BK8051 := kb BK8051 hb; replace BK8052 := kb BK8052 hb; replace HB := kh HB hb; clear hb hbox hg) | ((with_reducible refine gate_dst (N := 6) rfl ?_); refine kx 6 #[.bool false, .int .i64 0, .int .i64 0, .bool false, .int .i64 0, .int .i64 0] 25 ?_; intro gb8054 hg w9 hbox hb; have BK8054 := Aside0.mk (hbox); have GW8054 := kg HB hg; have GE8054 := kg HB hg; have NB8051_8054 := kn BK8051 hg; have NB8054_8051 := km BK8051 hg; have NB8052_8054 := kn BK8052 hg; have NB8054_8052 := km BK8052 hg; have NB8053_8054 := kn BK8053 hg; have NB8054_8053 := km BK8053 hg; replace BK8051 := kb BK8051 hb; replace BK8052 := kb BK8052 hb; replace BK8053 := kb BK8053 hb; replace HB := kh HB hb; clear hb hbox hg))
  replace BK8051 := Aside0.mk (blk_drew BK8051.out)
  replace BK8052 := Aside0.mk (blk_drew BK8052.out)
  replace BK8053 := Aside0.mk (blk_drew BK8053.out)
  replace BK8054 := Aside0.mk (blk_drew BK8054.out)
  replace HB := Aside0.mk (below_drew1 HB.out)
  refine start_ (n := 6) (S := fun w' => w'.cell? ⟨gb8051, 0, none⟩ = some (.bool a0_0) ∧ w'.cell? ⟨gb8051, 1, none⟩ = some (.int .i64 a0_1) ∧ w'.cell? ⟨gb8051, 2, none⟩ = some (.int .i64 a0_2) ∧ w'.cell? ⟨gb8051, 3, none⟩ = some (.bool a0_3) ∧ w'.cell? ⟨gb8051, 4, none⟩ = some (.int .i64 a0_4) ∧ w'.cell? ⟨gb8051, 5, none⟩ = some (.int .i64 a0_5) ∧ w'.cell? ⟨gb8052, 0, none⟩ = some (.bool a1_0) ∧ w'.cell? ⟨gb8052, 1, none⟩ = some (.int .i64 a1_1) ∧ w'.cell? ⟨gb8052, 2, none⟩ = some (.int .i64 a1_2) ∧ w'.cell? ⟨gb8053, 0, none⟩ = some (.bool a2_0) ∧ w'.cell? ⟨gb8053, 1, none⟩ = some (.int .i64 a2_1) ∧ w'.cell? ⟨gb8053, 2, none⟩ = some (.int .i64 a2_2)) (ds := []) #[false, false, false, false, false, false] (by kernel_rfl) rfl rfl ⟨bc BK8051 0, bc BK8051 1, bc BK8051 2, bc BK8051 3, bc BK8051 4, bc BK8051 5, bc BK8052 0, bc BK8052 1, bc BK8052 2, bc BK8053 0, bc BK8053 1, bc BK8053 2⟩ (fun hHeld => ?_)
  generalize w9.drew = w10 at BK8051 BK8052 BK8053 BK8054 HB hHeld ⊢
  refine tak 0 (some 7) #[true, false, false, false, false, false] (by kernel_rfl) hHeld ?_
  refine tak 1 (some 8) #[true, true, false, false, false, false] (by kernel_rfl) hHeld ?_
  refine tak 2 (some 9) #[true, true, true, false, false, false] (by kernel_rfl) hHeld ?_
  refine one_ (i := 3) (N := some 10) #[true, true, true, true, false, false] rfl rfl (by kernel_rfl) (by decide) (fun K hK => ?_)
  refine gc Try.func15 #[.agg #[.bool a1_0, .int .i64 a1_1, .int .i64 a1_2], .agg #[.bool a2_0, .int .i64 a2_1, .int .i64 a2_2]] (clock_Of.calls k a1_0 a1_1 a1_2 a2_0 a2_1 a2_2 t8055 t8056 t8057 t8058 t8059 t8060 _ A4.out) ?_
  intro w11 hb
  replace BK8051 := kb BK8051 hb
  replace BK8052 := kb BK8052 hb
  replace BK8053 := kb BK8053 hb
  replace BK8054 := kb BK8054 hb
  replace HB := kh HB hb
  (try clear hb)
  refine hK.out _ _ ⟨bc BK8051 0, bc BK8051 1, bc BK8051 2, bc BK8051 3, bc BK8051 4, bc BK8051 5, bc BK8052 0, bc BK8052 1, bc BK8052 2, bc BK8053 0, bc BK8053 1, bc BK8053 2⟩ (fun hHeld => ?_)
  clear hK K
  refine nrm (some 10) ?_
  refine one_ (i := 4) (N := some 11) #[true, true, true, true, true, false] rfl rfl (by kernel_rfl) (by decide) (fun K hK => ?_)
  refine gc Try.func28 #[.agg #[.bool a0_0, .int .i64 a0_1, .int .i64 a0_2, .bool a0_3, .int .i64 a0_4, .int .i64 a0_5], .agg #[.bool t8055, .int .i64 t8056, .int .i64 t8057, .bool t8058, .int .i64 t8059, .int .i64 t8060]] (clock_Meet.calls k a0_0 a0_1 a0_2 a0_3 a0_4 a0_5 t8055 t8056 t8057 t8058 t8059 t8060 t8061 t8062 t8063 t8064 t8065 t8066 _ A5.out) ?_
  intro w12 hb
  replace BK8051 := kb BK8051 hb
  replace BK8052 := kb BK8052 hb
  replace BK8053 := kb BK8053 hb
  replace BK8054 := kb BK8054 hb
  replace HB := kh HB hb
  (try clear hb)
  refine hK.out _ _ ⟨bc BK8051 0, bc BK8051 1, bc BK8051 2, bc BK8051 3, bc BK8051 4, bc BK8051 5, bc BK8052 0, bc BK8052 1, bc BK8052 2, bc BK8053 0, bc BK8053 1, bc BK8053 2⟩ (fun hHeld => ?_)
  clear hK K
  refine nrm (some 11) ?_
  refine one_ (i := 5) (N := none) #[true, true, true, true, true, true] rfl rfl (by kernel_rfl) (by decide) (fun K hK => ?_)
  have hs13 : w12.cell? ⟨gb8054, 0, none⟩ = some (.bool false) := bc BK8054 0
  have hfs13 := blk_frozen BK8054.out 0
  have hns13_0 := NB8051_8054.out
  have hns13_1 := NB8052_8054.out
  have hns13_2 := NB8053_8054.out
  have hms13_0 := NB8054_8051.out
  have hms13_1 := NB8054_8052.out
  have hms13_2 := NB8054_8053.out
  have hs14 : w12.cell? ⟨gb8054, 1, none⟩ = some (.int .i64 0) := bc BK8054 1
  have hfs14 := blk_frozen BK8054.out 1
  have hs15 : w12.cell? ⟨gb8054, 2, none⟩ = some (.int .i64 0) := bc BK8054 2
  have hfs15 := blk_frozen BK8054.out 2
  have hs16 : w12.cell? ⟨gb8054, 3, none⟩ = some (.bool false) := bc BK8054 3
  have hfs16 := blk_frozen BK8054.out 3
  have hs17 : w12.cell? ⟨gb8054, 4, none⟩ = some (.int .i64 0) := bc BK8054 4
  have hfs17 := blk_frozen BK8054.out 4
  have hs18 : w12.cell? ⟨gb8054, 5, none⟩ = some (.int .i64 0) := bc BK8054 5
  have hfs18 := blk_frozen BK8054.out 5
  refine skip_ (w1 := ?_) (by rfl) rfl ?_ ?_
  rotate_left
  · go_simp
    rfl
  refine hK.out _ _ ⟨cf hHeld.1, cf hHeld.2.1, cf hHeld.2.2.1, cf hHeld.2.2.2.1, cf hHeld.2.2.2.2.1, cf hHeld.2.2.2.2.2.1, cf hHeld.2.2.2.2.2.2.1, cf hHeld.2.2.2.2.2.2.2.1, cf hHeld.2.2.2.2.2.2.2.2.1, cf hHeld.2.2.2.2.2.2.2.2.2.1, cf hHeld.2.2.2.2.2.2.2.2.2.2.1, cf hHeld.2.2.2.2.2.2.2.2.2.2.2⟩ (fun hHeld => ?_)
  clear hK K
  refine done_ (by kernel_rfl) ?_
  try go_wp2
  refine bodyPost_ret (results_cell_row rfl _ _ gb8054 25 #[.bool t8061, .int .i64 t8062, .int .i64 t8063, .bool t8064, .int .i64 t8065, .int .i64 t8066] (0, 0) _ rfl (pK BK8054) Try.underlying25 rfl (by kernel_rfl)) rfl ?_
  exact ⟨pe, pl HB⟩
/-! ### clock_Reduce: function 24 -/
def clock_Reduce.f (k : Nat) (a0_0 : Bool) (a0_1 : Int) (a0_2 : Int) (a1_0 : Bool) (a1_1 : Int) (a1_2 : Int) (a1_3 : Bool) (a1_4 : Int) (a1_5 : Int) (a2_0 : Bool) (a2_1 : Int) (a2_2 : Int) : Option (Bool × Int × Int) := (clock_norm.f k a1_0 a1_1 a1_2 a1_3 a1_4 a1_5).bind fun bt8205 => ((ints_Add.f k bt8205.1 bt8205.2.1 bt8205.2.2.1 a2_0 a2_1 a2_2).bind fun bt8211 => ((ints_Meet.f k a0_0 a0_1 a0_2 bt8211.1 bt8211.2.1 bt8211.2.2).bind fun bt8214 => ((ints_Sub.f k bt8205.2.2.2.1 bt8205.2.2.2.2.1 bt8205.2.2.2.2.2 a2_0 a2_1 a2_2).bind fun bt8217 => ((ints_Meet.f k bt8214.1 bt8214.2.1 bt8214.2.2 bt8217.1 bt8217.2.1 bt8217.2.2).bind fun bt8220 => (some (bt8220.1, bt8220.2.1, bt8220.2.2))))))
theorem clock_Reduce.mono : ∀ a0 a1 a2 a3 a4 a5 a6 a7 a8 a9 a10 a11 k, LeO (clock_Reduce.f k a0 a1 a2 a3 a4 a5 a6 a7 a8 a9 a10 a11) (clock_Reduce.f (k + 1) a0 a1 a2 a3 a4 a5 a6 a7 a8 a9 a10 a11) := by
  intro a0 a1 a2 a3 a4 a5 a6 a7 a8 a9 a10 a11 k
  unfold clock_Reduce.f
  repeat' first
      | (with_reducible exact clock_norm.mono _ _ _ _ _ _ _)
      | (with_reducible exact ints_Add.mono _ _ _ _ _ _ _)
      | (with_reducible exact ints_Meet.mono _ _ _ _ _ _ _)
      | (with_reducible exact ints_Sub.mono _ _ _ _ _ _ _)
      | (with_reducible exact LeO.refl _)
      | (with_reducible exact LeO.none _)
      | (with_reducible refine LeO.ite ?_ ?_)
      | (with_reducible refine LeO.bind ?_ (fun _ => ?_))
      | exact clock_norm.mono _ _ _ _ _ _ _
      | exact ints_Add.mono _ _ _ _ _ _ _
      | exact ints_Meet.mono _ _ _ _ _ _ _
      | exact ints_Sub.mono _ _ _ _ _ _ _
      | exact LeO.none _
      | refine LeO.ite ?_ ?_
      | refine LeO.bind ?_ (fun _ => ?_)
def clock_Reduce.T2 : Bool × List (List Nat × List Nat) := (true, [([], []), ([], []), ([1], [1]), ([], []), ([2, 3], [2, 3]), ([0, 4, 4], [0, 4]), ([], []), ([6], [6]), ([], []), ([7, 8, 5], [7, 8]), ([5, 9, 9], [5, 9]), ([10, 10, 0, 1, 2, 3, 4, 5, 6, 7, 8, 9, 10], [10])])
def clock_Reduce.B2 : List Nat := [0, 0, 2, 0, 14, 31, 0, 64, 0, 511, 1023, 2047]
theorem clock_Reduce.tab2 : rtab .any (opsOf Try.f24 2) = clock_Reduce.T2 := by kernel_rfl
theorem clock_Reduce.bits2 : waitsOk clock_Reduce.T2.2 clock_Reduce.B2 = true := by kernel_rfl
set_option maxHeartbeats 8000000 in
set_option maxRecDepth 100000 in
theorem clock_Reduce.calls (k : Nat) (a0_0 : Bool) (a0_1 : Int) (a0_2 : Int) (a1_0 : Bool) (a1_1 : Int) (a1_2 : Int) (a1_3 : Bool) (a1_4 : Int) (a1_5 : Int) (a2_0 : Bool) (a2_1 : Int) (a2_2 : Int) (r1 : Bool) (r2 : Int) (r3 : Int) (w : World) (h : clock_Reduce.f k a0_0 a0_1 a0_2 a1_0 a1_1 a1_2 a1_3 a1_4 a1_5 a2_0 a2_1 a2_2 = some (r1, r2, r3)) :
    Calls Try.prog 24 #[.agg #[.bool a0_0, .int .i64 a0_1, .int .i64 a0_2], .agg #[.bool a1_0, .int .i64 a1_1, .int .i64 a1_2, .bool a1_3, .int .i64 a1_4, .int .i64 a1_5], .agg #[.bool a2_0, .int .i64 a2_1, .int .i64 a2_2]] w fun e w' => e = .returned (.agg #[.bool r1, .int .i64 r2, .int .i64 r3]) ∧ Below w.heap.size w w' := by
  have hu23 := Try.underlying23
  have hu25 := Try.underlying25
  have HB := Aside0.mk (Below.refl w.heap.size w)
  have H := h
  clear h
  unfold clock_Reduce.f at H
  obtain ⟨⟨t8205, t8206, t8207, t8208, t8209, t8210⟩, A40, H⟩ := Option.bind_eq_some_iff.mp H
  have A4 := Aside0.mk A40
  clear A40
  (try dsimp only at H)
  obtain ⟨⟨t8211, t8212, t8213⟩, A50, H⟩ := Option.bind_eq_some_iff.mp H
  have A5 := Aside0.mk A50
  clear A50
  (try dsimp only at H)
  obtain ⟨⟨t8214, t8215, t8216⟩, A60, H⟩ := Option.bind_eq_some_iff.mp H
  have A6 := Aside0.mk A60
  clear A60
  (try dsimp only at H)
  obtain ⟨⟨t8217, t8218, t8219⟩, A70, H⟩ := Option.bind_eq_some_iff.mp H
  have A7 := Aside0.mk A70
  clear A70
  (try dsimp only at H)
  obtain ⟨⟨t8220, t8221, t8222⟩, A80, H⟩ := Option.bind_eq_some_iff.mp H
  have A8 := Aside0.mk A80
  clear A80
  (try dsimp only at H)
  simp only [Option.some.injEq, Prod.mk.injEq] at H
  obtain ⟨rfl, rfl, rfl⟩ := H
  go_enter Try.func24, Try.ntmps24
  try go_wp2_with (first | ((with_reducible refine gate_dst (N := 3) rfl ?_); refine kx 3 #[.bool a0_0, .int .i64 a0_1, .int .i64 a0_2] 23 ?_; intro gb8201 hg w9 hbox hb; have BK8201 := Aside0.mk (hbox); have GW8201 := kg HB hg; have GE8201 := kg HB hg; replace HB := kh HB hb; clear hb hbox hg) | ((with_reducible refine gate_dst (N := 4) rfl ?_); refine kx 4 #[.bool a1_0, .int .i64 a1_1, .int .i64 a1_2, .bool a1_3, .int .i64 a1_4, .int .i64 a1_5] 25 ?_; intro gb8202 hg w10 hbox hb; have BK8202 := Aside0.mk (hbox); have GW8202 := kg HB hg; have GE8202 := kg HB hg; have NB8201_8202 := kn BK8201 hg; have NB8202_8201 := km BK8201 hg; replace BK8201 := kb BK8201 hb; replace HB := kh HB hb; clear hb hbox hg) | ((with_reducible refine gate_dst (N := 5) rfl ?_); refine kx 5 #[.bool a2_0, .int .i64 a2_1, .int .i64 a2_2] 23 ?_; intro gb8203 hg w11 hbox hb; have BK8203 := Aside0.mk (hbox); have GW8203 := kg HB hg; have GE8203 := kg HB hg; have NB8201_8203 := kn BK8201 hg; have NB8203_8201 := km BK8201 hg; have NB8202_8203 := kn BK8202 hg; have NB8203_8202 := km BK8202 hg; replace BK8201 := kb BK8201 hb; replace BK8202 := kb BK8202 hb; replace HB := kh HB hb; clear hb hbox hg) | ((with_reducible refine gate_dst (N := 6) rfl ?_); refine kx 6 #[.bool false, .int .i64 0, .int .i64 0] 23 ?_; intro gb8204 hg w12 hbox hb; have BK8204 := Aside0.mk (hbox); have GW8204 := kg HB hg; have GE8204 := kg HB hg; have NB8201_8204 := kn BK8201 hg; have NB8204_8201 := km BK8201 hg; have NB8202_8204 := kn BK8202 hg; have NB8204_8202 := km BK8202 hg; have NB8203_8204 := kn BK8203 hg; have NB8204_8203 := km BK8203 hg; replace BK8201 := kb BK8201 hb; replace BK8202 := kb BK8202 hb; replace BK8203 := kb BK8203 hb; replace HB := kh HB hb; clear hb hbox hg; have hnb13 := NB8202_8201.out; have hnc13 := NB8201_8202.out; have hnb14 := NB8202_8203.out; have hnc14 := NB8203_8202.out; have hnb15 := NB8202_8204.out; have hnc15 := NB8204_8202.out; have ⟨hcz16_0, hcz16_1, hcz16_2, hcz16_3, hcz16_4, hcz16_5, hfz16_0, hfz16_1, hfz16_2, hfz16_3, hfz16_4, hfz16_5⟩ := kz6f BK8202) | ((with_reducible refine gate_callee (f := 61) rfl ?_); refine kc (some 8) Try.func61 #[.agg #[.bool a1_0, .int .i64 a1_1, .int .i64 a1_2, .bool a1_3, .int .i64 a1_4, .int .i64 a1_5]] (clock_norm.calls k a1_0 a1_1 a1_2 a1_3 a1_4 a1_5 t8205 t8206 t8207 t8208 t8209 t8210 _ A4.out) ?_; intro w17 hb; replace BK8201 := kb BK8201 hb; replace BK8202 := kb BK8202 hb; replace BK8203 := kb BK8203 hb; replace BK8204 := kb BK8204 hb; replace HB := kh HB hb; (try clear hb); have ⟨hcz18_0, hcz18_1, hcz18_2, hcz18_3, hcz18_4, hcz18_5, hfz18_0, hfz18_1, hfz18_2, hfz18_3, hfz18_4, hfz18_5⟩ := kz6f BK8202))
  generalize hW_ : ((((((w17.setCell ⟨gb8202, 0, none⟩ (.bool t8205)).setCell ⟨gb8202, 1, none⟩ (.int .i64 t8206)).setCell ⟨gb8202, 2, none⟩ (.int .i64 t8207)).setCell ⟨gb8202, 3, none⟩ (.bool t8208)).setCell ⟨gb8202, 4, none⟩ (.int .i64 t8209)).setCell ⟨gb8202, 5, none⟩ (.int .i64 t8210)) = w19
  replace BK8201 := kr BK8201 hW_
  replace BK8202 := kr (o' := .cells #[.bool t8205, .int .i64 t8206, .int .i64 t8207, .bool t8208, .int .i64 t8209, .int .i64 t8210] 25 (0, 0)) BK8202 hW_
  replace BK8203 := kr BK8203 hW_
  replace BK8204 := kr BK8204 hW_
  replace HB := kq HB hW_
  clear hW_
  replace BK8201 := Aside0.mk (blk_drew BK8201.out)
  replace BK8202 := Aside0.mk (blk_drew BK8202.out)
  replace BK8203 := Aside0.mk (blk_drew BK8203.out)
  replace BK8204 := Aside0.mk (blk_drew BK8204.out)
  replace HB := Aside0.mk (below_drew1 HB.out)
  refine start_ (n := 12) (S := fun w' => w'.cell? ⟨gb8201, 0, none⟩ = some (.bool a0_0) ∧ w'.cell? ⟨gb8201, 1, none⟩ = some (.int .i64 a0_1) ∧ w'.cell? ⟨gb8201, 2, none⟩ = some (.int .i64 a0_2) ∧ w'.cell? ⟨gb8202, 0, none⟩ = some (.bool t8205) ∧ w'.cell? ⟨gb8202, 1, none⟩ = some (.int .i64 t8206) ∧ w'.cell? ⟨gb8202, 2, none⟩ = some (.int .i64 t8207) ∧ w'.cell? ⟨gb8202, 3, none⟩ = some (.bool t8208) ∧ w'.cell? ⟨gb8202, 4, none⟩ = some (.int .i64 t8209) ∧ w'.cell? ⟨gb8202, 5, none⟩ = some (.int .i64 t8210) ∧ w'.cell? ⟨gb8203, 0, none⟩ = some (.bool a2_0) ∧ w'.cell? ⟨gb8203, 1, none⟩ = some (.int .i64 a2_1) ∧ w'.cell? ⟨gb8203, 2, none⟩ = some (.int .i64 a2_2)) (ds := []) #[false, false, false, false, false, false, false, false, false, false, false, false] (by kernel_rfl) rfl rfl ⟨bc BK8201 0, bc BK8201 1, bc BK8201 2, bc BK8202 0, bc BK8202 1, bc BK8202 2, bc BK8202 3, bc BK8202 4, bc BK8202 5, bc BK8203 0, bc BK8203 1, bc BK8203 2⟩ (fun hHeld => ?_); refine with_tabW clock_Reduce.tab2 clock_Reduce.bits2 (fun HT_ HW_ => ?_)
  generalize w19.drew = w20 at BK8201 BK8202 BK8203 BK8204 HB hHeld ⊢
  refine pur 1 (some 10) #[false, true, false, false, false, false, false, false, false, false, false, false] (any_of HT_.out (by kernel_rfl)) ?_
  refine pur 6 (some 15) #[false, true, false, false, false, false, true, false, false, false, false, false] (any_of HT_.out (by kernel_rfl)) ?_
  refine tak 0 (some 9) #[true, true, false, false, false, false, true, false, false, false, false, false] (take_ofW HT_.out HW_.out (by kernel_rfl)) hHeld ?_
  refine tak 2 (some 11) #[true, true, true, false, false, false, true, false, false, false, false, false] (take_ofW HT_.out HW_.out (by kernel_rfl)) hHeld ?_
  refine tak 3 (some 12) #[true, true, true, true, false, false, true, false, false, false, false, false] (take_ofW HT_.out HW_.out (by kernel_rfl)) hHeld ?_
  refine tak 7 (some 16) #[true, true, true, true, false, false, true, true, false, false, false, false] (take_ofW HT_.out HW_.out (by kernel_rfl)) hHeld ?_
  refine tak 8 (some 17) #[true, true, true, true, false, false, true, true, true, false, false, false] (take_ofW HT_.out HW_.out (by kernel_rfl)) hHeld ?_
  refine one_ (i := 4) (N := some 13) #[true, true, true, true, true, false, true, true, true, false, false, false] rfl rfl (one_of HT_.out (by kernel_rfl)) (by decide) (fun K hK => ?_)
  refine gc Try.func51 #[.agg #[.bool t8205, .int .i64 t8206, .int .i64 t8207], .agg #[.bool a2_0, .int .i64 a2_1, .int .i64 a2_2]] (ints_Add.calls k t8205 t8206 t8207 a2_0 a2_1 a2_2 t8211 t8212 t8213 _ A5.out) ?_
  intro w21 hb
  replace BK8201 := kb BK8201 hb
  replace BK8202 := kb BK8202 hb
  replace BK8203 := kb BK8203 hb
  replace BK8204 := kb BK8204 hb
  replace HB := kh HB hb
  (try clear hb)
  refine hK.out _ _ ⟨bc BK8201 0, bc BK8201 1, bc BK8201 2, bc BK8202 0, bc BK8202 1, bc BK8202 2, bc BK8202 3, bc BK8202 4, bc BK8202 5, bc BK8203 0, bc BK8203 1, bc BK8203 2⟩ (fun hHeld => ?_)
  clear hK K
  refine nrm (some 13) ?_
  refine one_ (i := 5) (N := some 14) #[true, true, true, true, true, true, true, true, true, false, false, false] rfl rfl (one_of HT_.out (by kernel_rfl)) (by decide) (fun K hK => ?_)
  refine gc Try.func45 #[.agg #[.bool a0_0, .int .i64 a0_1, .int .i64 a0_2], .agg #[.bool t8211, .int .i64 t8212, .int .i64 t8213]] (ints_Meet.calls k a0_0 a0_1 a0_2 t8211 t8212 t8213 t8214 t8215 t8216 _ A6.out) ?_
  intro w22 hb
  replace BK8201 := kb BK8201 hb
  replace BK8202 := kb BK8202 hb
  replace BK8203 := kb BK8203 hb
  replace BK8204 := kb BK8204 hb
  replace HB := kh HB hb
  (try clear hb)
  refine hK.out _ _ ⟨bc BK8201 0, bc BK8201 1, bc BK8201 2, bc BK8202 0, bc BK8202 1, bc BK8202 2, bc BK8202 3, bc BK8202 4, bc BK8202 5, bc BK8203 0, bc BK8203 1, bc BK8203 2⟩ (fun hHeld => ?_)
  clear hK K
  refine nrm (some 14) ?_
  refine one_ (i := 9) (N := some 18) #[true, true, true, true, true, true, true, true, true, true, false, false] rfl rfl (one_of HT_.out (by kernel_rfl)) (by decide) (fun K hK => ?_)
  refine gc Try.func52 #[.agg #[.bool t8208, .int .i64 t8209, .int .i64 t8210], .agg #[.bool a2_0, .int .i64 a2_1, .int .i64 a2_2]] (ints_Sub.calls k t8208 t8209 t8210 a2_0 a2_1 a2_2 t8217 t8218 t8219 _ A7.out) ?_
  intro w23 hb
  replace BK8201 := kb BK8201 hb
  replace BK8202 := kb BK8202 hb
  replace BK8203 := kb BK8203 hb
  replace BK8204 := kb BK8204 hb
  replace HB := kh HB hb
  (try clear hb)
  refine hK.out _ _ ⟨bc BK8201 0, bc BK8201 1, bc BK8201 2, bc BK8202 0, bc BK8202 1, bc BK8202 2, bc BK8202 3, bc BK8202 4, bc BK8202 5, bc BK8203 0, bc BK8203 1, bc BK8203 2⟩ (fun hHeld => ?_)
  clear hK K
  refine nrm (some 18) ?_
  refine one_ (i := 10) (N := some 19) #[true, true, true, true, true, true, true, true, true, true, true, false] rfl rfl (one_of HT_.out (by kernel_rfl)) (by decide) (fun K hK => ?_)
  refine gc Try.func45 #[.agg #[.bool t8214, .int .i64 t8215, .int .i64 t8216], .agg #[.bool t8217, .int .i64 t8218, .int .i64 t8219]] (ints_Meet.calls k t8214 t8215 t8216 t8217 t8218 t8219 t8220 t8221 t8222 _ A8.out) ?_
  intro w24 hb
  replace BK8201 := kb BK8201 hb
  replace BK8202 := kb BK8202 hb
  replace BK8203 := kb BK8203 hb
  replace BK8204 := kb BK8204 hb
  replace HB := kh HB hb
  (try clear hb)
  refine hK.out _ _ ⟨bc BK8201 0, bc BK8201 1, bc BK8201 2, bc BK8202 0, bc BK8202 1, bc BK8202 2, bc BK8202 3, bc BK8202 4, bc BK8202 5, bc BK8203 0, bc BK8203 1, bc BK8203 2⟩ (fun hHeld => ?_)
  clear hK K
  refine nrm (some 19) ?_
  refine one_ (i := 11) (N := none) #[true, true, true, true, true, true, true, true, true, true, true, true] rfl rfl (one_of HT_.out (by kernel_rfl)) (by decide) (fun K hK => ?_)
  have hs25 : w24.cell? ⟨gb8204, 0, none⟩ = some (.bool false) := bc BK8204 0
  have hfs25 := blk_frozen BK8204.out 0
  have hns25_0 := NB8201_8204.out
  have hns25_1 := NB8202_8204.out
  have hns25_2 := NB8203_8204.out
  have hms25_0 := NB8204_8201.out
  have hms25_1 := NB8204_8202.out
  have hms25_2 := NB8204_8203.out
  have hs26 : w24.cell? ⟨gb8204, 1, none⟩ = some (.int .i64 0) := bc BK8204 1
  have hfs26 := blk_frozen BK8204.out 1
  have hs27 : w24.cell? ⟨gb8204, 2, none⟩ = some (.int .i64 0) := bc BK8204 2
  have hfs27 := blk_frozen BK8204.out 2
  refine skip_ (w1 := ?_) (by rfl) rfl ?_ ?_
  rotate_left
  · go_simp
    rfl
  refine hK.out _ _ ⟨cf hHeld.1, cf hHeld.2.1, cf hHeld.2.2.1, cf hHeld.2.2.2.1, cf hHeld.2.2.2.2.1, cf hHeld.2.2.2.2.2.1, cf hHeld.2.2.2.2.2.2.1, cf hHeld.2.2.2.2.2.2.2.1, cf hHeld.2.2.2.2.2.2.2.2.1, cf hHeld.2.2.2.2.2.2.2.2.2.1, cf hHeld.2.2.2.2.2.2.2.2.2.2.1, cf hHeld.2.2.2.2.2.2.2.2.2.2.2⟩ (fun hHeld => ?_)
  clear hK K
  refine done_ (done_of HT_.out (by kernel_rfl)) ?_
  try go_wp2
  refine bodyPost_ret (results_cell_row rfl _ _ gb8204 23 #[.bool t8220, .int .i64 t8221, .int .i64 t8222] (0, 0) _ rfl (pK BK8204) Try.underlying23 rfl (by kernel_rfl)) rfl ?_
  exact ⟨pe, pl HB⟩
end Go.Proofs.Ytinmgnlofininaa.PAll
end
