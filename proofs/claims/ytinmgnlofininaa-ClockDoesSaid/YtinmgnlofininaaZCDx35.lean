/- Functions of the print, turned to this claim. -/
import Derived.Test.YtinmgnlofininaaZCDW
import Derived.Test.YtinmgnlofininaaZCDx0
import Derived.Test.YtinmgnlofininaaZCDx34
section
namespace Go.Proofs.Ytinmgnlofininaa.PAll
open Go.RowKit Go.Proofs.YtinmgnlofininaaW.PrintWords Go.Proofs.YtinmgnlofininaaW.PrintLast Go.Proofs.YtinmgnlofininaaW.PrintMore
attribute [local go_sem] max2_int min2_int max_two min_two max_three min_three max_four min_four   -- for this text's walks alone
set_option linter.unusedVariables false
set_option linter.unusedSimpArgs false
/-! ### flyballref21_Of: function 16 -/
def flyballref21_Of.f (k : Nat) (a0_0 : Bool) (a0_1 : Int) (a0_2 : Int) (a1_0 : Bool) (a1_1 : Int) (a1_2 : Int) : Option (Bool × Int × Int × Bool × Int × Int) := (flyballref21_Neg.f a1_0 a1_1 a1_2).bind fun bt10904 => ((flyballref21_Add.f k a0_0 a0_1 a0_2 bt10904.1 bt10904.2.1 bt10904.2.2).bind fun bt10907 => ((flyballref21_Add.f k a0_0 a0_1 a0_2 a1_0 a1_1 a1_2).bind fun bt10910 => ((flyballref21_Norm.f bt10907.1 bt10907.2.1 bt10907.2.2 bt10910.1 bt10910.2.1 bt10910.2.2).bind fun bt10913 => (some (bt10913.1, bt10913.2.1, bt10913.2.2.1, bt10913.2.2.2.1, bt10913.2.2.2.2.1, bt10913.2.2.2.2.2)))))
theorem flyballref21_Of.mono : ∀ a0 a1 a2 a3 a4 a5 k, LeO (flyballref21_Of.f k a0 a1 a2 a3 a4 a5) (flyballref21_Of.f (k + 1) a0 a1 a2 a3 a4 a5) := by
  intro a0 a1 a2 a3 a4 a5 k
  unfold flyballref21_Of.f
  repeat' first
      | (with_reducible exact flyballref21_Add.mono _ _ _ _ _ _ _)
      | (with_reducible exact LeO.refl _)
      | (with_reducible exact LeO.none _)
      | (with_reducible refine LeO.ite ?_ ?_)
      | (with_reducible refine LeO.bind ?_ (fun _ => ?_))
      | exact flyballref21_Add.mono _ _ _ _ _ _ _
      | exact LeO.none _
      | refine LeO.ite ?_ ?_
      | refine LeO.bind ?_ (fun _ => ?_)
def flyballref21_Of.T1 : Bool × List (List Nat × List Nat) := (true, [([], []), ([], []), ([1], [1]), ([0, 2, 2], [0, 2]), ([], []), ([], []), ([4, 5, 3], [4, 5]), ([3, 6], [3, 6]), ([7, 6], [7]), ([8, 8, 0, 1, 2, 3, 4, 5, 6, 7, 8], [8])])
def flyballref21_Of.B1 : List Nat := [0, 0, 2, 7, 0, 0, 63, 127, 255, 511]
theorem flyballref21_Of.tab1 : rtab .any (opsOf Try.f16 1) = flyballref21_Of.T1 := by kernel_rfl
theorem flyballref21_Of.bits1 : waitsOk flyballref21_Of.T1.2 flyballref21_Of.B1 = true := by kernel_rfl
set_option maxHeartbeats 8000000 in
set_option maxRecDepth 100000 in
theorem flyballref21_Of.calls (k : Nat) (a0_0 : Bool) (a0_1 : Int) (a0_2 : Int) (a1_0 : Bool) (a1_1 : Int) (a1_2 : Int) (r1 : Bool) (r2 : Int) (r3 : Int) (r4 : Bool) (r5 : Int) (r6 : Int) (w : World) (h : flyballref21_Of.f k a0_0 a0_1 a0_2 a1_0 a1_1 a1_2 = some (r1, r2, r3, r4, r5, r6)) :
    Calls Try.prog 16 #[.agg #[.bool a0_0, .int .i64 a0_1, .int .i64 a0_2], .agg #[.bool a1_0, .int .i64 a1_1, .int .i64 a1_2]] w fun e w' => e = .returned (.agg #[.bool r1, .int .i64 r2, .int .i64 r3, .bool r4, .int .i64 r5, .int .i64 r6]) ∧ Below w.heap.size w w' := by
  have hu23 := Try.underlying23
  have hu29 := Try.underlying29
  have HB := Aside0.mk (Below.refl w.heap.size w)
  have H := h
  clear h
  unfold flyballref21_Of.f at H
  obtain ⟨⟨t10904, t10905, t10906⟩, A30, H⟩ := Option.bind_eq_some_iff.mp H
  have A3 := Aside0.mk A30
  clear A30
  (try dsimp only at H)
  obtain ⟨⟨t10907, t10908, t10909⟩, A40, H⟩ := Option.bind_eq_some_iff.mp H
  have A4 := Aside0.mk A40
  clear A40
  (try dsimp only at H)
  obtain ⟨⟨t10910, t10911, t10912⟩, A50, H⟩ := Option.bind_eq_some_iff.mp H
  have A5 := Aside0.mk A50
  clear A50
  (try dsimp only at H)
  obtain ⟨⟨t10913, t10914, t10915, t10916, t10917, t10918⟩, A60, H⟩ := Option.bind_eq_some_iff.mp H
  have A6 := Aside0.mk A60
  clear A60
  (try dsimp only at H)
  simp only [Option.some.injEq, Prod.mk.injEq] at H
  obtain ⟨rfl, rfl, rfl, rfl, rfl, rfl⟩ := H
  go_enter Try.func16, Try.ntmps16
  try go_wp2_with (first | ((with_reducible refine gate_dst (N := 2) rfl ?_); refine kx 2 #[.bool a0_0, .int .i64 a0_1, .int .i64 a0_2] 23 ?_; intro gb10901 hg w7 hbox hb; have BK10901 := Aside0.mk (hbox); have GW10901 := kg HB hg; have GE10901 := kg HB hg; replace HB := kh HB hb; clear hb hbox hg) | ((with_reducible refine gate_dst (N := 3) rfl ?_); refine kx 3 #[.bool a1_0, .int .i64 a1_1, .int .i64 a1_2] 23 ?_; intro gb10902 hg w8 hbox hb; have BK10902 := Aside0.mk (hbox); have GW10902 := kg HB hg; have GE10902 := kg HB hg; have NB10901_10902 := kn BK10901 hg; have NB10902_10901 := km BK10901 hg; replace BK10901 := kb BK10901 hb; replace HB := kh HB hb; clear hb hbox hg) | ((with_reducible refine gate_dst (N := 4) rfl ?_); refine kx 4 #[.bool false, .int .i64 0, .int .i64 0, .bool false, .int .i64 0, .int .i64 0] 29 ?_; intro gb10903 hg w9 hbox hb; have BK10903 := Aside0.mk (hbox); have GW10903 := kg HB hg; have GE10903 := kg HB hg; have NB10901_10903 := kn BK10901 hg; have NB10903_10901 := km BK10901 hg; have NB10902_10903 := kn BK10902 hg; have NB10903_10902 := km BK10902 hg; replace BK10901 := kb BK10901 hb; replace BK10902 := kb BK10902 hb; replace HB := kh HB hb; clear hb hbox hg))
  replace BK10901 := Aside0.mk (blk_drew BK10901.out)
  replace BK10902 := Aside0.mk (blk_drew BK10902.out)
  replace BK10903 := Aside0.mk (blk_drew BK10903.out)
  replace HB := Aside0.mk (below_drew1 HB.out)
  refine start_ (n := 10) (S := fun w' => w'.cell? ⟨gb10901, 0, none⟩ = some (.bool a0_0) ∧ w'.cell? ⟨gb10901, 1, none⟩ = some (.int .i64 a0_1) ∧ w'.cell? ⟨gb10901, 2, none⟩ = some (.int .i64 a0_2) ∧ w'.cell? ⟨gb10902, 0, none⟩ = some (.bool a1_0) ∧ w'.cell? ⟨gb10902, 1, none⟩ = some (.int .i64 a1_1) ∧ w'.cell? ⟨gb10902, 2, none⟩ = some (.int .i64 a1_2)) (ds := []) #[false, false, false, false, false, false, false, false, false, false] (by kernel_rfl) rfl rfl ⟨bc BK10901 0, bc BK10901 1, bc BK10901 2, bc BK10902 0, bc BK10902 1, bc BK10902 2⟩ (fun hHeld => ?_); refine with_tabW flyballref21_Of.tab1 flyballref21_Of.bits1 (fun HT_ HW_ => ?_)
  generalize w9.drew = w10 at BK10901 BK10902 BK10903 HB hHeld ⊢
  refine tak 0 (some 5) #[true, false, false, false, false, false, false, false, false, false] (take_ofW HT_.out HW_.out (by kernel_rfl)) hHeld ?_
  refine tak 1 (some 6) #[true, true, false, false, false, false, false, false, false, false] (take_ofW HT_.out HW_.out (by kernel_rfl)) hHeld ?_
  refine tak 4 (some 9) #[true, true, false, false, true, false, false, false, false, false] (take_ofW HT_.out HW_.out (by kernel_rfl)) hHeld ?_
  refine tak 5 (some 10) #[true, true, false, false, true, true, false, false, false, false] (take_ofW HT_.out HW_.out (by kernel_rfl)) hHeld ?_
  refine one_ (i := 2) (N := some 7) #[true, true, true, false, true, true, false, false, false, false] rfl rfl (one_of HT_.out (by kernel_rfl)) (by decide) (fun K hK => ?_)
  refine gc Try.func64 #[.agg #[.bool a1_0, .int .i64 a1_1, .int .i64 a1_2]] (flyballref21_Neg.calls a1_0 a1_1 a1_2 t10904 t10905 t10906 _ A3.out) ?_
  intro w11 hb
  replace BK10901 := kb BK10901 hb
  replace BK10902 := kb BK10902 hb
  replace BK10903 := kb BK10903 hb
  replace HB := kh HB hb
  (try clear hb)
  refine hK.out _ _ ⟨bc BK10901 0, bc BK10901 1, bc BK10901 2, bc BK10902 0, bc BK10902 1, bc BK10902 2⟩ (fun hHeld => ?_)
  clear hK K
  refine nrm (some 7) ?_
  refine one_ (i := 3) (N := some 8) #[true, true, true, true, true, true, false, false, false, false] rfl rfl (one_of HT_.out (by kernel_rfl)) (by decide) (fun K hK => ?_)
  refine gc Try.func63 #[.agg #[.bool a0_0, .int .i64 a0_1, .int .i64 a0_2], .agg #[.bool t10904, .int .i64 t10905, .int .i64 t10906]] (flyballref21_Add.calls k a0_0 a0_1 a0_2 t10904 t10905 t10906 t10907 t10908 t10909 _ A4.out) ?_
  intro w12 hb
  replace BK10901 := kb BK10901 hb
  replace BK10902 := kb BK10902 hb
  replace BK10903 := kb BK10903 hb
  replace HB := kh HB hb
  (try clear hb)
  refine hK.out _ _ ⟨bc BK10901 0, bc BK10901 1, bc BK10901 2, bc BK10902 0, bc BK10902 1, bc BK10902 2⟩ (fun hHeld => ?_)
  clear hK K
  refine nrm (some 8) ?_
  refine one_ (i := 6) (N := some 11) #[true, true, true, true, true, true, true, false, false, false] rfl rfl (one_of HT_.out (by kernel_rfl)) (by decide) (fun K hK => ?_)
  refine gc Try.func63 #[.agg #[.bool a0_0, .int .i64 a0_1, .int .i64 a0_2], .agg #[.bool a1_0, .int .i64 a1_1, .int .i64 a1_2]] (flyballref21_Add.calls k a0_0 a0_1 a0_2 a1_0 a1_1 a1_2 t10910 t10911 t10912 _ A5.out) ?_
  intro w13 hb
  replace BK10901 := kb BK10901 hb
  replace BK10902 := kb BK10902 hb
  replace BK10903 := kb BK10903 hb
  replace HB := kh HB hb
  (try clear hb)
  refine hK.out _ _ ⟨bc BK10901 0, bc BK10901 1, bc BK10901 2, bc BK10902 0, bc BK10902 1, bc BK10902 2⟩ (fun hHeld => ?_)
  clear hK K
  refine nrm (some 11) ?_
  refine pur 7 (some 12) #[true, true, true, true, true, true, true, true, false, false] (any_of HT_.out (by kernel_rfl)) ?_
  refine one_ (i := 8) (N := some 13) #[true, true, true, true, true, true, true, true, true, false] rfl rfl (one_of HT_.out (by kernel_rfl)) (by decide) (fun K hK => ?_)
  refine gc Try.func62 #[.agg #[.bool t10907, .int .i64 t10908, .int .i64 t10909, .bool t10910, .int .i64 t10911, .int .i64 t10912]] (flyballref21_Norm.calls t10907 t10908 t10909 t10910 t10911 t10912 t10913 t10914 t10915 t10916 t10917 t10918 _ A6.out) ?_
  intro w14 hb
  replace BK10901 := kb BK10901 hb
  replace BK10902 := kb BK10902 hb
  replace BK10903 := kb BK10903 hb
  replace HB := kh HB hb
  (try clear hb)
  refine hK.out _ _ ⟨bc BK10901 0, bc BK10901 1, bc BK10901 2, bc BK10902 0, bc BK10902 1, bc BK10902 2⟩ (fun hHeld => ?_)
  clear hK K
  refine nrm (some 13) ?_
  refine one_ (i := 9) (N := none) #[true, true, true, true, true, true, true, true, true, true] rfl rfl (one_of HT_.out (by kernel_rfl)) (by decide) (fun K hK => ?_)
  have hs15 : w14.cell? ⟨gb10903, 0, none⟩ = some (.bool false) := bc BK10903 0
  have hfs15 := blk_frozen BK10903.out 0
  have hns15_0 := NB10901_10903.out
  have hns15_1 := NB10902_10903.out
  have hms15_0 := NB10903_10901.out
  have hms15_1 := NB10903_10902.out
  have hs16 : w14.cell? ⟨gb10903, 1, none⟩ = some (.int .i64 0) := bc BK10903 1
  have hfs16 := blk_frozen BK10903.out 1
  have hs17 : w14.cell? ⟨gb10903, 2, none⟩ = some (.int .i64 0) := bc BK10903 2
  have hfs17 := blk_frozen BK10903.out 2
  have hs18 : w14.cell? ⟨gb10903, 3, none⟩ = some (.bool false) := bc BK10903 3
  have hfs18 := blk_frozen BK10903.out 3
  have hs19 : w14.cell? ⟨gb10903, 4, none⟩ = some (.int .i64 0) := bc BK10903 4
  have hfs19 := blk_frozen BK10903.out 4
  have hs20 : w14.cell? ⟨gb10903, 5, none⟩ = some (.int .i64 0) := bc BK10903 5
  have hfs20 := blk_frozen BK10903.out 5
  refine skip_ (w1 := ?_) (by rfl) rfl ?_ ?_
  rotate_left
  · go_simp
    rfl
  refine hK.out _ _ ⟨cf hHeld.1, cf hHeld.2.1, cf hHeld.2.2.1, cf hHeld.2.2.2.1, cf hHeld.2.2.2.2.1, cf hHeld.2.2.2.2.2⟩ (fun hHeld => ?_)
  clear hK K
  refine done_ (done_of HT_.out (by kernel_rfl)) ?_
  try go_wp2
  refine bodyPost_ret (results_cell_row rfl _ _ gb10903 29 #[.bool t10913, .int .i64 t10914, .int .i64 t10915, .bool t10916, .int .i64 t10917, .int .i64 t10918] (0, 0) _ rfl (pK BK10903) Try.underlying29 rfl (by kernel_rfl)) rfl ?_
  exact ⟨pe, pl HB⟩
/-! ### flyballref21_Move: function 18 -/
def flyballref21_Move.f (k : Nat) (a0_0 : Bool) (a0_1 : Int) (a0_2 : Int) (a0_3 : Bool) (a0_4 : Int) (a0_5 : Int) (a1_0 : Bool) (a1_1 : Int) (a1_2 : Int) : Option (Bool × Int × Int × Bool × Int × Int) := (flyballref21_Norm.f a0_0 a0_1 a0_2 a0_3 a0_4 a0_5).bind fun bt11054 => ((flyballref21_Add.f k bt11054.1 bt11054.2.1 bt11054.2.2.1 a1_0 a1_1 a1_2).bind fun bt11061 => ((flyballref21_Add.f k bt11054.2.2.2.1 bt11054.2.2.2.2.1 bt11054.2.2.2.2.2 a1_0 a1_1 a1_2).bind fun bt11064 => ((flyballref21_Norm.f bt11061.1 bt11061.2.1 bt11061.2.2 bt11064.1 bt11064.2.1 bt11064.2.2).bind fun bt11067 => (some (bt11067.1, bt11067.2.1, bt11067.2.2.1, bt11067.2.2.2.1, bt11067.2.2.2.2.1, bt11067.2.2.2.2.2)))))
theorem flyballref21_Move.mono : ∀ a0 a1 a2 a3 a4 a5 a6 a7 a8 k, LeO (flyballref21_Move.f k a0 a1 a2 a3 a4 a5 a6 a7 a8) (flyballref21_Move.f (k + 1) a0 a1 a2 a3 a4 a5 a6 a7 a8) := by
  intro a0 a1 a2 a3 a4 a5 a6 a7 a8 k
  unfold flyballref21_Move.f
  repeat' first
      | (with_reducible exact flyballref21_Add.mono _ _ _ _ _ _ _)
      | (with_reducible exact LeO.refl _)
      | (with_reducible exact LeO.none _)
      | (with_reducible refine LeO.ite ?_ ?_)
      | (with_reducible refine LeO.bind ?_ (fun _ => ?_))
      | exact flyballref21_Add.mono _ _ _ _ _ _ _
      | exact LeO.none _
      | refine LeO.ite ?_ ?_
      | refine LeO.bind ?_ (fun _ => ?_)
def flyballref21_Move.T2 : Bool × List (List Nat × List Nat) := (true, [([], []), ([0], [0]), ([], []), ([1, 2], [1, 2]), ([], []), ([4], [4]), ([], []), ([5, 6, 3], [5, 6]), ([3, 7], [3, 7]), ([8, 7], [8]), ([9, 9, 0, 1, 2, 3, 4, 5, 6, 7, 8, 9], [9])])
def flyballref21_Move.B2 : List Nat := [0, 1, 0, 7, 0, 16, 0, 127, 255, 511, 1023]
theorem flyballref21_Move.tab2 : rtab .any (opsOf Try.f18 2) = flyballref21_Move.T2 := by kernel_rfl
theorem flyballref21_Move.bits2 : waitsOk flyballref21_Move.T2.2 flyballref21_Move.B2 = true := by kernel_rfl
set_option maxHeartbeats 8000000 in
set_option maxRecDepth 100000 in
theorem flyballref21_Move.calls (k : Nat) (a0_0 : Bool) (a0_1 : Int) (a0_2 : Int) (a0_3 : Bool) (a0_4 : Int) (a0_5 : Int) (a1_0 : Bool) (a1_1 : Int) (a1_2 : Int) (r1 : Bool) (r2 : Int) (r3 : Int) (r4 : Bool) (r5 : Int) (r6 : Int) (w : World) (h : flyballref21_Move.f k a0_0 a0_1 a0_2 a0_3 a0_4 a0_5 a1_0 a1_1 a1_2 = some (r1, r2, r3, r4, r5, r6)) :
    Calls Try.prog 18 #[.agg #[.bool a0_0, .int .i64 a0_1, .int .i64 a0_2, .bool a0_3, .int .i64 a0_4, .int .i64 a0_5], .agg #[.bool a1_0, .int .i64 a1_1, .int .i64 a1_2]] w fun e w' => e = .returned (.agg #[.bool r1, .int .i64 r2, .int .i64 r3, .bool r4, .int .i64 r5, .int .i64 r6]) ∧ Below w.heap.size w w' := by
  have hu29 := Try.underlying29
  have hu23 := Try.underlying23
  have HB := Aside0.mk (Below.refl w.heap.size w)
  have H := h
  clear h
  unfold flyballref21_Move.f at H
  obtain ⟨⟨t11054, t11055, t11056, t11057, t11058, t11059⟩, A30, H⟩ := Option.bind_eq_some_iff.mp H
  have A3 := Aside0.mk A30
  clear A30
  (try dsimp only at H)
  obtain ⟨⟨t11061, t11062, t11063⟩, A40, H⟩ := Option.bind_eq_some_iff.mp H
  have A4 := Aside0.mk A40
  clear A40
  (try dsimp only at H)
  obtain ⟨⟨t11064, t11065, t11066⟩, A50, H⟩ := Option.bind_eq_some_iff.mp H
  have A5 := Aside0.mk A50
  clear A50
  (try dsimp only at H)
  obtain ⟨⟨t11067, t11068, t11069, t11070, t11071, t11072⟩, A60, H⟩ := Option.bind_eq_some_iff.mp H
  have A6 := Aside0.mk A60
  clear A60
  (try dsimp only at H)
  simp only [Option.some.injEq, Prod.mk.injEq] at H
  obtain ⟨rfl, rfl, rfl, rfl, rfl, rfl⟩ := H
  go_enter Try.func18, Try.ntmps18
  try go_wp2_with (first | ((with_reducible refine gate_dst (N := 2) rfl ?_); refine kx 2 #[.bool a0_0, .int .i64 a0_1, .int .i64 a0_2, .bool a0_3, .int .i64 a0_4, .int .i64 a0_5] 29 ?_; intro gb11051 hg w7 hbox hb; have BK11051 := Aside0.mk (hbox); have GW11051 := kg HB hg; have GE11051 := kg HB hg; replace HB := kh HB hb; clear hb hbox hg) | ((with_reducible refine gate_dst (N := 3) rfl ?_); refine kx 3 #[.bool a1_0, .int .i64 a1_1, .int .i64 a1_2] 23 ?_; intro gb11052 hg w8 hbox hb; have BK11052 := Aside0.mk (hbox); have GW11052 := kg HB hg; have GE11052 := kg HB hg; have NB11051_11052 := kn BK11051 hg; have NB11052_11051 := km BK11051 hg; replace BK11051 := kb BK11051 hb; replace HB := kh HB hb; clear hb hbox hg) | ((with_reducible refine gate_dst (N := 4) rfl ?_); refine kx 4 #[.bool false, .int .i64 0, .int .i64 0, .bool false, .int .i64 0, .int .i64 0] 29 ?_; intro gb11053 hg w9 hbox hb; have BK11053 := Aside0.mk (hbox); have GW11053 := kg HB hg; have GE11053 := kg HB hg; have NB11051_11053 := kn BK11051 hg; have NB11053_11051 := km BK11051 hg; have NB11052_11053 := kn BK11052 hg; have NB11053_11052 := km BK11052 hg; replace BK11051 := kb BK11051 hb; replace BK11052 := kb BK11052 hb; replace HB := kh HB hb; clear hb hbox hg; have hnb10 := NB11051_11052.out; have hnc10 := NB11052_11051.out; have hnb11 := NB11051_11053.out; have hnc11 := NB11053_11051.out; have ⟨hcz12_0, hcz12_1, hcz12_2, hcz12_3, hcz12_4, hcz12_5, hfz12_0, hfz12_1, hfz12_2, hfz12_3, hfz12_4, hfz12_5⟩ := kz6f BK11051) | ((with_reducible refine gate_callee (f := 62) rfl ?_); refine kc (some 7) Try.func62 #[.agg #[.bool a0_0, .int .i64 a0_1, .int .i64 a0_2, .bool a0_3, .int .i64 a0_4, .int .i64 a0_5]] (flyballref21_Norm.calls a0_0 a0_1 a0_2 a0_3 a0_4 a0_5 t11054 t11055 t11056 t11057 t11058 t11059 _ A3.out) ?_; intro w13 hb; replace BK11051 := kb BK11051 hb; replace BK11052 := kb BK11052 hb; replace BK11053 := kb BK11053 hb; replace HB := kh HB hb; (try clear hb)) | ((with_reducible refine gate_dst (N := 5) rfl ?_); refine kx 5 #[.bool false, .int .i64 0, .int .i64 0, .bool false, .int .i64 0, .int .i64 0] 29 ?_; intro gb11060 hg w14 hbox hb; have BK11060 := Aside0.mk (hbox); have GW11060 := kg HB hg; have GE11060 := kg HB hg; have NB11051_11060 := kn BK11051 hg; have NB11060_11051 := km BK11051 hg; have NB11052_11060 := kn BK11052 hg; have NB11060_11052 := km BK11052 hg; have NB11053_11060 := kn BK11053 hg; have NB11060_11053 := km BK11053 hg; replace BK11051 := kb BK11051 hb; replace BK11052 := kb BK11052 hb; replace BK11053 := kb BK11053 hb; replace HB := kh HB hb; clear hb hbox hg; have hnb15 := NB11060_11051.out; have hnc15 := NB11051_11060.out; have hnb16 := NB11060_11052.out; have hnc16 := NB11052_11060.out; have hnb17 := NB11060_11053.out; have hnc17 := NB11053_11060.out; have ⟨hcz18_0, hcz18_1, hcz18_2, hcz18_3, hcz18_4, hcz18_5, hfz18_0, hfz18_1, hfz18_2, hfz18_3, hfz18_4, hfz18_5⟩ := kz6f BK11060))
  generalize hW_ : ((((((w14.setCell ⟨gb11060, 0, none⟩ (.bool t11054)).setCell ⟨gb11060, 1, none⟩ (.int .i64 t11055)).setCell ⟨gb11060, 2, none⟩ (.int .i64 t11056)).setCell ⟨gb11060, 3, none⟩ (.bool t11057)).setCell ⟨gb11060, 4, none⟩ (.int .i64 t11058)).setCell ⟨gb11060, 5, none⟩ (.int .i64 t11059)) = w19
  replace BK11051 := kr BK11051 hW_
  replace BK11052 := kr BK11052 hW_
  replace BK11053 := kr BK11053 hW_
  replace BK11060 := kr (o' := .cells #[.bool t11054, .int .i64 t11055, .int .i64 t11056, .bool t11057, .int .i64 t11058, .int .i64 t11059] 29 (0, 0)) BK11060 hW_
  replace HB := kq HB hW_
  clear hW_
  replace BK11051 := Aside0.mk (blk_drew BK11051.out)
  replace BK11052 := Aside0.mk (blk_drew BK11052.out)
  replace BK11053 := Aside0.mk (blk_drew BK11053.out)
  replace BK11060 := Aside0.mk (blk_drew BK11060.out)
  replace HB := Aside0.mk (below_drew1 HB.out)
  refine start_ (n := 11) (S := fun w' => w'.cell? ⟨gb11060, 0, none⟩ = some (.bool t11054) ∧ w'.cell? ⟨gb11060, 1, none⟩ = some (.int .i64 t11055) ∧ w'.cell? ⟨gb11060, 2, none⟩ = some (.int .i64 t11056) ∧ w'.cell? ⟨gb11060, 3, none⟩ = some (.bool t11057) ∧ w'.cell? ⟨gb11060, 4, none⟩ = some (.int .i64 t11058) ∧ w'.cell? ⟨gb11060, 5, none⟩ = some (.int .i64 t11059) ∧ w'.cell? ⟨gb11052, 0, none⟩ = some (.bool a1_0) ∧ w'.cell? ⟨gb11052, 1, none⟩ = some (.int .i64 a1_1) ∧ w'.cell? ⟨gb11052, 2, none⟩ = some (.int .i64 a1_2)) (ds := []) #[false, false, false, false, false, false, false, false, false, false, false] (by kernel_rfl) rfl rfl ⟨bc BK11060 0, bc BK11060 1, bc BK11060 2, bc BK11060 3, bc BK11060 4, bc BK11060 5, bc BK11052 0, bc BK11052 1, bc BK11052 2⟩ (fun hHeld => ?_); refine with_tabW flyballref21_Move.tab2 flyballref21_Move.bits2 (fun HT_ HW_ => ?_)
  generalize w19.drew = w20 at BK11051 BK11052 BK11053 BK11060 HB hHeld ⊢
  refine pur 0 (some 8) #[true, false, false, false, false, false, false, false, false, false, false] (any_of HT_.out (by kernel_rfl)) ?_
  refine pur 4 (some 12) #[true, false, false, false, true, false, false, false, false, false, false] (any_of HT_.out (by kernel_rfl)) ?_
  refine tak 1 (some 9) #[true, true, false, false, true, false, false, false, false, false, false] (take_ofW HT_.out HW_.out (by kernel_rfl)) hHeld ?_
  refine tak 2 (some 10) #[true, true, true, false, true, false, false, false, false, false, false] (take_ofW HT_.out HW_.out (by kernel_rfl)) hHeld ?_
  refine tak 5 (some 13) #[true, true, true, false, true, true, false, false, false, false, false] (take_ofW HT_.out HW_.out (by kernel_rfl)) hHeld ?_
  refine tak 6 (some 14) #[true, true, true, false, true, true, true, false, false, false, false] (take_ofW HT_.out HW_.out (by kernel_rfl)) hHeld ?_
  refine one_ (i := 3) (N := some 11) #[true, true, true, true, true, true, true, false, false, false, false] rfl rfl (one_of HT_.out (by kernel_rfl)) (by decide) (fun K hK => ?_)
  refine gc Try.func63 #[.agg #[.bool t11054, .int .i64 t11055, .int .i64 t11056], .agg #[.bool a1_0, .int .i64 a1_1, .int .i64 a1_2]] (flyballref21_Add.calls k t11054 t11055 t11056 a1_0 a1_1 a1_2 t11061 t11062 t11063 _ A4.out) ?_
  intro w21 hb
  replace BK11051 := kb BK11051 hb
  replace BK11052 := kb BK11052 hb
  replace BK11053 := kb BK11053 hb
  replace BK11060 := kb BK11060 hb
  replace HB := kh HB hb
  (try clear hb)
  refine hK.out _ _ ⟨bc BK11060 0, bc BK11060 1, bc BK11060 2, bc BK11060 3, bc BK11060 4, bc BK11060 5, bc BK11052 0, bc BK11052 1, bc BK11052 2⟩ (fun hHeld => ?_)
  clear hK K
  refine nrm (some 11) ?_
  refine one_ (i := 7) (N := some 15) #[true, true, true, true, true, true, true, true, false, false, false] rfl rfl (one_of HT_.out (by kernel_rfl)) (by decide) (fun K hK => ?_)
  refine gc Try.func63 #[.agg #[.bool t11057, .int .i64 t11058, .int .i64 t11059], .agg #[.bool a1_0, .int .i64 a1_1, .int .i64 a1_2]] (flyballref21_Add.calls k t11057 t11058 t11059 a1_0 a1_1 a1_2 t11064 t11065 t11066 _ A5.out) ?_
  intro w22 hb
  replace BK11051 := kb BK11051 hb
  replace BK11052 := kb BK11052 hb
  replace BK11053 := kb BK11053 hb
  replace BK11060 := kb BK11060 hb
  replace HB := kh HB hb
  (try clear hb)
  refine hK.out _ _ ⟨bc BK11060 0, bc BK11060 1, bc BK11060 2, bc BK11060 3, bc BK11060 4, bc BK11060 5, bc BK11052 0, bc BK11052 1, bc BK11052 2⟩ (fun hHeld => ?_)
  clear hK K
  refine nrm (some 15) ?_
  refine pur 8 (some 16) #[true, true, true, true, true, true, true, true, true, false, false] (any_of HT_.out (by kernel_rfl)) ?_
  refine one_ (i := 9) (N := some 17) #[true, true, true, true, true, true, true, true, true, true, false] rfl rfl (one_of HT_.out (by kernel_rfl)) (by decide) (fun K hK => ?_)
  refine gc Try.func62 #[.agg #[.bool t11061, .int .i64 t11062, .int .i64 t11063, .bool t11064, .int .i64 t11065, .int .i64 t11066]] (flyballref21_Norm.calls t11061 t11062 t11063 t11064 t11065 t11066 t11067 t11068 t11069 t11070 t11071 t11072 _ A6.out) ?_
  intro w23 hb
  replace BK11051 := kb BK11051 hb
  replace BK11052 := kb BK11052 hb
  replace BK11053 := kb BK11053 hb
  replace BK11060 := kb BK11060 hb
  replace HB := kh HB hb
  (try clear hb)
  refine hK.out _ _ ⟨bc BK11060 0, bc BK11060 1, bc BK11060 2, bc BK11060 3, bc BK11060 4, bc BK11060 5, bc BK11052 0, bc BK11052 1, bc BK11052 2⟩ (fun hHeld => ?_)
  clear hK K
  refine nrm (some 17) ?_
  refine one_ (i := 10) (N := none) #[true, true, true, true, true, true, true, true, true, true, true] rfl rfl (one_of HT_.out (by kernel_rfl)) (by decide) (fun K hK => ?_)
  have hs24 : w23.cell? ⟨gb11053, 0, none⟩ = some (.bool false) := bc BK11053 0
  have hfs24 := blk_frozen BK11053.out 0
  have hns24_0 := NB11051_11053.out
  have hns24_1 := NB11052_11053.out
  have hns24_3 := NB11060_11053.out
  have hms24_0 := NB11053_11051.out
  have hms24_1 := NB11053_11052.out
  have hms24_3 := NB11053_11060.out
  have hs25 : w23.cell? ⟨gb11053, 1, none⟩ = some (.int .i64 0) := bc BK11053 1
  have hfs25 := blk_frozen BK11053.out 1
  have hs26 : w23.cell? ⟨gb11053, 2, none⟩ = some (.int .i64 0) := bc BK11053 2
  have hfs26 := blk_frozen BK11053.out 2
  have hs27 : w23.cell? ⟨gb11053, 3, none⟩ = some (.bool false) := bc BK11053 3
  have hfs27 := blk_frozen BK11053.out 3
  have hs28 : w23.cell? ⟨gb11053, 4, none⟩ = some (.int .i64 0) := bc BK11053 4
  have hfs28 := blk_frozen BK11053.out 4
  have hs29 : w23.cell? ⟨gb11053, 5, none⟩ = some (.int .i64 0) := bc BK11053 5
  have hfs29 := blk_frozen BK11053.out 5
  refine skip_ (w1 := ?_) (by rfl) rfl ?_ ?_
  rotate_left
  · go_simp
    rfl
  refine hK.out _ _ ⟨cf hHeld.1, cf hHeld.2.1, cf hHeld.2.2.1, cf hHeld.2.2.2.1, cf hHeld.2.2.2.2.1, cf hHeld.2.2.2.2.2.1, cf hHeld.2.2.2.2.2.2.1, cf hHeld.2.2.2.2.2.2.2.1, cf hHeld.2.2.2.2.2.2.2.2⟩ (fun hHeld => ?_)
  clear hK K
  refine done_ (done_of HT_.out (by kernel_rfl)) ?_
  try go_wp2
  refine bodyPost_ret (results_cell_row rfl _ _ gb11053 29 #[.bool t11067, .int .i64 t11068, .int .i64 t11069, .bool t11070, .int .i64 t11071, .int .i64 t11072] (0, 0) _ rfl (pK BK11053) Try.underlying29 rfl (by kernel_rfl)) rfl ?_
  exact ⟨pe, pl HB⟩
/-! ### flyballlaw21_of: function 19 -/
def flyballlaw21_of.f (a0_0 : Bool) (a0_1 : Int) (a0_2 : Int) (a0_3 : Bool) (a0_4 : Int) (a0_5 : Int) : Option (Bool × Int × Int × Bool × Int × Int) := some (a0_0, a0_1, a0_2, a0_3, a0_4, a0_5)
set_option maxHeartbeats 8000000 in
set_option maxRecDepth 100000 in
theorem flyballlaw21_of.calls (a0_0 : Bool) (a0_1 : Int) (a0_2 : Int) (a0_3 : Bool) (a0_4 : Int) (a0_5 : Int) (r1 : Bool) (r2 : Int) (r3 : Int) (r4 : Bool) (r5 : Int) (r6 : Int) (w : World) (h : flyballlaw21_of.f a0_0 a0_1 a0_2 a0_3 a0_4 a0_5 = some (r1, r2, r3, r4, r5, r6)) :
    Calls Try.prog 19 #[.agg #[.bool a0_0, .int .i64 a0_1, .int .i64 a0_2, .bool a0_3, .int .i64 a0_4, .int .i64 a0_5]] w fun e w' => e = .returned (.agg #[.bool r1, .int .i64 r2, .int .i64 r3, .bool r4, .int .i64 r5, .int .i64 r6]) ∧ Below w.heap.size w w' := by
  have hu25 := Try.underlying25
  have hu29 := Try.underlying29
  have hu23 := Try.underlying23
  have HB := Aside0.mk (Below.refl w.heap.size w)
  have H := h
  clear h
  unfold flyballlaw21_of.f at H
  simp only [Option.some.injEq, Prod.mk.injEq] at H
  obtain ⟨rfl, rfl, rfl, rfl, rfl, rfl⟩ := H
  go_enter Try.func19, Try.ntmps19
  go_wp2_with (first | ((with_reducible refine gate_dst (N := 1) rfl ?_); refine kx 1 #[.bool a0_0, .int .i64 a0_1, .int .i64 a0_2, .bool a0_3, .int .i64 a0_4, .int .i64 a0_5] 25 ?_; intro gb11201 hg w2 hbox hb; have BK11201 := Aside0.mk (hbox); have GW11201 := kg HB hg; have GE11201 := kg HB hg; replace HB := kh HB hb; clear hb hbox hg) | ((with_reducible refine gate_dst (N := 2) rfl ?_); refine kx 2 #[.bool false, .int .i64 0, .int .i64 0, .bool false, .int .i64 0, .int .i64 0] 29 ?_; intro gb11202 hg w3 hbox hb; have BK11202 := Aside0.mk (hbox); have GW11202 := kg HB hg; have GE11202 := kg HB hg; have NB11201_11202 := kn BK11201 hg; have NB11202_11201 := km BK11201 hg; replace BK11201 := kb BK11201 hb; replace HB := kh HB hb; clear hb hbox hg; have hnb4 := NB11201_11202.out; have hnc4 := NB11202_11201.out; have ⟨hcz5_0, hcz5_1, hcz5_2, hcz5_3, hcz5_4, hcz5_5, hfz5_0, hfz5_1, hfz5_2, hfz5_3, hfz5_4, hfz5_5⟩ := kz6f BK11201; have ⟨hcz6_0, hcz6_1, hcz6_2, hcz6_3, hcz6_4, hcz6_5, hfz6_0, hfz6_1, hfz6_2, hfz6_3, hfz6_4, hfz6_5⟩ := kz6f BK11202))
  refine bodyPost_ret (results_cell_row rfl _ _ gb11202 29 #[.bool a0_0, .int .i64 a0_1, .int .i64 a0_2, .bool a0_3, .int .i64 a0_4, .int .i64 a0_5] (0, 0) _ rfl (pK BK11202) Try.underlying29 rfl (by kernel_rfl)) rfl ?_
  exact ⟨pe, pl HB⟩
/-! ### flyballref21_Tick: function 21 -/
def flyballref21_Tick.f (k : Nat) (a0_0 : Bool) (a0_1 : Int) (a0_2 : Int) (a0_3 : Bool) (a0_4 : Int) (a0_5 : Int) : Option (Bool × Int × Int × Bool × Int × Int) := (flyballref21_Norm.f a0_0 a0_1 a0_2 a0_3 a0_4 a0_5).bind fun bt11353 => ((flyballref21_Add.f k bt11353.1 bt11353.2.1 bt11353.2.2.1 false (-1) (-1)).bind fun bt11360 => ((flyballref21_Add.f k bt11353.2.2.2.1 bt11353.2.2.2.2.1 bt11353.2.2.2.2.2 false 1 1).bind fun bt11363 => ((flyballref21_Norm.f bt11360.1 bt11360.2.1 bt11360.2.2 bt11363.1 bt11363.2.1 bt11363.2.2).bind fun bt11366 => (some (bt11366.1, bt11366.2.1, bt11366.2.2.1, bt11366.2.2.2.1, bt11366.2.2.2.2.1, bt11366.2.2.2.2.2)))))
theorem flyballref21_Tick.mono : ∀ a0 a1 a2 a3 a4 a5 k, LeO (flyballref21_Tick.f k a0 a1 a2 a3 a4 a5) (flyballref21_Tick.f (k + 1) a0 a1 a2 a3 a4 a5) := by
  intro a0 a1 a2 a3 a4 a5 k
  unfold flyballref21_Tick.f
  repeat' first
      | (with_reducible exact flyballref21_Add.mono _ _ _ _ _ _ _)
      | (with_reducible exact LeO.refl _)
      | (with_reducible exact LeO.none _)
      | (with_reducible refine LeO.ite ?_ ?_)
      | (with_reducible refine LeO.bind ?_ (fun _ => ?_))
      | exact flyballref21_Add.mono _ _ _ _ _ _ _
      | exact LeO.none _
      | refine LeO.ite ?_ ?_
      | refine LeO.bind ?_ (fun _ => ?_)
def flyballref21_Tick.T2 : Bool × List (List Nat × List Nat) := (true, [([], []), ([0], [0]), ([], []), ([1, 2], [1, 2]), ([], []), ([4], [4]), ([], []), ([5, 6, 3], [5, 6]), ([3, 7], [3, 7]), ([8, 7], [8]), ([9, 9, 0, 1, 2, 3, 4, 5, 6, 7, 8, 9], [9])])
def flyballref21_Tick.B2 : List Nat := [0, 1, 0, 7, 0, 16, 0, 127, 255, 511, 1023]
theorem flyballref21_Tick.tab2 : rtab .any (opsOf Try.f21 2) = flyballref21_Tick.T2 := by kernel_rfl
theorem flyballref21_Tick.bits2 : waitsOk flyballref21_Tick.T2.2 flyballref21_Tick.B2 = true := by kernel_rfl
set_option maxHeartbeats 8000000 in
set_option maxRecDepth 100000 in
theorem flyballref21_Tick.calls (k : Nat) (a0_0 : Bool) (a0_1 : Int) (a0_2 : Int) (a0_3 : Bool) (a0_4 : Int) (a0_5 : Int) (r1 : Bool) (r2 : Int) (r3 : Int) (r4 : Bool) (r5 : Int) (r6 : Int) (w : World) (h : flyballref21_Tick.f k a0_0 a0_1 a0_2 a0_3 a0_4 a0_5 = some (r1, r2, r3, r4, r5, r6)) :
    Calls Try.prog 21 #[.agg #[.bool a0_0, .int .i64 a0_1, .int .i64 a0_2, .bool a0_3, .int .i64 a0_4, .int .i64 a0_5]] w fun e w' => e = .returned (.agg #[.bool r1, .int .i64 r2, .int .i64 r3, .bool r4, .int .i64 r5, .int .i64 r6]) ∧ Below w.heap.size w w' := by
  have hu29 := Try.underlying29
  have hu23 := Try.underlying23
  have HB := Aside0.mk (Below.refl w.heap.size w)
  have H := h
  clear h
  unfold flyballref21_Tick.f at H
  obtain ⟨⟨t11353, t11354, t11355, t11356, t11357, t11358⟩, A20, H⟩ := Option.bind_eq_some_iff.mp H
  have A2 := Aside0.mk A20
  clear A20
  (try dsimp only at H)
  obtain ⟨⟨t11360, t11361, t11362⟩, A30, H⟩ := Option.bind_eq_some_iff.mp H
  have A3 := Aside0.mk A30
  clear A30
  (try dsimp only at H)
  obtain ⟨⟨t11363, t11364, t11365⟩, A40, H⟩ := Option.bind_eq_some_iff.mp H
  have A4 := Aside0.mk A40
  clear A40
  (try dsimp only at H)
  obtain ⟨⟨t11366, t11367, t11368, t11369, t11370, t11371⟩, A50, H⟩ := Option.bind_eq_some_iff.mp H
  have A5 := Aside0.mk A50
  clear A50
  (try dsimp only at H)
  simp only [Option.some.injEq, Prod.mk.injEq] at H
  obtain ⟨rfl, rfl, rfl, rfl, rfl, rfl⟩ := H
  go_enter Try.func21, Try.ntmps21
  try go_wp2_with (first | ((with_reducible refine gate_dst (N := 1) rfl ?_); refine kx 1 #[.bool a0_0, .int .i64 a0_1, .int .i64 a0_2, .bool a0_3, .int .i64 a0_4, .int .i64 a0_5] 29 ?_; intro gb11351 hg w6 hbox hb; have BK11351 := Aside0.mk (hbox); have GW11351 := kg HB hg; have GE11351 := kg HB hg; replace HB := kh HB hb; clear hb hbox hg) | ((with_reducible refine gate_dst (N := 2) rfl ?_); refine kx 2 #[.bool false, .int .i64 0, .int .i64 0, .bool false, .int .i64 0, .int .i64 0] 29 ?_; intro gb11352 hg w7 hbox hb; have BK11352 := Aside0.mk (hbox); have GW11352 := kg HB hg; have GE11352 := kg HB hg; have NB11351_11352 := kn BK11351 hg; have NB11352_11351 := km BK11351 hg; replace BK11351 := kb BK11351 hb; replace HB := kh HB hb; clear hb hbox hg; have hnb8 := NB11351_11352.out; have hnc8 := NB11352_11351.out; have ⟨hcz9_0, hcz9_1, hcz9_2, hcz9_3, hcz9_4, hcz9_5, hfz9_0, hfz9_1, hfz9_2, hfz9_3, hfz9_4, hfz9_5⟩ := kz6f BK11351) | ((with_reducible refine gate_callee (f := 62) rfl ?_); refine kc (some 5) Try.func62 #[.agg #[.bool a0_0, .int .i64 a0_1, .int .i64 a0_2, .bool a0_3, .int .i64 a0_4, .int .i64 a0_5]] (flyballref21_Norm.calls a0_0 a0_1 a0_2 a0_3 a0_4 a0_5 t11353 t11354 t11355 t11356 t11357 t11358 _ A2.out) ?_; intro w10 hb; replace BK11351 := kb BK11351 hb; replace BK11352 := kb BK11352 hb; replace HB := kh HB hb; (try clear hb)) | ((with_reducible refine gate_dst (N := 3) rfl ?_); refine kx 3 #[.bool false, .int .i64 0, .int .i64 0, .bool false, .int .i64 0, .int .i64 0] 29 ?_; intro gb11359 hg w11 hbox hb; have BK11359 := Aside0.mk (hbox); have GW11359 := kg HB hg; have GE11359 := kg HB hg; have NB11351_11359 := kn BK11351 hg; have NB11359_11351 := km BK11351 hg; have NB11352_11359 := kn BK11352 hg; have NB11359_11352 := km BK11352 hg; replace BK11351 := kb BK11351 hb; replace BK11352 := kb BK11352 hb; replace HB := kh HB hb; clear hb hbox hg; have hnb12 := NB11359_11351.out; have hnc12 := NB11351_11359.out; have hnb13 := NB11359_11352.out; have hnc13 := NB11352_11359.out; have ⟨hcz14_0, hcz14_1, hcz14_2, hcz14_3, hcz14_4, hcz14_5, hfz14_0, hfz14_1, hfz14_2, hfz14_3, hfz14_4, hfz14_5⟩ := kz6f BK11359))
  generalize hW_ : ((((((w11.setCell ⟨gb11359, 0, none⟩ (.bool t11353)).setCell ⟨gb11359, 1, none⟩ (.int .i64 t11354)).setCell ⟨gb11359, 2, none⟩ (.int .i64 t11355)).setCell ⟨gb11359, 3, none⟩ (.bool t11356)).setCell ⟨gb11359, 4, none⟩ (.int .i64 t11357)).setCell ⟨gb11359, 5, none⟩ (.int .i64 t11358)) = w15
  replace BK11351 := kr BK11351 hW_
  replace BK11352 := kr BK11352 hW_
  replace BK11359 := kr (o' := .cells #[.bool t11353, .int .i64 t11354, .int .i64 t11355, .bool t11356, .int .i64 t11357, .int .i64 t11358] 29 (0, 0)) BK11359 hW_
  replace HB := kq HB hW_
  clear hW_
  replace BK11351 := Aside0.mk (blk_drew BK11351.out)
  replace BK11352 := Aside0.mk (blk_drew BK11352.out)
  replace BK11359 := Aside0.mk (blk_drew BK11359.out)
  replace HB := Aside0.mk (below_drew1 HB.out)
  refine start_ (n := 11) (S := fun w' => w'.cell? ⟨gb11359, 0, none⟩ = some (.bool t11353) ∧ w'.cell? ⟨gb11359, 1, none⟩ = some (.int .i64 t11354) ∧ w'.cell? ⟨gb11359, 2, none⟩ = some (.int .i64 t11355) ∧ w'.cell? ⟨gb11359, 3, none⟩ = some (.bool t11356) ∧ w'.cell? ⟨gb11359, 4, none⟩ = some (.int .i64 t11357) ∧ w'.cell? ⟨gb11359, 5, none⟩ = some (.int .i64 t11358)) (ds := []) #[false, false, false, false, false, false, false, false, false, false, false] (by kernel_rfl) rfl rfl ⟨bc BK11359 0, bc BK11359 1, bc BK11359 2, bc BK11359 3, bc BK11359 4, bc BK11359 5⟩ (fun hHeld => ?_); refine with_tabW flyballref21_Tick.tab2 flyballref21_Tick.bits2 (fun HT_ HW_ => ?_)
  generalize w15.drew = w16 at BK11351 BK11352 BK11359 HB hHeld ⊢
  refine pur 0 (some 6) #[true, false, false, false, false, false, false, false, false, false, false] (any_of HT_.out (by kernel_rfl)) ?_
  refine pur 2 (some 8) #[true, false, true, false, false, false, false, false, false, false, false] (any_of HT_.out (by kernel_rfl)) ?_
  refine pur 4 (some 10) #[true, false, true, false, true, false, false, false, false, false, false] (any_of HT_.out (by kernel_rfl)) ?_
  refine pur 6 (some 12) #[true, false, true, false, true, false, true, false, false, false, false] (any_of HT_.out (by kernel_rfl)) ?_
  refine tak 1 (some 7) #[true, true, true, false, true, false, true, false, false, false, false] (take_ofW HT_.out HW_.out (by kernel_rfl)) hHeld ?_
  refine tak 5 (some 11) #[true, true, true, false, true, true, true, false, false, false, false] (take_ofW HT_.out HW_.out (by kernel_rfl)) hHeld ?_
  refine one_ (i := 3) (N := some 9) #[true, true, true, true, true, true, true, false, false, false, false] rfl rfl (one_of HT_.out (by kernel_rfl)) (by decide) (fun K hK => ?_)
  refine gc Try.func63 #[.agg #[.bool t11353, .int .i64 t11354, .int .i64 t11355], .agg #[.bool false, .int .i64 (-1), .int .i64 (-1)]] (flyballref21_Add.calls k t11353 t11354 t11355 false (-1) (-1) t11360 t11361 t11362 _ A3.out) ?_
  intro w17 hb
  replace BK11351 := kb BK11351 hb
  replace BK11352 := kb BK11352 hb
  replace BK11359 := kb BK11359 hb
  replace HB := kh HB hb
  (try clear hb)
  refine hK.out _ _ ⟨bc BK11359 0, bc BK11359 1, bc BK11359 2, bc BK11359 3, bc BK11359 4, bc BK11359 5⟩ (fun hHeld => ?_)
  clear hK K
  refine nrm (some 9) ?_
  refine one_ (i := 7) (N := some 13) #[true, true, true, true, true, true, true, true, false, false, false] rfl rfl (one_of HT_.out (by kernel_rfl)) (by decide) (fun K hK => ?_)
  refine gc Try.func63 #[.agg #[.bool t11356, .int .i64 t11357, .int .i64 t11358], .agg #[.bool false, .int .i64 1, .int .i64 1]] (flyballref21_Add.calls k t11356 t11357 t11358 false 1 1 t11363 t11364 t11365 _ A4.out) ?_
  intro w18 hb
  replace BK11351 := kb BK11351 hb
  replace BK11352 := kb BK11352 hb
  replace BK11359 := kb BK11359 hb
  replace HB := kh HB hb
  (try clear hb)
  refine hK.out _ _ ⟨bc BK11359 0, bc BK11359 1, bc BK11359 2, bc BK11359 3, bc BK11359 4, bc BK11359 5⟩ (fun hHeld => ?_)
  clear hK K
  refine nrm (some 13) ?_
  refine pur 8 (some 14) #[true, true, true, true, true, true, true, true, true, false, false] (any_of HT_.out (by kernel_rfl)) ?_
  refine one_ (i := 9) (N := some 15) #[true, true, true, true, true, true, true, true, true, true, false] rfl rfl (one_of HT_.out (by kernel_rfl)) (by decide) (fun K hK => ?_)
  refine gc Try.func62 #[.agg #[.bool t11360, .int .i64 t11361, .int .i64 t11362, .bool t11363, .int .i64 t11364, .int .i64 t11365]] (flyballref21_Norm.calls t11360 t11361 t11362 t11363 t11364 t11365 t11366 t11367 t11368 t11369 t11370 t11371 _ A5.out) ?_
  intro w19 hb
  replace BK11351 := kb BK11351 hb
  replace BK11352 := kb BK11352 hb
  replace BK11359 := kb BK11359 hb
  replace HB := kh HB hb
  (try clear hb)
  refine hK.out _ _ ⟨bc BK11359 0, bc BK11359 1, bc BK11359 2, bc BK11359 3, bc BK11359 4, bc BK11359 5⟩ (fun hHeld => ?_)
  clear hK K
  refine nrm (some 15) ?_
  refine one_ (i := 10) (N := none) #[true, true, true, true, true, true, true, true, true, true, true] rfl rfl (one_of HT_.out (by kernel_rfl)) (by decide) (fun K hK => ?_)
  have hs20 : w19.cell? ⟨gb11352, 0, none⟩ = some (.bool false) := bc BK11352 0
  have hfs20 := blk_frozen BK11352.out 0
  have hns20_0 := NB11351_11352.out
  have hns20_2 := NB11359_11352.out
  have hms20_0 := NB11352_11351.out
  have hms20_2 := NB11352_11359.out
  have hs21 : w19.cell? ⟨gb11352, 1, none⟩ = some (.int .i64 0) := bc BK11352 1
  have hfs21 := blk_frozen BK11352.out 1
  have hs22 : w19.cell? ⟨gb11352, 2, none⟩ = some (.int .i64 0) := bc BK11352 2
  have hfs22 := blk_frozen BK11352.out 2
  have hs23 : w19.cell? ⟨gb11352, 3, none⟩ = some (.bool false) := bc BK11352 3
  have hfs23 := blk_frozen BK11352.out 3
  have hs24 : w19.cell? ⟨gb11352, 4, none⟩ = some (.int .i64 0) := bc BK11352 4
  have hfs24 := blk_frozen BK11352.out 4
  have hs25 : w19.cell? ⟨gb11352, 5, none⟩ = some (.int .i64 0) := bc BK11352 5
  have hfs25 := blk_frozen BK11352.out 5
  refine skip_ (w1 := ?_) (by rfl) rfl ?_ ?_
  rotate_left
  · go_simp
    rfl
  refine hK.out _ _ ⟨cf hHeld.1, cf hHeld.2.1, cf hHeld.2.2.1, cf hHeld.2.2.2.1, cf hHeld.2.2.2.2.1, cf hHeld.2.2.2.2.2⟩ (fun hHeld => ?_)
  clear hK K
  refine done_ (done_of HT_.out (by kernel_rfl)) ?_
  try go_wp2
  refine bodyPost_ret (results_cell_row rfl _ _ gb11352 29 #[.bool t11366, .int .i64 t11367, .int .i64 t11368, .bool t11369, .int .i64 t11370, .int .i64 t11371] (0, 0) _ rfl (pK BK11352) Try.underlying29 rfl (by kernel_rfl)) rfl ?_
  exact ⟨pe, pl HB⟩
end Go.Proofs.Ytinmgnlofininaa.PAll
end
