/- Functions of the print, turned to this claim. -/
import Derived.Test.YtinmgnlofininaaZKW
import Derived.Test.YtinmgnlofininaaZKx0
import Derived.Test.YtinmgnlofininaaZKx3
import Derived.Test.YtinmgnlofininaaZKx5
import Derived.Test.YtinmgnlofininaaZKx25
section
namespace Go.Proofs.Ytinmgnlofininaa.PAll
open Go.RowKit Go.Proofs.YtinmgnlofininaaW.PrintWords Go.Proofs.YtinmgnlofininaaW.PrintLast Go.Proofs.YtinmgnlofininaaW.PrintMore
attribute [local go_sem] max2_int min2_int max_two min_two max_three min_three max_four min_four   -- for this text's walks alone
set_option linter.unusedVariables false
set_option linter.unusedSimpArgs false
/-! ### clock_Of: function 15 -/
def clock_Of.f (k : Nat) (a0_0 : Bool) (a0_1 : Int) (a0_2 : Int) (a1_0 : Bool) (a1_1 : Int) (a1_2 : Int) : Option (Bool × Int × Int × Bool × Int × Int) := (ints_Sub.f k a0_0 a0_1 a0_2 a1_0 a1_1 a1_2).bind fun bt7154 => ((ints_Add.f k a0_0 a0_1 a0_2 a1_0 a1_1 a1_2).bind fun bt7157 => ((clock_norm.f k bt7154.1 bt7154.2.1 bt7154.2.2 bt7157.1 bt7157.2.1 bt7157.2.2).bind fun bt7160 => (some (bt7160.1, bt7160.2.1, bt7160.2.2.1, bt7160.2.2.2.1, bt7160.2.2.2.2.1, bt7160.2.2.2.2.2))))
theorem clock_Of.mono : ∀ a0 a1 a2 a3 a4 a5 k, LeO (clock_Of.f k a0 a1 a2 a3 a4 a5) (clock_Of.f (k + 1) a0 a1 a2 a3 a4 a5) := by
  intro a0 a1 a2 a3 a4 a5 k
  unfold clock_Of.f
  repeat' first
      | (with_reducible exact clock_norm.mono _ _ _ _ _ _ _)
      | (with_reducible exact ints_Add.mono _ _ _ _ _ _ _)
      | (with_reducible exact ints_Sub.mono _ _ _ _ _ _ _)
      | (with_reducible exact LeO.refl _)
      | (with_reducible exact LeO.none _)
      | (with_reducible refine LeO.ite ?_ ?_)
      | (with_reducible refine LeO.bind ?_ (fun _ => ?_))
      | exact clock_norm.mono _ _ _ _ _ _ _
      | exact ints_Add.mono _ _ _ _ _ _ _
      | exact ints_Sub.mono _ _ _ _ _ _ _
      | exact LeO.none _
      | refine LeO.ite ?_ ?_
      | refine LeO.bind ?_ (fun _ => ?_)
def clock_Of.T1 : Bool × List (List Nat × List Nat) := (true, [([], []), ([], []), ([0, 1], [0, 1]), ([], []), ([], []), ([3, 4, 2], [3, 4]), ([2, 5], [2, 5]), ([6, 5], [6]), ([7, 7, 0, 1, 2, 3, 4, 5, 6, 7], [7])])
def clock_Of.B1 : List Nat := [0, 0, 3, 0, 0, 31, 63, 127, 255]
theorem clock_Of.tab1 : rtab .any (opsOf Try.f15 1) = clock_Of.T1 := by kernel_rfl
theorem clock_Of.bits1 : waitsOk clock_Of.T1.2 clock_Of.B1 = true := by kernel_rfl
set_option maxHeartbeats 8000000 in
set_option maxRecDepth 100000 in
theorem clock_Of.calls (k : Nat) (a0_0 : Bool) (a0_1 : Int) (a0_2 : Int) (a1_0 : Bool) (a1_1 : Int) (a1_2 : Int) (r1 : Bool) (r2 : Int) (r3 : Int) (r4 : Bool) (r5 : Int) (r6 : Int) (w : World) (h : clock_Of.f k a0_0 a0_1 a0_2 a1_0 a1_1 a1_2 = some (r1, r2, r3, r4, r5, r6)) :
    Calls Try.prog 15 #[.agg #[.bool a0_0, .int .i64 a0_1, .int .i64 a0_2], .agg #[.bool a1_0, .int .i64 a1_1, .int .i64 a1_2]] w fun e w' => e = .returned (.agg #[.bool r1, .int .i64 r2, .int .i64 r3, .bool r4, .int .i64 r5, .int .i64 r6]) ∧ Below w.heap.size w w' := by
  have hu23 := Try.underlying23
  have hu25 := Try.underlying25
  have HB := Aside0.mk (Below.refl w.heap.size w)
  have H := h
  clear h
  unfold clock_Of.f at H
  obtain ⟨⟨t7154, t7155, t7156⟩, A30, H⟩ := Option.bind_eq_some_iff.mp H
  have A3 := Aside0.mk A30
  clear A30
  (try dsimp only at H)
  obtain ⟨⟨t7157, t7158, t7159⟩, A40, H⟩ := Option.bind_eq_some_iff.mp H
  have A4 := Aside0.mk A40
  clear A40
  (try dsimp only at H)
  obtain ⟨⟨t7160, t7161, t7162, t7163, t7164, t7165⟩, A50, H⟩ := Option.bind_eq_some_iff.mp H
  have A5 := Aside0.mk A50
  clear A50
  (try dsimp only at H)
  simp only [Option.some.injEq, Prod.mk.injEq] at H
  obtain ⟨rfl, rfl, rfl, rfl, rfl, rfl⟩ := H
  go_enter Try.func15, Try.ntmps15
  try go_wp2_with (first | ((with_reducible refine gate_dst (N := 2) rfl ?_); refine kx 2 #[.bool a0_0, .int .i64 a0_1, .int .i64 a0_2] 23 ?_; intro gb7151 hg w6 hbox hb; have BK7151 := Aside0.mk (hbox); have GW7151 := kg HB hg; have GE7151 := kg HB hg; replace HB := kh HB hb; clear hb hbox hg) | ((with_reducible refine gate_dst (N := 3) rfl ?_); refine kx 3 #[.bool a1_0, .int .i64 a1_1, .int .i64 a1_2] 23 ?_; intro gb7152 hg w7 hbox hb; have BK7152 := Aside0.mk (hbox); have GW7152 := kg HB hg; have GE7152 := kg HB hg; have NB7151_7152 := kn BK7151 hg; have NB7152_7151 := km BK7151 hg; replace BK7151 := kb BK7151 hb; replace HB := kh HB hb; clear hb hbox hg) | ((with_reducible refine gate_dst (N := 4) rfl ?_); refine kx 4 #[.bool false, .int .i64 0, .int .i64 0, .bool false, .int .i64 0, .int .i64 0] 25 ?_; intro gb7153 hg w8 hbox hb; have BK7153 := Aside0.mk (hbox); have GW7153 := kg HB hg; have GE7153 := kg HB hg; have NB7151_7153 := kn BK7151 hg; have NB7153_7151 := km BK7151 hg; have NB7152_7153 := kn BK7152 hg; have NB7153_7152 := km BK7152 hg; replace BK7151 := kb BK7151 hb; replace BK7152 := kb BK7152 hb; replace HB := kh HB hb; clear hb hbox hg))
  replace BK7151 := Aside0.mk (blk_drew BK7151.out)
  replace BK7152 := Aside0.mk (blk_drew BK7152.out)
  replace BK7153 := Aside0.mk (blk_drew BK7153.out)
  replace HB := Aside0.mk (below_drew1 HB.out)
  refine start_ (n := 9) (S := fun w' => w'.cell? ⟨gb7151, 0, none⟩ = some (.bool a0_0) ∧ w'.cell? ⟨gb7151, 1, none⟩ = some (.int .i64 a0_1) ∧ w'.cell? ⟨gb7151, 2, none⟩ = some (.int .i64 a0_2) ∧ w'.cell? ⟨gb7152, 0, none⟩ = some (.bool a1_0) ∧ w'.cell? ⟨gb7152, 1, none⟩ = some (.int .i64 a1_1) ∧ w'.cell? ⟨gb7152, 2, none⟩ = some (.int .i64 a1_2)) (ds := []) #[false, false, false, false, false, false, false, false, false] (by kernel_rfl) rfl rfl ⟨bc BK7151 0, bc BK7151 1, bc BK7151 2, bc BK7152 0, bc BK7152 1, bc BK7152 2⟩ (fun hHeld => ?_); refine with_tabW clock_Of.tab1 clock_Of.bits1 (fun HT_ HW_ => ?_)
  generalize w8.drew = w9 at BK7151 BK7152 BK7153 HB hHeld ⊢
  refine tak 0 (some 5) #[true, false, false, false, false, false, false, false, false] (take_ofW HT_.out HW_.out (by kernel_rfl)) hHeld ?_
  refine tak 1 (some 6) #[true, true, false, false, false, false, false, false, false] (take_ofW HT_.out HW_.out (by kernel_rfl)) hHeld ?_
  refine tak 3 (some 8) #[true, true, false, true, false, false, false, false, false] (take_ofW HT_.out HW_.out (by kernel_rfl)) hHeld ?_
  refine tak 4 (some 9) #[true, true, false, true, true, false, false, false, false] (take_ofW HT_.out HW_.out (by kernel_rfl)) hHeld ?_
  refine one_ (i := 2) (N := some 7) #[true, true, true, true, true, false, false, false, false] rfl rfl (one_of HT_.out (by kernel_rfl)) (by decide) (fun K hK => ?_)
  refine gc Try.func52 #[.agg #[.bool a0_0, .int .i64 a0_1, .int .i64 a0_2], .agg #[.bool a1_0, .int .i64 a1_1, .int .i64 a1_2]] (ints_Sub.calls k a0_0 a0_1 a0_2 a1_0 a1_1 a1_2 t7154 t7155 t7156 _ A3.out) ?_
  intro w10 hb
  replace BK7151 := kb BK7151 hb
  replace BK7152 := kb BK7152 hb
  replace BK7153 := kb BK7153 hb
  replace HB := kh HB hb
  (try clear hb)
  refine hK.out _ _ ⟨bc BK7151 0, bc BK7151 1, bc BK7151 2, bc BK7152 0, bc BK7152 1, bc BK7152 2⟩ (fun hHeld => ?_)
  clear hK K
  refine nrm (some 7) ?_
  refine one_ (i := 5) (N := some 10) #[true, true, true, true, true, true, false, false, false] rfl rfl (one_of HT_.out (by kernel_rfl)) (by decide) (fun K hK => ?_)
  refine gc Try.func51 #[.agg #[.bool a0_0, .int .i64 a0_1, .int .i64 a0_2], .agg #[.bool a1_0, .int .i64 a1_1, .int .i64 a1_2]] (ints_Add.calls k a0_0 a0_1 a0_2 a1_0 a1_1 a1_2 t7157 t7158 t7159 _ A4.out) ?_
  intro w11 hb
  replace BK7151 := kb BK7151 hb
  replace BK7152 := kb BK7152 hb
  replace BK7153 := kb BK7153 hb
  replace HB := kh HB hb
  (try clear hb)
  refine hK.out _ _ ⟨bc BK7151 0, bc BK7151 1, bc BK7151 2, bc BK7152 0, bc BK7152 1, bc BK7152 2⟩ (fun hHeld => ?_)
  clear hK K
  refine nrm (some 10) ?_
  refine pur 6 (some 11) #[true, true, true, true, true, true, true, false, false] (any_of HT_.out (by kernel_rfl)) ?_
  refine one_ (i := 7) (N := some 12) #[true, true, true, true, true, true, true, true, false] rfl rfl (one_of HT_.out (by kernel_rfl)) (by decide) (fun K hK => ?_)
  refine gc Try.func61 #[.agg #[.bool t7154, .int .i64 t7155, .int .i64 t7156, .bool t7157, .int .i64 t7158, .int .i64 t7159]] (clock_norm.calls k t7154 t7155 t7156 t7157 t7158 t7159 t7160 t7161 t7162 t7163 t7164 t7165 _ A5.out) ?_
  intro w12 hb
  replace BK7151 := kb BK7151 hb
  replace BK7152 := kb BK7152 hb
  replace BK7153 := kb BK7153 hb
  replace HB := kh HB hb
  (try clear hb)
  refine hK.out _ _ ⟨bc BK7151 0, bc BK7151 1, bc BK7151 2, bc BK7152 0, bc BK7152 1, bc BK7152 2⟩ (fun hHeld => ?_)
  clear hK K
  refine nrm (some 12) ?_
  refine one_ (i := 8) (N := none) #[true, true, true, true, true, true, true, true, true] rfl rfl (one_of HT_.out (by kernel_rfl)) (by decide) (fun K hK => ?_)
  have hs13 : w12.cell? ⟨gb7153, 0, none⟩ = some (.bool false) := bc BK7153 0
  have hfs13 := blk_frozen BK7153.out 0
  have hns13_0 := NB7151_7153.out
  have hns13_1 := NB7152_7153.out
  have hms13_0 := NB7153_7151.out
  have hms13_1 := NB7153_7152.out
  have hs14 : w12.cell? ⟨gb7153, 1, none⟩ = some (.int .i64 0) := bc BK7153 1
  have hfs14 := blk_frozen BK7153.out 1
  have hs15 : w12.cell? ⟨gb7153, 2, none⟩ = some (.int .i64 0) := bc BK7153 2
  have hfs15 := blk_frozen BK7153.out 2
  have hs16 : w12.cell? ⟨gb7153, 3, none⟩ = some (.bool false) := bc BK7153 3
  have hfs16 := blk_frozen BK7153.out 3
  have hs17 : w12.cell? ⟨gb7153, 4, none⟩ = some (.int .i64 0) := bc BK7153 4
  have hfs17 := blk_frozen BK7153.out 4
  have hs18 : w12.cell? ⟨gb7153, 5, none⟩ = some (.int .i64 0) := bc BK7153 5
  have hfs18 := blk_frozen BK7153.out 5
  refine skip_ (w1 := ?_) (by rfl) rfl ?_ ?_
  rotate_left
  · go_simp
    rfl
  refine hK.out _ _ ⟨cf hHeld.1, cf hHeld.2.1, cf hHeld.2.2.1, cf hHeld.2.2.2.1, cf hHeld.2.2.2.2.1, cf hHeld.2.2.2.2.2⟩ (fun hHeld => ?_)
  clear hK K
  refine done_ (done_of HT_.out (by kernel_rfl)) ?_
  try go_wp2
  refine bodyPost_ret (results_cell_row rfl _ _ gb7153 25 #[.bool t7160, .int .i64 t7161, .int .i64 t7162, .bool t7163, .int .i64 t7164, .int .i64 t7165] (0, 0) _ rfl (pK BK7153) Try.underlying25 rfl (by kernel_rfl)) rfl ?_
  exact ⟨pe, pl HB⟩
/-! ### clock_bothAdd: function 99 -/
def clock_bothAdd.f (k : Nat) (a0_0 : Bool) (a0_1 : Int) (a0_2 : Int) (a0_3 : Bool) (a0_4 : Int) (a0_5 : Int) (a1_0 : Bool) (a1_1 : Int) (a1_2 : Int) (a1_3 : Bool) (a1_4 : Int) (a1_5 : Int) : Option (Bool × Int × Int × Bool × Int × Int) := (clock_norm.f k a0_0 a0_1 a0_2 a0_3 a0_4 a0_5).bind fun bt7304 => ((clock_norm.f k a1_0 a1_1 a1_2 a1_3 a1_4 a1_5).bind fun bt7310 => ((ints_Add.f k bt7304.1 bt7304.2.1 bt7304.2.2.1 bt7310.1 bt7310.2.1 bt7310.2.2.1).bind fun bt7316 => ((ints_Add.f k bt7304.2.2.2.1 bt7304.2.2.2.2.1 bt7304.2.2.2.2.2 bt7310.2.2.2.1 bt7310.2.2.2.2.1 bt7310.2.2.2.2.2).bind fun bt7319 => ((clock_norm.f k bt7316.1 bt7316.2.1 bt7316.2.2 bt7319.1 bt7319.2.1 bt7319.2.2).bind fun bt7322 => (some (bt7322.1, bt7322.2.1, bt7322.2.2.1, bt7322.2.2.2.1, bt7322.2.2.2.2.1, bt7322.2.2.2.2.2))))))
theorem clock_bothAdd.mono : ∀ a0 a1 a2 a3 a4 a5 a6 a7 a8 a9 a10 a11 k, LeO (clock_bothAdd.f k a0 a1 a2 a3 a4 a5 a6 a7 a8 a9 a10 a11) (clock_bothAdd.f (k + 1) a0 a1 a2 a3 a4 a5 a6 a7 a8 a9 a10 a11) := by
  intro a0 a1 a2 a3 a4 a5 a6 a7 a8 a9 a10 a11 k
  unfold clock_bothAdd.f
  repeat' first
      | (with_reducible exact clock_norm.mono _ _ _ _ _ _ _)
      | (with_reducible exact ints_Add.mono _ _ _ _ _ _ _)
      | (with_reducible exact LeO.refl _)
      | (with_reducible exact LeO.none _)
      | (with_reducible refine LeO.ite ?_ ?_)
      | (with_reducible refine LeO.bind ?_ (fun _ => ?_))
      | exact clock_norm.mono _ _ _ _ _ _ _
      | exact ints_Add.mono _ _ _ _ _ _ _
      | exact LeO.none _
      | refine LeO.ite ?_ ?_
      | refine LeO.bind ?_ (fun _ => ?_)
def clock_bothAdd.T2 : Bool × List (List Nat × List Nat) := (true, [([], []), ([], []), ([1], [1]), ([], []), ([3], [3]), ([0, 2, 4], [0, 2, 4]), ([], []), ([], []), ([7], [7]), ([], []), ([9], [9]), ([6, 8, 10, 5], [6, 8, 10]), ([5, 11], [5, 11]), ([12, 11], [12]), ([13, 13, 0, 1, 2, 3, 4, 5, 6, 7, 8, 9, 10, 11, 12, 13], [13])])
def clock_bothAdd.B2 : List Nat := [0, 0, 2, 0, 8, 31, 0, 0, 128, 0, 512, 2047, 4095, 8191, 16383]
theorem clock_bothAdd.tab2 : rtab .any (opsOf Try.f65 2) = clock_bothAdd.T2 := by kernel_rfl
theorem clock_bothAdd.bits2 : waitsOk clock_bothAdd.T2.2 clock_bothAdd.B2 = true := by kernel_rfl
set_option maxHeartbeats 8000000 in
set_option maxRecDepth 100000 in
theorem clock_bothAdd.calls (k : Nat) (a0_0 : Bool) (a0_1 : Int) (a0_2 : Int) (a0_3 : Bool) (a0_4 : Int) (a0_5 : Int) (a1_0 : Bool) (a1_1 : Int) (a1_2 : Int) (a1_3 : Bool) (a1_4 : Int) (a1_5 : Int) (r1 : Bool) (r2 : Int) (r3 : Int) (r4 : Bool) (r5 : Int) (r6 : Int) (w : World) (h : clock_bothAdd.f k a0_0 a0_1 a0_2 a0_3 a0_4 a0_5 a1_0 a1_1 a1_2 a1_3 a1_4 a1_5 = some (r1, r2, r3, r4, r5, r6)) :
    Calls Try.prog 65 #[.agg #[.bool a0_0, .int .i64 a0_1, .int .i64 a0_2, .bool a0_3, .int .i64 a0_4, .int .i64 a0_5], .agg #[.bool a1_0, .int .i64 a1_1, .int .i64 a1_2, .bool a1_3, .int .i64 a1_4, .int .i64 a1_5], .func (.func 51) #[] #[]] w fun e w' => e = .returned (.agg #[.bool r1, .int .i64 r2, .int .i64 r3, .bool r4, .int .i64 r5, .int .i64 r6]) ∧ Below w.heap.size w w' := by
  have hu25 := Try.underlying25
  have hu23 := Try.underlying23
  have HB := Aside0.mk (Below.refl w.heap.size w)
  have H := h
  clear h
  unfold clock_bothAdd.f at H
  obtain ⟨⟨t7304, t7305, t7306, t7307, t7308, t7309⟩, A30, H⟩ := Option.bind_eq_some_iff.mp H
  have A3 := Aside0.mk A30
  clear A30
  (try dsimp only at H)
  obtain ⟨⟨t7310, t7311, t7312, t7313, t7314, t7315⟩, A40, H⟩ := Option.bind_eq_some_iff.mp H
  have A4 := Aside0.mk A40
  clear A40
  (try dsimp only at H)
  obtain ⟨⟨t7316, t7317, t7318⟩, A50, H⟩ := Option.bind_eq_some_iff.mp H
  have A5 := Aside0.mk A50
  clear A50
  (try dsimp only at H)
  obtain ⟨⟨t7319, t7320, t7321⟩, A60, H⟩ := Option.bind_eq_some_iff.mp H
  have A6 := Aside0.mk A60
  clear A60
  (try dsimp only at H)
  obtain ⟨⟨t7322, t7323, t7324, t7325, t7326, t7327⟩, A70, H⟩ := Option.bind_eq_some_iff.mp H
  have A7 := Aside0.mk A70
  clear A70
  (try dsimp only at H)
  simp only [Option.some.injEq, Prod.mk.injEq] at H
  obtain ⟨rfl, rfl, rfl, rfl, rfl, rfl⟩ := H
  go_enter Try.func65, Try.ntmps65
  try go_wp2_with (first | ((with_reducible refine gate_dst (N := 3) rfl ?_); refine kx 3 #[.bool a0_0, .int .i64 a0_1, .int .i64 a0_2, .bool a0_3, .int .i64 a0_4, .int .i64 a0_5] 25 ?_; intro gb7301 hg w8 hbox hb; have BK7301 := Aside0.mk (hbox); have GW7301 := kg HB hg; have GE7301 := kg HB hg; replace HB := kh HB hb; clear hb hbox hg) | ((with_reducible refine gate_dst (N := 4) rfl ?_); refine kx 4 #[.bool a1_0, .int .i64 a1_1, .int .i64 a1_2, .bool a1_3, .int .i64 a1_4, .int .i64 a1_5] 25 ?_; intro gb7302 hg w9 hbox hb; have BK7302 := Aside0.mk (hbox); have GW7302 := kg HB hg; have GE7302 := kg HB hg; have NB7301_7302 := kn BK7301 hg; have NB7302_7301 := km BK7301 hg; replace BK7301 := kb BK7301 hb; replace HB := kh HB hb; clear hb hbox hg) | ((with_reducible refine gate_dst (N := 6) rfl ?_); refine kx 6 #[.bool false, .int .i64 0, .int .i64 0, .bool false, .int .i64 0, .int .i64 0] 25 ?_; intro gb7303 hg w10 hbox hb; have BK7303 := Aside0.mk (hbox); have GW7303 := kg HB hg; have GE7303 := kg HB hg; have NB7301_7303 := kn BK7301 hg; have NB7303_7301 := km BK7301 hg; have NB7302_7303 := kn BK7302 hg; have NB7303_7302 := km BK7302 hg; replace BK7301 := kb BK7301 hb; replace BK7302 := kb BK7302 hb; replace HB := kh HB hb; clear hb hbox hg))
  replace BK7301 := Aside0.mk (blk_drew BK7301.out)
  replace BK7302 := Aside0.mk (blk_drew BK7302.out)
  replace BK7303 := Aside0.mk (blk_drew BK7303.out)
  replace HB := Aside0.mk (below_drew1 HB.out)
  refine start_ (n := 6) (S := fun w' => w'.cell? ⟨gb7301, 0, none⟩ = some (.bool a0_0) ∧ w'.cell? ⟨gb7301, 1, none⟩ = some (.int .i64 a0_1) ∧ w'.cell? ⟨gb7301, 2, none⟩ = some (.int .i64 a0_2) ∧ w'.cell? ⟨gb7301, 3, none⟩ = some (.bool a0_3) ∧ w'.cell? ⟨gb7301, 4, none⟩ = some (.int .i64 a0_4) ∧ w'.cell? ⟨gb7301, 5, none⟩ = some (.int .i64 a0_5) ∧ w'.cell? ⟨gb7302, 0, none⟩ = some (.bool a1_0) ∧ w'.cell? ⟨gb7302, 1, none⟩ = some (.int .i64 a1_1) ∧ w'.cell? ⟨gb7302, 2, none⟩ = some (.int .i64 a1_2) ∧ w'.cell? ⟨gb7302, 3, none⟩ = some (.bool a1_3) ∧ w'.cell? ⟨gb7302, 4, none⟩ = some (.int .i64 a1_4) ∧ w'.cell? ⟨gb7302, 5, none⟩ = some (.int .i64 a1_5)) (ds := [4, 5]) #[false, false, false, false, false, false] (by kernel_rfl) rfl rfl ⟨bc BK7301 0, bc BK7301 1, bc BK7301 2, bc BK7301 3, bc BK7301 4, bc BK7301 5, bc BK7302 0, bc BK7302 1, bc BK7302 2, bc BK7302 3, bc BK7302 4, bc BK7302 5⟩ (fun hHeld => ?_)
  generalize w10.drew = w11 at BK7301 BK7302 BK7303 HB hHeld ⊢
  refine tak 0 (some 7) #[true, false, false, false, false, false] (by kernel_rfl) hHeld ?_
  refine tak 2 (some 9) #[true, false, true, false, false, false] (by kernel_rfl) hHeld ?_
  refine one_ (i := 1) (N := some 8) #[true, true, true, false, false, false] rfl rfl (by kernel_rfl) (by decide) (fun K hK => ?_)
  refine gc Try.func61 #[.agg #[.bool a0_0, .int .i64 a0_1, .int .i64 a0_2, .bool a0_3, .int .i64 a0_4, .int .i64 a0_5]] (clock_norm.calls k a0_0 a0_1 a0_2 a0_3 a0_4 a0_5 t7304 t7305 t7306 t7307 t7308 t7309 _ A3.out) ?_
  intro w12 hb
  replace BK7301 := kb BK7301 hb
  replace BK7302 := kb BK7302 hb
  replace BK7303 := kb BK7303 hb
  replace HB := kh HB hb
  (try clear hb)
  refine hK.out _ _ ⟨bc BK7301 0, bc BK7301 1, bc BK7301 2, bc BK7301 3, bc BK7301 4, bc BK7301 5, bc BK7302 0, bc BK7302 1, bc BK7302 2, bc BK7302 3, bc BK7302 4, bc BK7302 5⟩ (fun hHeld => ?_)
  clear hK K
  refine nrm (some 8) ?_
  refine one_ (i := 3) (N := some 10) #[true, true, true, true, false, false] rfl rfl (by kernel_rfl) (by decide) (fun K hK => ?_)
  refine gc Try.func61 #[.agg #[.bool a1_0, .int .i64 a1_1, .int .i64 a1_2, .bool a1_3, .int .i64 a1_4, .int .i64 a1_5]] (clock_norm.calls k a1_0 a1_1 a1_2 a1_3 a1_4 a1_5 t7310 t7311 t7312 t7313 t7314 t7315 _ A4.out) ?_
  intro w13 hb
  replace BK7301 := kb BK7301 hb
  replace BK7302 := kb BK7302 hb
  replace BK7303 := kb BK7303 hb
  replace HB := kh HB hb
  (try clear hb)
  refine hK.out _ _ ⟨bc BK7301 0, bc BK7301 1, bc BK7301 2, bc BK7301 3, bc BK7301 4, bc BK7301 5, bc BK7302 0, bc BK7302 1, bc BK7302 2, bc BK7302 3, bc BK7302 4, bc BK7302 5⟩ (fun hHeld => ?_)
  clear hK K
  refine nrm (some 10) ?_
  refine last_ (i := 4) (N := none) #[true, true, true, true, true, false] rfl rfl (by kernel_rfl) (by decide) (fun K hK => ?_)
  have hs14 : w13.cell? ⟨gb7301, 0, none⟩ = some (.bool a0_0) := bc BK7301 0
  have hfs14 := blk_frozen BK7301.out 0
  have hns14_1 := NB7302_7301.out
  have hns14_2 := NB7303_7301.out
  have hms14_1 := NB7301_7302.out
  have hms14_2 := NB7301_7303.out
  have hs15 : w13.cell? ⟨gb7301, 1, none⟩ = some (.int .i64 a0_1) := bc BK7301 1
  have hfs15 := blk_frozen BK7301.out 1
  have hs16 : w13.cell? ⟨gb7301, 2, none⟩ = some (.int .i64 a0_2) := bc BK7301 2
  have hfs16 := blk_frozen BK7301.out 2
  have hs17 : w13.cell? ⟨gb7301, 3, none⟩ = some (.bool a0_3) := bc BK7301 3
  have hfs17 := blk_frozen BK7301.out 3
  have hs18 : w13.cell? ⟨gb7301, 4, none⟩ = some (.int .i64 a0_4) := bc BK7301 4
  have hfs18 := blk_frozen BK7301.out 4
  have hs19 : w13.cell? ⟨gb7301, 5, none⟩ = some (.int .i64 a0_5) := bc BK7301 5
  have hfs19 := blk_frozen BK7301.out 5
  refine skip_ (w1 := ?_) (by rfl) rfl ?_ ?_
  rotate_left
  · go_simp
    rfl
  refine hK.out _ _ ?_
  clear hK K
  refine last_ (i := 5) (N := none) #[true, true, true, true, true, true] rfl rfl (by kernel_rfl) (by decide) (fun K hK => ?_)
  have hs20 : w13.cell? ⟨gb7302, 0, none⟩ = some (.bool a1_0) := bc BK7302 0
  have hfs20 := blk_frozen BK7302.out 0
  have hns20_0 := NB7301_7302.out
  have hns20_2 := NB7303_7302.out
  have hms20_0 := NB7302_7301.out
  have hms20_2 := NB7302_7303.out
  have hs21 : w13.cell? ⟨gb7302, 1, none⟩ = some (.int .i64 a1_1) := bc BK7302 1
  have hfs21 := blk_frozen BK7302.out 1
  have hs22 : w13.cell? ⟨gb7302, 2, none⟩ = some (.int .i64 a1_2) := bc BK7302 2
  have hfs22 := blk_frozen BK7302.out 2
  have hs23 : w13.cell? ⟨gb7302, 3, none⟩ = some (.bool a1_3) := bc BK7302 3
  have hfs23 := blk_frozen BK7302.out 3
  have hs24 : w13.cell? ⟨gb7302, 4, none⟩ = some (.int .i64 a1_4) := bc BK7302 4
  have hfs24 := blk_frozen BK7302.out 4
  have hs25 : w13.cell? ⟨gb7302, 5, none⟩ = some (.int .i64 a1_5) := bc BK7302 5
  have hfs25 := blk_frozen BK7302.out 5
  refine skip_ (w1 := ?_) (by rfl) rfl ?_ ?_
  rotate_left
  · go_simp
    rfl
  refine hK.out _ _ ?_
  clear hK K
  refine done_ (by kernel_rfl) ?_
  try go_wp2
  generalize hW_ : ((((((((((((w13.setCell ⟨gb7301, 0, none⟩ (.bool t7304)).setCell ⟨gb7301, 1, none⟩ (.int .i64 t7305)).setCell ⟨gb7301, 2, none⟩ (.int .i64 t7306)).setCell ⟨gb7301, 3, none⟩ (.bool t7307)).setCell ⟨gb7301, 4, none⟩ (.int .i64 t7308)).setCell ⟨gb7301, 5, none⟩ (.int .i64 t7309)).setCell ⟨gb7302, 0, none⟩ (.bool t7310)).setCell ⟨gb7302, 1, none⟩ (.int .i64 t7311)).setCell ⟨gb7302, 2, none⟩ (.int .i64 t7312)).setCell ⟨gb7302, 3, none⟩ (.bool t7313)).setCell ⟨gb7302, 4, none⟩ (.int .i64 t7314)).setCell ⟨gb7302, 5, none⟩ (.int .i64 t7315)) = w26
  replace BK7301 := kr (o' := .cells #[.bool t7304, .int .i64 t7305, .int .i64 t7306, .bool t7307, .int .i64 t7308, .int .i64 t7309] 25 (0, 0)) BK7301 hW_
  replace BK7302 := kr (o' := .cells #[.bool t7310, .int .i64 t7311, .int .i64 t7312, .bool t7313, .int .i64 t7314, .int .i64 t7315] 25 (0, 0)) BK7302 hW_
  replace BK7303 := kr BK7303 hW_
  replace HB := kq HB hW_
  clear hW_
  replace BK7301 := Aside0.mk (blk_drew BK7301.out)
  replace BK7302 := Aside0.mk (blk_drew BK7302.out)
  replace BK7303 := Aside0.mk (blk_drew BK7303.out)
  replace HB := Aside0.mk (below_drew1 HB.out)
  refine start_ (n := 15) (S := fun w' => w'.cell? ⟨gb7301, 0, none⟩ = some (.bool t7304) ∧ w'.cell? ⟨gb7301, 1, none⟩ = some (.int .i64 t7305) ∧ w'.cell? ⟨gb7301, 2, none⟩ = some (.int .i64 t7306) ∧ w'.cell? ⟨gb7301, 3, none⟩ = some (.bool t7307) ∧ w'.cell? ⟨gb7301, 4, none⟩ = some (.int .i64 t7308) ∧ w'.cell? ⟨gb7301, 5, none⟩ = some (.int .i64 t7309) ∧ w'.cell? ⟨gb7302, 0, none⟩ = some (.bool t7310) ∧ w'.cell? ⟨gb7302, 1, none⟩ = some (.int .i64 t7311) ∧ w'.cell? ⟨gb7302, 2, none⟩ = some (.int .i64 t7312) ∧ w'.cell? ⟨gb7302, 3, none⟩ = some (.bool t7313) ∧ w'.cell? ⟨gb7302, 4, none⟩ = some (.int .i64 t7314) ∧ w'.cell? ⟨gb7302, 5, none⟩ = some (.int .i64 t7315)) (ds := []) #[false, false, false, false, false, false, false, false, false, false, false, false, false, false, false] (by kernel_rfl) rfl rfl ⟨bc BK7301 0, bc BK7301 1, bc BK7301 2, bc BK7301 3, bc BK7301 4, bc BK7301 5, bc BK7302 0, bc BK7302 1, bc BK7302 2, bc BK7302 3, bc BK7302 4, bc BK7302 5⟩ (fun hHeld => ?_); refine with_tabW clock_bothAdd.tab2 clock_bothAdd.bits2 (fun HT_ HW_ => ?_)
  generalize w26.drew = w27 at BK7301 BK7302 BK7303 HB hHeld ⊢
  refine pur 0 (some 11) #[true, false, false, false, false, false, false, false, false, false, false, false, false, false, false] (any_of HT_.out (by kernel_rfl)) ?_
  refine pur 1 (some 12) #[true, true, false, false, false, false, false, false, false, false, false, false, false, false, false] (any_of HT_.out (by kernel_rfl)) ?_
  refine pur 3 (some 14) #[true, true, false, true, false, false, false, false, false, false, false, false, false, false, false] (any_of HT_.out (by kernel_rfl)) ?_
  refine pur 6 (some 17) #[true, true, false, true, false, false, true, false, false, false, false, false, false, false, false] (any_of HT_.out (by kernel_rfl)) ?_
  refine pur 7 (some 18) #[true, true, false, true, false, false, true, true, false, false, false, false, false, false, false] (any_of HT_.out (by kernel_rfl)) ?_
  refine pur 9 (some 20) #[true, true, false, true, false, false, true, true, false, true, false, false, false, false, false] (any_of HT_.out (by kernel_rfl)) ?_
  refine tak 2 (some 13) #[true, true, true, true, false, false, true, true, false, true, false, false, false, false, false] (take_ofW HT_.out HW_.out (by kernel_rfl)) hHeld ?_
  refine tak 4 (some 15) #[true, true, true, true, true, false, true, true, false, true, false, false, false, false, false] (take_ofW HT_.out HW_.out (by kernel_rfl)) hHeld ?_
  refine tak 8 (some 19) #[true, true, true, true, true, false, true, true, true, true, false, false, false, false, false] (take_ofW HT_.out HW_.out (by kernel_rfl)) hHeld ?_
  refine tak 10 (some 21) #[true, true, true, true, true, false, true, true, true, true, true, false, false, false, false] (take_ofW HT_.out HW_.out (by kernel_rfl)) hHeld ?_
  refine one_ (i := 5) (N := some 16) #[true, true, true, true, true, true, true, true, true, true, true, false, false, false, false] rfl rfl (one_of HT_.out (by kernel_rfl)) (by decide) (fun K hK => ?_)
  refine goesU0_ Try.func51 (by kernel_rfl) rfl (by rfl) #[.agg #[.bool t7304, .int .i64 t7305, .int .i64 t7306], .agg #[.bool t7310, .int .i64 t7311, .int .i64 t7312]] (by rfl) rfl rfl pa ?_
  with_reducible refine (ints_Add.calls k t7304 t7305 t7306 t7310 t7311 t7312 t7316 t7317 t7318 _ A5.out).mono ?_
  rintro e w28 ⟨rfl, hb⟩
  refine ⟨_, rfl, ?_⟩
  replace BK7301 := kb BK7301 hb
  replace BK7302 := kb BK7302 hb
  replace BK7303 := kb BK7303 hb
  replace HB := kh HB hb
  (try clear hb)
  refine hK.out _ _ ⟨bc BK7301 0, bc BK7301 1, bc BK7301 2, bc BK7301 3, bc BK7301 4, bc BK7301 5, bc BK7302 0, bc BK7302 1, bc BK7302 2, bc BK7302 3, bc BK7302 4, bc BK7302 5⟩ (fun hHeld => ?_)
  clear hK K
  refine nrm (some 16) ?_
  refine one_ (i := 11) (N := some 22) #[true, true, true, true, true, true, true, true, true, true, true, true, false, false, false] rfl rfl (one_of HT_.out (by kernel_rfl)) (by decide) (fun K hK => ?_)
  refine goesU0_ Try.func51 (by kernel_rfl) rfl (by rfl) #[.agg #[.bool t7307, .int .i64 t7308, .int .i64 t7309], .agg #[.bool t7313, .int .i64 t7314, .int .i64 t7315]] (by rfl) rfl rfl pa ?_
  with_reducible refine (ints_Add.calls k t7307 t7308 t7309 t7313 t7314 t7315 t7319 t7320 t7321 _ A6.out).mono ?_
  rintro e w29 ⟨rfl, hb⟩
  refine ⟨_, rfl, ?_⟩
  replace BK7301 := kb BK7301 hb
  replace BK7302 := kb BK7302 hb
  replace BK7303 := kb BK7303 hb
  replace HB := kh HB hb
  (try clear hb)
  refine hK.out _ _ ⟨bc BK7301 0, bc BK7301 1, bc BK7301 2, bc BK7301 3, bc BK7301 4, bc BK7301 5, bc BK7302 0, bc BK7302 1, bc BK7302 2, bc BK7302 3, bc BK7302 4, bc BK7302 5⟩ (fun hHeld => ?_)
  clear hK K
  refine nrm (some 22) ?_
  refine pur 12 (some 23) #[true, true, true, true, true, true, true, true, true, true, true, true, true, false, false] (any_of HT_.out (by kernel_rfl)) ?_
  refine one_ (i := 13) (N := some 24) #[true, true, true, true, true, true, true, true, true, true, true, true, true, true, false] rfl rfl (one_of HT_.out (by kernel_rfl)) (by decide) (fun K hK => ?_)
  refine gc Try.func61 #[.agg #[.bool t7316, .int .i64 t7317, .int .i64 t7318, .bool t7319, .int .i64 t7320, .int .i64 t7321]] (clock_norm.calls k t7316 t7317 t7318 t7319 t7320 t7321 t7322 t7323 t7324 t7325 t7326 t7327 _ A7.out) ?_
  intro w30 hb
  replace BK7301 := kb BK7301 hb
  replace BK7302 := kb BK7302 hb
  replace BK7303 := kb BK7303 hb
  replace HB := kh HB hb
  (try clear hb)
  refine hK.out _ _ ⟨bc BK7301 0, bc BK7301 1, bc BK7301 2, bc BK7301 3, bc BK7301 4, bc BK7301 5, bc BK7302 0, bc BK7302 1, bc BK7302 2, bc BK7302 3, bc BK7302 4, bc BK7302 5⟩ (fun hHeld => ?_)
  clear hK K
  refine nrm (some 24) ?_
  refine one_ (i := 14) (N := none) #[true, true, true, true, true, true, true, true, true, true, true, true, true, true, true] rfl rfl (one_of HT_.out (by kernel_rfl)) (by decide) (fun K hK => ?_)
  have hs31 : w30.cell? ⟨gb7303, 0, none⟩ = some (.bool false) := bc BK7303 0
  have hfs31 := blk_frozen BK7303.out 0
  have hns31_0 := NB7301_7303.out
  have hns31_1 := NB7302_7303.out
  have hms31_0 := NB7303_7301.out
  have hms31_1 := NB7303_7302.out
  have hs32 : w30.cell? ⟨gb7303, 1, none⟩ = some (.int .i64 0) := bc BK7303 1
  have hfs32 := blk_frozen BK7303.out 1
  have hs33 : w30.cell? ⟨gb7303, 2, none⟩ = some (.int .i64 0) := bc BK7303 2
  have hfs33 := blk_frozen BK7303.out 2
  have hs34 : w30.cell? ⟨gb7303, 3, none⟩ = some (.bool false) := bc BK7303 3
  have hfs34 := blk_frozen BK7303.out 3
  have hs35 : w30.cell? ⟨gb7303, 4, none⟩ = some (.int .i64 0) := bc BK7303 4
  have hfs35 := blk_frozen BK7303.out 4
  have hs36 : w30.cell? ⟨gb7303, 5, none⟩ = some (.int .i64 0) := bc BK7303 5
  have hfs36 := blk_frozen BK7303.out 5
  refine skip_ (w1 := ?_) (by rfl) rfl ?_ ?_
  rotate_left
  · go_simp
    rfl
  refine hK.out _ _ ⟨cf hHeld.1, cf hHeld.2.1, cf hHeld.2.2.1, cf hHeld.2.2.2.1, cf hHeld.2.2.2.2.1, cf hHeld.2.2.2.2.2.1, cf hHeld.2.2.2.2.2.2.1, cf hHeld.2.2.2.2.2.2.2.1, cf hHeld.2.2.2.2.2.2.2.2.1, cf hHeld.2.2.2.2.2.2.2.2.2.1, cf hHeld.2.2.2.2.2.2.2.2.2.2.1, cf hHeld.2.2.2.2.2.2.2.2.2.2.2⟩ (fun hHeld => ?_)
  clear hK K
  refine done_ (done_of HT_.out (by kernel_rfl)) ?_
  try go_wp2
  refine bodyPost_ret (results_cell_row rfl _ _ gb7303 25 #[.bool t7322, .int .i64 t7323, .int .i64 t7324, .bool t7325, .int .i64 t7326, .int .i64 t7327] (0, 0) _ rfl (pK BK7303) Try.underlying25 rfl (by kernel_rfl)) rfl ?_
  exact ⟨pe, pl HB⟩
/-! ### clock_Move: function 17 -/
def clock_Move.f (k : Nat) (a0_0 : Bool) (a0_1 : Int) (a0_2 : Int) (a0_3 : Bool) (a0_4 : Int) (a0_5 : Int) (a1_0 : Bool) (a1_1 : Int) (a1_2 : Int) : Option (Bool × Int × Int × Bool × Int × Int) := (clock_bothAdd.f k a0_0 a0_1 a0_2 a0_3 a0_4 a0_5 a1_0 a1_1 a1_2 a1_0 a1_1 a1_2).bind fun bt7454 => (some (bt7454.1, bt7454.2.1, bt7454.2.2.1, bt7454.2.2.2.1, bt7454.2.2.2.2.1, bt7454.2.2.2.2.2))
theorem clock_Move.mono : ∀ a0 a1 a2 a3 a4 a5 a6 a7 a8 k, LeO (clock_Move.f k a0 a1 a2 a3 a4 a5 a6 a7 a8) (clock_Move.f (k + 1) a0 a1 a2 a3 a4 a5 a6 a7 a8) := by
  intro a0 a1 a2 a3 a4 a5 a6 a7 a8 k
  unfold clock_Move.f
  repeat' first
      | (with_reducible exact clock_bothAdd.mono _ _ _ _ _ _ _ _ _ _ _ _ _)
      | (with_reducible exact LeO.refl _)
      | (with_reducible exact LeO.none _)
      | (with_reducible refine LeO.ite ?_ ?_)
      | (with_reducible refine LeO.bind ?_ (fun _ => ?_))
      | exact clock_bothAdd.mono _ _ _ _ _ _ _ _ _ _ _ _ _
      | exact LeO.none _
      | refine LeO.ite ?_ ?_
      | refine LeO.bind ?_ (fun _ => ?_)
set_option maxHeartbeats 8000000 in
set_option maxRecDepth 100000 in
theorem clock_Move.calls (k : Nat) (a0_0 : Bool) (a0_1 : Int) (a0_2 : Int) (a0_3 : Bool) (a0_4 : Int) (a0_5 : Int) (a1_0 : Bool) (a1_1 : Int) (a1_2 : Int) (r1 : Bool) (r2 : Int) (r3 : Int) (r4 : Bool) (r5 : Int) (r6 : Int) (w : World) (h : clock_Move.f k a0_0 a0_1 a0_2 a0_3 a0_4 a0_5 a1_0 a1_1 a1_2 = some (r1, r2, r3, r4, r5, r6)) :
    Calls Try.prog 17 #[.agg #[.bool a0_0, .int .i64 a0_1, .int .i64 a0_2, .bool a0_3, .int .i64 a0_4, .int .i64 a0_5], .agg #[.bool a1_0, .int .i64 a1_1, .int .i64 a1_2]] w fun e w' => e = .returned (.agg #[.bool r1, .int .i64 r2, .int .i64 r3, .bool r4, .int .i64 r5, .int .i64 r6]) ∧ Below w.heap.size w w' := by
  have hu25 := Try.underlying25
  have hu23 := Try.underlying23
  have HB := Aside0.mk (Below.refl w.heap.size w)
  have H := h
  clear h
  unfold clock_Move.f at H
  obtain ⟨⟨t7454, t7455, t7456, t7457, t7458, t7459⟩, A30, H⟩ := Option.bind_eq_some_iff.mp H
  have A3 := Aside0.mk A30
  clear A30
  (try dsimp only at H)
  simp only [Option.some.injEq, Prod.mk.injEq] at H
  obtain ⟨rfl, rfl, rfl, rfl, rfl, rfl⟩ := H
  go_enter Try.func17, Try.ntmps17
  go_wp2_with (first | ((with_reducible refine gate_dst (N := 2) rfl ?_); refine kx 2 #[.bool a0_0, .int .i64 a0_1, .int .i64 a0_2, .bool a0_3, .int .i64 a0_4, .int .i64 a0_5] 25 ?_; intro gb7451 hg w4 hbox hb; have BK7451 := Aside0.mk (hbox); have GW7451 := kg HB hg; have GE7451 := kg HB hg; replace HB := kh HB hb; clear hb hbox hg) | ((with_reducible refine gate_dst (N := 3) rfl ?_); refine kx 3 #[.bool a1_0, .int .i64 a1_1, .int .i64 a1_2] 23 ?_; intro gb7452 hg w5 hbox hb; have BK7452 := Aside0.mk (hbox); have GW7452 := kg HB hg; have GE7452 := kg HB hg; have NB7451_7452 := kn BK7451 hg; have NB7452_7451 := km BK7451 hg; replace BK7451 := kb BK7451 hb; replace HB := kh HB hb; clear hb hbox hg) | ((with_reducible refine gate_dst (N := 4) rfl ?_); refine kx 4 #[.bool false, .int .i64 0, .int .i64 0, .bool false, .int .i64 0, .int .i64 0] 25 ?_; intro gb7453 hg w6 hbox hb; have BK7453 := Aside0.mk (hbox); have GW7453 := kg HB hg; have GE7453 := kg HB hg; have NB7451_7453 := kn BK7451 hg; have NB7453_7451 := km BK7451 hg; have NB7452_7453 := kn BK7452 hg; have NB7453_7452 := km BK7452 hg; replace BK7451 := kb BK7451 hb; replace BK7452 := kb BK7452 hb; replace HB := kh HB hb; clear hb hbox hg; have hnb7 := NB7451_7452.out; have hnc7 := NB7452_7451.out; have hnb8 := NB7451_7453.out; have hnc8 := NB7453_7451.out; have ⟨hcz9_0, hcz9_1, hcz9_2, hcz9_3, hcz9_4, hcz9_5, hfz9_0, hfz9_1, hfz9_2, hfz9_3, hfz9_4, hfz9_5⟩ := kz6f BK7451; have hnb10 := NB7452_7453.out; have hnc10 := NB7453_7452.out; have ⟨hcz11_0, hcz11_1, hcz11_2, hfz11_0, hfz11_1, hfz11_2⟩ := kz3f BK7452) | ((with_reducible refine gate_callee (f := 65) rfl ?_); refine kc (some 9) Try.func65 #[.agg #[.bool a0_0, .int .i64 a0_1, .int .i64 a0_2, .bool a0_3, .int .i64 a0_4, .int .i64 a0_5], .agg #[.bool a1_0, .int .i64 a1_1, .int .i64 a1_2, .bool a1_0, .int .i64 a1_1, .int .i64 a1_2], .func (.func 51) #[] #[]] (clock_bothAdd.calls k a0_0 a0_1 a0_2 a0_3 a0_4 a0_5 a1_0 a1_1 a1_2 a1_0 a1_1 a1_2 t7454 t7455 t7456 t7457 t7458 t7459 _ A3.out) ?_; intro w12 hb; replace BK7451 := kb BK7451 hb; replace BK7452 := kb BK7452 hb; replace BK7453 := kb BK7453 hb; replace HB := kh HB hb; (try clear hb); have ⟨hcz13_0, hcz13_1, hcz13_2, hcz13_3, hcz13_4, hcz13_5, hfz13_0, hfz13_1, hfz13_2, hfz13_3, hfz13_4, hfz13_5⟩ := kz6f BK7453))
  refine bodyPost_ret (results_cell_row rfl _ _ gb7453 25 #[.bool t7454, .int .i64 t7455, .int .i64 t7456, .bool t7457, .int .i64 t7458, .int .i64 t7459] (0, 0) _ rfl (pK BK7453) Try.underlying25 rfl (by kernel_rfl)) rfl ?_
  exact ⟨pe, pl HB⟩
/-! ### clock_Tick: function 20 -/
def clock_Tick.f (k : Nat) (a0_0 : Bool) (a0_1 : Int) (a0_2 : Int) (a0_3 : Bool) (a0_4 : Int) (a0_5 : Int) : Option (Bool × Int × Int × Bool × Int × Int) := (ints_Point.f (-1)).bind fun bt7603 => ((ints_Point.f 1).bind fun bt7606 => ((clock_bothAdd.f k a0_0 a0_1 a0_2 a0_3 a0_4 a0_5 bt7603.1 bt7603.2.1 bt7603.2.2 bt7606.1 bt7606.2.1 bt7606.2.2).bind fun bt7609 => (some (bt7609.1, bt7609.2.1, bt7609.2.2.1, bt7609.2.2.2.1, bt7609.2.2.2.2.1, bt7609.2.2.2.2.2))))
theorem clock_Tick.mono : ∀ a0 a1 a2 a3 a4 a5 k, LeO (clock_Tick.f k a0 a1 a2 a3 a4 a5) (clock_Tick.f (k + 1) a0 a1 a2 a3 a4 a5) := by
  intro a0 a1 a2 a3 a4 a5 k
  unfold clock_Tick.f
  repeat' first
      | (with_reducible exact clock_bothAdd.mono _ _ _ _ _ _ _ _ _ _ _ _ _)
      | (with_reducible exact LeO.refl _)
      | (with_reducible exact LeO.none _)
      | (with_reducible refine LeO.ite ?_ ?_)
      | (with_reducible refine LeO.bind ?_ (fun _ => ?_))
      | exact clock_bothAdd.mono _ _ _ _ _ _ _ _ _ _ _ _ _
      | exact LeO.none _
      | refine LeO.ite ?_ ?_
      | refine LeO.bind ?_ (fun _ => ?_)
set_option maxHeartbeats 8000000 in
set_option maxRecDepth 100000 in
theorem clock_Tick.calls (k : Nat) (a0_0 : Bool) (a0_1 : Int) (a0_2 : Int) (a0_3 : Bool) (a0_4 : Int) (a0_5 : Int) (r1 : Bool) (r2 : Int) (r3 : Int) (r4 : Bool) (r5 : Int) (r6 : Int) (w : World) (h : clock_Tick.f k a0_0 a0_1 a0_2 a0_3 a0_4 a0_5 = some (r1, r2, r3, r4, r5, r6)) :
    Calls Try.prog 20 #[.agg #[.bool a0_0, .int .i64 a0_1, .int .i64 a0_2, .bool a0_3, .int .i64 a0_4, .int .i64 a0_5]] w fun e w' => e = .returned (.agg #[.bool r1, .int .i64 r2, .int .i64 r3, .bool r4, .int .i64 r5, .int .i64 r6]) ∧ Below w.heap.size w w' := by
  have hu25 := Try.underlying25
  have HB := Aside0.mk (Below.refl w.heap.size w)
  have H := h
  clear h
  unfold clock_Tick.f at H
  obtain ⟨⟨t7603, t7604, t7605⟩, A20, H⟩ := Option.bind_eq_some_iff.mp H
  have A2 := Aside0.mk A20
  clear A20
  (try dsimp only at H)
  obtain ⟨⟨t7606, t7607, t7608⟩, A30, H⟩ := Option.bind_eq_some_iff.mp H
  have A3 := Aside0.mk A30
  clear A30
  (try dsimp only at H)
  obtain ⟨⟨t7609, t7610, t7611, t7612, t7613, t7614⟩, A40, H⟩ := Option.bind_eq_some_iff.mp H
  have A4 := Aside0.mk A40
  clear A40
  (try dsimp only at H)
  simp only [Option.some.injEq, Prod.mk.injEq] at H
  obtain ⟨rfl, rfl, rfl, rfl, rfl, rfl⟩ := H
  go_enter Try.func20, Try.ntmps20
  try go_wp2_with (first | ((with_reducible refine gate_dst (N := 1) rfl ?_); refine kx 1 #[.bool a0_0, .int .i64 a0_1, .int .i64 a0_2, .bool a0_3, .int .i64 a0_4, .int .i64 a0_5] 25 ?_; intro gb7601 hg w5 hbox hb; have BK7601 := Aside0.mk (hbox); have GW7601 := kg HB hg; have GE7601 := kg HB hg; replace HB := kh HB hb; clear hb hbox hg) | ((with_reducible refine gate_dst (N := 2) rfl ?_); refine kx 2 #[.bool false, .int .i64 0, .int .i64 0, .bool false, .int .i64 0, .int .i64 0] 25 ?_; intro gb7602 hg w6 hbox hb; have BK7602 := Aside0.mk (hbox); have GW7602 := kg HB hg; have GE7602 := kg HB hg; have NB7601_7602 := kn BK7601 hg; have NB7602_7601 := km BK7601 hg; replace BK7601 := kb BK7601 hb; replace HB := kh HB hb; clear hb hbox hg))
  replace BK7601 := Aside0.mk (blk_drew BK7601.out)
  replace BK7602 := Aside0.mk (blk_drew BK7602.out)
  replace HB := Aside0.mk (below_drew1 HB.out)
  refine start_ (n := 6) (S := fun w' => w'.cell? ⟨gb7601, 0, none⟩ = some (.bool a0_0) ∧ w'.cell? ⟨gb7601, 1, none⟩ = some (.int .i64 a0_1) ∧ w'.cell? ⟨gb7601, 2, none⟩ = some (.int .i64 a0_2) ∧ w'.cell? ⟨gb7601, 3, none⟩ = some (.bool a0_3) ∧ w'.cell? ⟨gb7601, 4, none⟩ = some (.int .i64 a0_4) ∧ w'.cell? ⟨gb7601, 5, none⟩ = some (.int .i64 a0_5)) (ds := []) #[false, false, false, false, false, false] (by kernel_rfl) rfl rfl ⟨bc BK7601 0, bc BK7601 1, bc BK7601 2, bc BK7601 3, bc BK7601 4, bc BK7601 5⟩ (fun hHeld => ?_)
  generalize w6.drew = w7 at BK7601 BK7602 HB hHeld ⊢
  refine tak 0 (some 3) #[true, false, false, false, false, false] (by kernel_rfl) hHeld ?_
  refine one_ (i := 1) (N := some 4) #[true, true, false, false, false, false] rfl rfl (by kernel_rfl) (by decide) (fun K hK => ?_)
  refine gc Try.func35 #[.int .i64 (-1)] (ints_Point.calls (-1) t7603 t7604 t7605 _ A2.out) ?_
  intro w8 hb
  replace BK7601 := kb BK7601 hb
  replace BK7602 := kb BK7602 hb
  replace HB := kh HB hb
  (try clear hb)
  refine hK.out _ _ ⟨bc BK7601 0, bc BK7601 1, bc BK7601 2, bc BK7601 3, bc BK7601 4, bc BK7601 5⟩ (fun hHeld => ?_)
  clear hK K
  refine nrm (some 4) ?_
  refine one_ (i := 2) (N := some 5) #[true, true, true, false, false, false] rfl rfl (by kernel_rfl) (by decide) (fun K hK => ?_)
  refine gc Try.func35 #[.int .i64 1] (ints_Point.calls 1 t7606 t7607 t7608 _ A3.out) ?_
  intro w9 hb
  replace BK7601 := kb BK7601 hb
  replace BK7602 := kb BK7602 hb
  replace HB := kh HB hb
  (try clear hb)
  refine hK.out _ _ ⟨bc BK7601 0, bc BK7601 1, bc BK7601 2, bc BK7601 3, bc BK7601 4, bc BK7601 5⟩ (fun hHeld => ?_)
  clear hK K
  refine nrm (some 5) ?_
  refine pur 3 (some 6) #[true, true, true, true, false, false] (by kernel_rfl) ?_
  refine one_ (i := 4) (N := some 7) #[true, true, true, true, true, false] rfl rfl (by kernel_rfl) (by decide) (fun K hK => ?_)
  refine gc Try.func65 #[.agg #[.bool a0_0, .int .i64 a0_1, .int .i64 a0_2, .bool a0_3, .int .i64 a0_4, .int .i64 a0_5], .agg #[.bool t7603, .int .i64 t7604, .int .i64 t7605, .bool t7606, .int .i64 t7607, .int .i64 t7608], .func (.func 51) #[] #[]] (clock_bothAdd.calls k a0_0 a0_1 a0_2 a0_3 a0_4 a0_5 t7603 t7604 t7605 t7606 t7607 t7608 t7609 t7610 t7611 t7612 t7613 t7614 _ A4.out) ?_
  intro w10 hb
  replace BK7601 := kb BK7601 hb
  replace BK7602 := kb BK7602 hb
  replace HB := kh HB hb
  (try clear hb)
  refine hK.out _ _ ⟨bc BK7601 0, bc BK7601 1, bc BK7601 2, bc BK7601 3, bc BK7601 4, bc BK7601 5⟩ (fun hHeld => ?_)
  clear hK K
  refine nrm (some 7) ?_
  refine one_ (i := 5) (N := none) #[true, true, true, true, true, true] rfl rfl (by kernel_rfl) (by decide) (fun K hK => ?_)
  have hs11 : w10.cell? ⟨gb7602, 0, none⟩ = some (.bool false) := bc BK7602 0
  have hfs11 := blk_frozen BK7602.out 0
  have hns11_0 := NB7601_7602.out
  have hms11_0 := NB7602_7601.out
  have hs12 : w10.cell? ⟨gb7602, 1, none⟩ = some (.int .i64 0) := bc BK7602 1
  have hfs12 := blk_frozen BK7602.out 1
  have hs13 : w10.cell? ⟨gb7602, 2, none⟩ = some (.int .i64 0) := bc BK7602 2
  have hfs13 := blk_frozen BK7602.out 2
  have hs14 : w10.cell? ⟨gb7602, 3, none⟩ = some (.bool false) := bc BK7602 3
  have hfs14 := blk_frozen BK7602.out 3
  have hs15 : w10.cell? ⟨gb7602, 4, none⟩ = some (.int .i64 0) := bc BK7602 4
  have hfs15 := blk_frozen BK7602.out 4
  have hs16 : w10.cell? ⟨gb7602, 5, none⟩ = some (.int .i64 0) := bc BK7602 5
  have hfs16 := blk_frozen BK7602.out 5
  refine skip_ (w1 := ?_) (by rfl) rfl ?_ ?_
  rotate_left
  · go_simp
    rfl
  refine hK.out _ _ ⟨cf hHeld.1, cf hHeld.2.1, cf hHeld.2.2.1, cf hHeld.2.2.2.1, cf hHeld.2.2.2.2.1, cf hHeld.2.2.2.2.2⟩ (fun hHeld => ?_)
  clear hK K
  refine done_ (by kernel_rfl) ?_
  try go_wp2
  refine bodyPost_ret (results_cell_row rfl _ _ gb7602 25 #[.bool t7609, .int .i64 t7610, .int .i64 t7611, .bool t7612, .int .i64 t7613, .int .i64 t7614] (0, 0) _ rfl (pK BK7602) Try.underlying25 rfl (by kernel_rfl)) rfl ?_
  exact ⟨pe, pl HB⟩
end Go.Proofs.Ytinmgnlofininaa.PAll
end
