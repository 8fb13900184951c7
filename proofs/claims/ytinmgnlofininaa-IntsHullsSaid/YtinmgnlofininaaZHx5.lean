/- Functions of the print, turned to this claim. -/
import Derived.Test.YtinmgnlofininaaZHW
import Derived.Test.YtinmgnlofininaaZHx0
import Derived.Test.YtinmgnlofininaaZHx3
import Derived.Test.YtinmgnlofininaaZHx4
section
namespace Go.Proofs.Ytinmgnlofininaa.PAll
open Go.RowKit Go.Proofs.YtinmgnlofininaaW.PrintWords Go.Proofs.YtinmgnlofininaaW.PrintLast Go.Proofs.YtinmgnlofininaaW.PrintMore
attribute [local go_sem] max2_int min2_int max_two min_two max_three min_three max_four min_four   -- for this text's walks alone
set_option linter.unusedVariables false
set_option linter.unusedSimpArgs false
/-! ### ints_hull: function 72 -/
def ints_hull.f (a0 : Int) (a1 : Int) : Option (Bool × Int × Int) := (ints_clip.f a0).bind fun t1752 => ((ints_clip.f a1).bind fun t1753 => (some (false, mn t1752 1099511627775, mx t1753 (-1099511627775))))
set_option maxHeartbeats 8000000 in
set_option maxRecDepth 100000 in
theorem ints_hull.calls (a0 : Int) (a1 : Int) (r1 : Bool) (r2 : Int) (r3 : Int) (w : World) (h : ints_hull.f a0 a1 = some (r1, r2, r3)) :
    Calls Try.prog 72 #[.int .i64 a0, .int .i64 a1] w fun e w' => e = .returned (.agg #[.bool r1, .int .i64 r2, .int .i64 r3]) ∧ Below w.heap.size w w' := by
  have hu23 := Try.underlying23
  have HB := Aside0.mk (Below.refl w.heap.size w)
  have H := h
  clear h
  unfold ints_hull.f at H
  obtain ⟨t1752, A30, H⟩ := Option.bind_eq_some_iff.mp H
  have A3 := Aside0.mk A30
  clear A30
  (try dsimp only at H)
  obtain ⟨ji4, hji4⟩ : ∃ j_ : Int, (mn t1752 1099511627775) = j_ := ⟨_, rfl⟩
  replace H : ((ints_clip.f a1).bind fun t1753 => (some (false, ji4, mx t1753 (-1099511627775)))) = some (r1, r2, r3) := by first | (rw [hji4] at H; exact H) | (simp only [hji4] at H ⊢; exact H)
  (try rw [hji4] at A3)
  (try (have hji4h : ji4 ≤ 1099511627775 := by (rw [← hji4]; unfold mn; (repeat' split) <;> omega)))
  (try (have hji4g : ji4 ≤ 64 := by omega))
  have hji4_ : (if 1099511627775 < t1752 then 1099511627775 else t1752) = ji4 := hji4
  obtain ⟨t1753, A50, H⟩ := Option.bind_eq_some_iff.mp H
  have A5 := Aside0.mk A50
  clear A50
  (try dsimp only at H)
  obtain ⟨ji6, hji6⟩ : ∃ j_ : Int, (mx t1753 (-1099511627775)) = j_ := ⟨_, rfl⟩
  replace H : (some (false, ji4, ji6)) = some (r1, r2, r3) := by first | (rw [hji6] at H; exact H) | (simp only [hji6] at H ⊢; exact H)
  (try rw [hji6] at A3)
  (try rw [hji6] at A5)
  have hji6_ : (if t1753 < (-1099511627775) then (-1099511627775) else t1753) = ji6 := hji6
  simp only [Option.some.injEq, Prod.mk.injEq] at H
  obtain ⟨rfl, rfl, rfl⟩ := H
  go_enter Try.func72, Try.ntmps72
  go_wp2_with (first | ((with_reducible refine gate_dst (N := 4) rfl ?_); refine kx 4 #[.bool false, .int .i64 0, .int .i64 0] 23 ?_; intro gb1751 hg w7 hbox hb; have BK1751 := Aside0.mk (hbox); have GW1751 := kg HB hg; have GE1751 := kg HB hg; replace HB := kh HB hb; clear hb hbox hg) | ((with_reducible refine gate_callee (f := 80) rfl ?_); refine kc (some 6) Try.func80 #[.int .i64 a0] (ints_clip.calls a0 t1752 _ A3.out) ?_; intro w8 hb; replace BK1751 := kb BK1751 hb; replace HB := kh HB hb; (try clear hb)) | ((with_reducible refine gate_callee (f := 80) rfl ?_); refine kc (some 9) Try.func80 #[.int .i64 a1] (ints_clip.calls a1 t1753 _ A5.out) ?_; intro w9 hb; replace BK1751 := kb BK1751 hb; replace HB := kh HB hb; (try clear hb); have ⟨hcz10_0, hcz10_1, hcz10_2, hfz10_0, hfz10_1, hfz10_2⟩ := kz3f BK1751))
  refine bodyPost_ret (results_cell_row rfl _ _ gb1751 23 #[.bool false, .int .i64 ji4, .int .i64 ji6] (0, 0) _ rfl (pK BK1751) Try.underlying23 rfl (by kernel_rfl)) rfl ?_
  exact ⟨by first | rfl | (simp [errW_none, errW_some] <;> rfl) | (simp only [← hji4, ← hji6]; first | rfl | (simp [errW_none, errW_some] <;> rfl)) | (simp [*, errW_none, errW_some] <;> rfl), pl HB⟩
/-! ### ints_far: function 81 -/
def ints_far.f (a0 : Int) : Option (Bool) := if a0 ≥ 1099511627776 then (some true) else (some (decide (a0 ≤ (-1099511627776))))
set_option maxHeartbeats 8000000 in
set_option maxRecDepth 100000 in
theorem ints_far.calls (a0 : Int) (r : Bool) (w : World) (h : ints_far.f a0 = some r) :
    Calls Try.prog 81 #[.int .i64 a0] w fun e w' => e = .returned (.bool r) ∧ Drawn0 w w' := by
  have H := h
  clear h
  unfold ints_far.f at H
  by_cases c2 : a0 ≥ 1099511627776
  · rw [if_pos c2] at H
    have c2b0 : decide (1099511627776 ≤ a0) = true := decide_eq_true c2
    clear c2
    obtain rfl := Option.some.inj H
    go_enter Try.func81, Try.ntmps81
    go_wp2
    go_ret
    exact ⟨by first | rfl | (simp; done) | (simp [*]; done), by repeat (first | exact Drawn0.refl _ | apply Drawn0.step)⟩
  · rw [if_neg c2] at H
    have c2b0 : decide (1099511627776 ≤ a0) = false := decide_eq_false c2
    clear c2
    obtain rfl := Option.some.inj H
    go_enter Try.func81, Try.ntmps81
    go_wp2
    go_ret
    exact ⟨by first | rfl | (simp; done) | (simp [*]; done), by repeat (first | exact Drawn0.refl _ | apply Drawn0.step)⟩
/-! ### ints_sum: function 73 -/
def ints_sum.f (a0 : Int) (a1 : Int) : Option (Int) := (ints_far.f a0).bind fun t2051 => (if t2051 = true then (some a0) else ((ints_far.f a1).bind fun t2052 => (if t2052 = true then (some a1) else ((ints_clip.f (wrap64 (a0 + a1))).bind fun t2053 => (some t2053)))))
set_option maxHeartbeats 8000000 in
set_option maxRecDepth 100000 in
theorem ints_sum.calls (a0 : Int) (a1 : Int) (r : Int) (w : World) (h : ints_sum.f a0 a1 = some r) :
    Calls Try.prog 73 #[.int .i64 a0, .int .i64 a1] w fun e w' => e = .returned (.int .i64 r) ∧ Below w.heap.size w w' := by
  have HB := Aside0.mk (Below.refl w.heap.size w)
  have H := h
  clear h
  unfold ints_sum.f at H
  obtain ⟨t2051, A30, H⟩ := Option.bind_eq_some_iff.mp H
  have A3 := Aside0.mk A30
  clear A30
  (try dsimp only at H)
  by_cases c4 : t2051 = true
  · subst c4
    rw [if_pos rfl] at H
    obtain rfl := Option.some.inj H
    go_enter Try.func73, Try.ntmps73
    go_wp2_with (first | ((with_reducible refine gate_callee (f := 81) rfl ?_); refine goesL_ (some 7) rfl rfl Try.func81 (by kernel_rfl) rfl #[.int .i64 a0] rfl pa ?_; (with_reducible refine (ints_far.calls a0 true _ A3.out).mono ?_); rintro e w' ⟨rfl, ⟨nd, rfl⟩⟩; refine ⟨_, rfl, ?_⟩))
    go_ret
    exact ⟨pe, pl HB⟩
  · replace c4 := Bool.eq_false_iff.mpr c4
    subst c4
    rw [if_neg (show ¬ (false = true) by decide)] at H
    obtain ⟨t2052, A50, H⟩ := Option.bind_eq_some_iff.mp H
    have A5 := Aside0.mk A50
    clear A50
    (try dsimp only at H)
    by_cases c6 : t2052 = true
    · subst c6
      rw [if_pos rfl] at H
      obtain rfl := Option.some.inj H
      go_enter Try.func73, Try.ntmps73
      go_wp2_with (first | ((with_reducible refine gate_callee (f := 81) rfl ?_); refine goesL_ (some 7) rfl rfl Try.func81 (by kernel_rfl) rfl #[.int .i64 a0] rfl pa ?_; (with_reducible refine (ints_far.calls a0 false _ A3.out).mono ?_); rintro e w' ⟨rfl, ⟨nd, rfl⟩⟩; refine ⟨_, rfl, ?_⟩) | ((with_reducible refine gate_callee (f := 81) rfl ?_); refine goesL_ (some 11) rfl rfl Try.func81 (by kernel_rfl) rfl #[.int .i64 a1] rfl pa ?_; (with_reducible refine (ints_far.calls a1 true _ A5.out).mono ?_); rintro e w' ⟨rfl, ⟨nd, rfl⟩⟩; refine ⟨_, rfl, ?_⟩))
      go_ret
      exact ⟨pe, pl HB⟩
    · replace c6 := Bool.eq_false_iff.mpr c6
      subst c6
      rw [if_neg (show ¬ (false = true) by decide)] at H
      obtain ⟨t2053, A70, H⟩ := Option.bind_eq_some_iff.mp H
      have A7 := Aside0.mk A70
      clear A70
      (try dsimp only at H)
      obtain rfl := Option.some.inj H
      go_enter Try.func73, Try.ntmps73
      go_wp2_with (first | ((with_reducible refine gate_callee (f := 81) rfl ?_); refine goesL_ (some 7) rfl rfl Try.func81 (by kernel_rfl) rfl #[.int .i64 a0] rfl pa ?_; (with_reducible refine (ints_far.calls a0 false _ A3.out).mono ?_); rintro e w' ⟨rfl, ⟨nd, rfl⟩⟩; refine ⟨_, rfl, ?_⟩) | ((with_reducible refine gate_callee (f := 81) rfl ?_); refine goesL_ (some 11) rfl rfl Try.func81 (by kernel_rfl) rfl #[.int .i64 a1] rfl pa ?_; (with_reducible refine (ints_far.calls a1 false _ A5.out).mono ?_); rintro e w' ⟨rfl, ⟨nd, rfl⟩⟩; refine ⟨_, rfl, ?_⟩) | ((with_reducible refine gate_callee (f := 80) rfl ?_); refine kc (some 16) Try.func80 #[.int .i64 (wrap64 (a0 + a1))] (ints_clip.calls (wrap64 (a0 + a1)) t2053 _ A7.out) ?_; intro w8 hb; replace HB := kh HB hb; (try clear hb)))
      go_ret
      exact ⟨pe, pl HB⟩
/-! ### ints_Add: function 51 -/
def ints_Add.j0 : Nat → Bool → Bool → Int → Int → Bool → Int → Int → Option (Bool × Int × Int)
  | 0, _, _, _, _, _, _, _ => none
  | k + 1, x14, x2202000, x2202001, x2202002, x2203000, x2203001, x2203002 => if x14 = true then ((ints_none.f).bind fun bt2210 => (some (bt2210.1, bt2210.2.1, bt2210.2.2))) else ((ints_sum.f x2202001 x2203001).bind fun t2213 => ((ints_sum.f x2202002 x2203002).bind fun t2214 => ((ints_hull.f t2213 t2214).bind fun bt2215 => (some (bt2215.1, bt2215.2.1, bt2215.2.2)))))
def ints_Add.f (k : Nat) (a0_0 : Bool) (a0_1 : Int) (a0_2 : Int) (a1_0 : Bool) (a1_1 : Int) (a1_2 : Int) : Option (Bool × Int × Int) := (ints_norm.f a0_0 a0_1 a0_2).bind fun bt2204 => ((ints_norm.f a1_0 a1_1 a1_2).bind fun bt2207 => (if bt2204.1 = true then (ints_Add.j0 k true bt2204.1 bt2204.2.1 bt2204.2.2 bt2207.1 bt2207.2.1 bt2207.2.2) else (ints_Add.j0 k bt2207.1 bt2204.1 bt2204.2.1 bt2204.2.2 bt2207.1 bt2207.2.1 bt2207.2.2)))
theorem ints_Add.mono_l : ∀ k, (∀ y0 y1 y2 y3 y4 y5 y6, LeO (ints_Add.j0 k y0 y1 y2 y3 y4 y5 y6) (ints_Add.j0 (k + 1) y0 y1 y2 y3 y4 y5 y6))
  | 0 => fun _ _ _ _ _ _ _ r h => by simp [ints_Add.j0] at h
  | k + 1 => by
    have ih0 := ints_Add.mono_l k
    · intro y0 y1 y2 y3 y4 y5 y6
      unfold ints_Add.j0
      repeat' first
      | (with_reducible exact ih0 _ _ _ _ _ _ _)
      | (with_reducible exact LeO.refl _)
      | (with_reducible exact LeO.none _)
      | (with_reducible refine LeO.ite ?_ ?_)
      | (with_reducible refine LeO.bind ?_ (fun _ => ?_))
      | exact ih0 _ _ _ _ _ _ _
      | exact LeO.none _
      | refine LeO.ite ?_ ?_
      | refine LeO.bind ?_ (fun _ => ?_)
theorem ints_Add.mono : ∀ a0 a1 a2 a3 a4 a5 k, LeO (ints_Add.f k a0 a1 a2 a3 a4 a5) (ints_Add.f (k + 1) a0 a1 a2 a3 a4 a5) := by
  intro a0 a1 a2 a3 a4 a5 k
  have ih0 := ints_Add.mono_l k
  unfold ints_Add.f
  repeat' first
      | (with_reducible exact ih0 _ _ _ _ _ _ _)
      | (with_reducible exact LeO.refl _)
      | (with_reducible exact LeO.none _)
      | (with_reducible refine LeO.ite ?_ ?_)
      | (with_reducible refine LeO.bind ?_ (fun _ => ?_))
      | exact ih0 _ _ _ _ _ _ _
      | exact LeO.none _
      | refine LeO.ite ?_ ?_
      | refine LeO.bind ?_ (fun _ => ?_)
def ints_Add.T4 : Bool × List (List Nat × List Nat) := (true, [([], []), ([0], [0]), ([], []), ([2], [2]), ([1, 3], [1, 3]), ([], []), ([5], [5]), ([], []), ([7], [7]), ([6, 8, 4], [6, 8]), ([4, 9, 9], [4, 9]), ([10, 10, 0, 1, 2, 3, 4, 5, 6, 7, 8, 9, 10], [10])])
def ints_Add.B4 : List Nat := [0, 1, 0, 4, 15, 0, 32, 0, 128, 511, 1023, 2047]
theorem ints_Add.tab4 : rtab .any (opsOf Try.f51 4) = ints_Add.T4 := by kernel_rfl
theorem ints_Add.bits4 : waitsOk ints_Add.T4.2 ints_Add.B4 = true := by kernel_rfl
set_option maxHeartbeats 8000000 in
set_option maxRecDepth 100000 in
theorem ints_Add.calls (k : Nat) (a0_0 : Bool) (a0_1 : Int) (a0_2 : Int) (a1_0 : Bool) (a1_1 : Int) (a1_2 : Int) (r1 : Bool) (r2 : Int) (r3 : Int) (w : World) (h : ints_Add.f k a0_0 a0_1 a0_2 a1_0 a1_1 a1_2 = some (r1, r2, r3)) :
    Calls Try.prog 51 #[.agg #[.bool a0_0, .int .i64 a0_1, .int .i64 a0_2], .agg #[.bool a1_0, .int .i64 a1_1, .int .i64 a1_2]] w fun e w' => e = .returned (.agg #[.bool r1, .int .i64 r2, .int .i64 r3]) ∧ Below w.heap.size w w' := by
  have hu23 := Try.underlying23
  have HB := Aside0.mk (Below.refl w.heap.size w)
  have H := h
  clear h
  unfold ints_Add.f at H
  obtain ⟨⟨t2204, t2205, t2206⟩, A30, H⟩ := Option.bind_eq_some_iff.mp H
  have A3 := Aside0.mk A30
  clear A30
  (try dsimp only at H)
  obtain ⟨⟨t2207, t2208, t2209⟩, A40, H⟩ := Option.bind_eq_some_iff.mp H
  have A4 := Aside0.mk A40
  clear A40
  (try dsimp only at H)
  have HC5 := Aside0.mk H
  clear H
  go_enter Try.func51, Try.ntmps51
  try go_wp2_with (first | ((with_reducible refine gate_dst (N := 2) rfl ?_); refine kx 2 #[.bool a0_0, .int .i64 a0_1, .int .i64 a0_2] 23 ?_; intro gb2201 hg w6 hbox hb; have BK2201 := Aside0.mk (hbox); have GW2201 := kg HB hg; have GE2201 := kg HB hg; replace HB := kh HB hb; clear hb hbox hg) | ((with_reducible refine gate_dst (N := 3) rfl ?_); refine kx 3 #[.bool a1_0, .int .i64 a1_1, .int .i64 a1_2] 23 ?_; intro gb2202 hg w7 hbox hb; have BK2202 := Aside0.mk (hbox); have GW2202 := kg HB hg; have GE2202 := kg HB hg; have NB2201_2202 := kn BK2201 hg; have NB2202_2201 := km BK2201 hg; replace BK2201 := kb BK2201 hb; replace HB := kh HB hb; clear hb hbox hg) | ((with_reducible refine gate_dst (N := 4) rfl ?_); refine kx 4 #[.bool false, .int .i64 0, .int .i64 0] 23 ?_; intro gb2203 hg w8 hbox hb; have BK2203 := Aside0.mk (hbox); have GW2203 := kg HB hg; have GE2203 := kg HB hg; have NB2201_2203 := kn BK2201 hg; have NB2203_2201 := km BK2201 hg; have NB2202_2203 := kn BK2202 hg; have NB2203_2202 := km BK2202 hg; replace BK2201 := kb BK2201 hb; replace BK2202 := kb BK2202 hb; replace HB := kh HB hb; clear hb hbox hg))
  replace BK2201 := Aside0.mk (blk_drew BK2201.out)
  replace BK2202 := Aside0.mk (blk_drew BK2202.out)
  replace BK2203 := Aside0.mk (blk_drew BK2203.out)
  replace HB := Aside0.mk (below_drew1 HB.out)
  refine start_ (n := 6) (S := fun w' => w'.cell? ⟨gb2201, 0, none⟩ = some (.bool a0_0) ∧ w'.cell? ⟨gb2201, 1, none⟩ = some (.int .i64 a0_1) ∧ w'.cell? ⟨gb2201, 2, none⟩ = some (.int .i64 a0_2) ∧ w'.cell? ⟨gb2202, 0, none⟩ = some (.bool a1_0) ∧ w'.cell? ⟨gb2202, 1, none⟩ = some (.int .i64 a1_1) ∧ w'.cell? ⟨gb2202, 2, none⟩ = some (.int .i64 a1_2)) (ds := [4, 5]) #[false, false, false, false, false, false] (by kernel_rfl) rfl rfl ⟨bc BK2201 0, bc BK2201 1, bc BK2201 2, bc BK2202 0, bc BK2202 1, bc BK2202 2⟩ (fun hHeld => ?_)
  generalize w8.drew = w9 at BK2201 BK2202 BK2203 HB hHeld ⊢
  refine tak 0 (some 5) #[true, false, false, false, false, false] (by kernel_rfl) hHeld ?_
  refine tak 2 (some 7) #[true, false, true, false, false, false] (by kernel_rfl) hHeld ?_
  refine one_ (i := 1) (N := some 6) #[true, true, true, false, false, false] rfl rfl (by kernel_rfl) (by decide) (fun K hK => ?_)
  refine gc Try.func68 #[.agg #[.bool a0_0, .int .i64 a0_1, .int .i64 a0_2]] (ints_norm.calls a0_0 a0_1 a0_2 t2204 t2205 t2206 _ A3.out) ?_
  intro w10 hb
  replace BK2201 := kb BK2201 hb
  replace BK2202 := kb BK2202 hb
  replace BK2203 := kb BK2203 hb
  replace HB := kh HB hb
  (try clear hb)
  refine hK.out _ _ ⟨bc BK2201 0, bc BK2201 1, bc BK2201 2, bc BK2202 0, bc BK2202 1, bc BK2202 2⟩ (fun hHeld => ?_)
  clear hK K
  refine nrm (some 6) ?_
  refine one_ (i := 3) (N := some 8) #[true, true, true, true, false, false] rfl rfl (by kernel_rfl) (by decide) (fun K hK => ?_)
  refine gc Try.func68 #[.agg #[.bool a1_0, .int .i64 a1_1, .int .i64 a1_2]] (ints_norm.calls a1_0 a1_1 a1_2 t2207 t2208 t2209 _ A4.out) ?_
  intro w11 hb
  replace BK2201 := kb BK2201 hb
  replace BK2202 := kb BK2202 hb
  replace BK2203 := kb BK2203 hb
  replace HB := kh HB hb
  (try clear hb)
  refine hK.out _ _ ⟨bc BK2201 0, bc BK2201 1, bc BK2201 2, bc BK2202 0, bc BK2202 1, bc BK2202 2⟩ (fun hHeld => ?_)
  clear hK K
  refine nrm (some 8) ?_
  refine last_ (i := 4) (N := none) #[true, true, true, true, true, false] rfl rfl (by kernel_rfl) (by decide) (fun K hK => ?_)
  have hs12 : w11.cell? ⟨gb2201, 0, none⟩ = some (.bool a0_0) := bc BK2201 0
  have hfs12 := blk_frozen BK2201.out 0
  have hns12_1 := NB2202_2201.out
  have hns12_2 := NB2203_2201.out
  have hms12_1 := NB2201_2202.out
  have hms12_2 := NB2201_2203.out
  have hs13 : w11.cell? ⟨gb2201, 1, none⟩ = some (.int .i64 a0_1) := bc BK2201 1
  have hfs13 := blk_frozen BK2201.out 1
  have hs14 : w11.cell? ⟨gb2201, 2, none⟩ = some (.int .i64 a0_2) := bc BK2201 2
  have hfs14 := blk_frozen BK2201.out 2
  refine skip_ (w1 := ?_) (by rfl) rfl ?_ ?_
  rotate_left
  · go_simp
    rfl
  refine hK.out _ _ ?_
  clear hK K
  refine last_ (i := 5) (N := none) #[true, true, true, true, true, true] rfl rfl (by kernel_rfl) (by decide) (fun K hK => ?_)
  have hs15 : w11.cell? ⟨gb2202, 0, none⟩ = some (.bool a1_0) := bc BK2202 0
  have hfs15 := blk_frozen BK2202.out 0
  have hns15_0 := NB2201_2202.out
  have hns15_2 := NB2203_2202.out
  have hms15_0 := NB2202_2201.out
  have hms15_2 := NB2202_2203.out
  have hs16 : w11.cell? ⟨gb2202, 1, none⟩ = some (.int .i64 a1_1) := bc BK2202 1
  have hfs16 := blk_frozen BK2202.out 1
  have hs17 : w11.cell? ⟨gb2202, 2, none⟩ = some (.int .i64 a1_2) := bc BK2202 2
  have hfs17 := blk_frozen BK2202.out 2
  refine skip_ (w1 := ?_) (by rfl) rfl ?_ ?_
  rotate_left
  · go_simp
    rfl
  refine hK.out _ _ ?_
  clear hK K
  refine done_ (by kernel_rfl) ?_
  go_upto_region 2 with (fail)
  go_cut [14] (fun v14 wc => ∃ (kq : Nat) (x14_4 : Bool), v14 = .bool x14_4 ∧ Aside0 (ints_Add.j0 kq x14_4 t2204 t2205 t2206 t2207 t2208 t2209 = some (r1, r2, r3)) ∧ Aside0 (kq ≤ k) ∧ Aside0 (wc.heap[gb2201]? = some (.cells #[.bool t2204, .int .i64 t2205, .int .i64 t2206] 23 (0, 0))) ∧ Aside0 (wc.heap[gb2202]? = some (.cells #[.bool t2207, .int .i64 t2208, .int .i64 t2209] 23 (0, 0))) ∧ Aside0 (wc.heap[gb2203]? = some (.cells #[.bool false, .int .i64 0, .int .i64 0] 23 (0, 0))) ∧ Aside0 (Below w.heap.size w wc))
  case first =>
    have H := HC5.out
    clear HC5
    by_cases c18 : t2204 = true
    · subst c18
      rw [if_pos rfl] at H
      have H' := Aside0.mk H
      clear H
      have hnb19 := NB2201_2202.out
      have hnc19 := NB2202_2201.out
      have hnb20 := NB2201_2203.out
      have hnc20 := NB2203_2201.out
      have ⟨hcz21_0, hcz21_1, hcz21_2, hfz21_0, hfz21_1, hfz21_2⟩ := kz3f BK2201
      go_wp2
      go_meet
      case rel => exact ⟨_, (true), (by first | rfl | (simp; done) | (simp [*]; done)), H', ⟨by first | omega | exact Nat.le_refl _⟩, ⟨pK BK2201⟩, ⟨pK BK2202⟩, ⟨pk BK2203⟩, ⟨pl HB⟩⟩
    · replace c18 := Bool.eq_false_iff.mpr c18
      subst c18
      rw [if_neg (show ¬ (false = true) by decide)] at H
      have H' := Aside0.mk H
      clear H
      have hnb22 := NB2201_2202.out
      have hnc22 := NB2202_2201.out
      have hnb23 := NB2201_2203.out
      have hnc23 := NB2203_2201.out
      have ⟨hcz24_0, hcz24_1, hcz24_2, hfz24_0, hfz24_1, hfz24_2⟩ := kz3f BK2201
      have hnb25 := NB2202_2203.out
      have hnc25 := NB2203_2202.out
      have ⟨hcz26_0, hcz26_1, hcz26_2, hfz26_0, hfz26_1, hfz26_2⟩ := kz3f BK2202
      go_wp2
      go_meet
      case rel => exact ⟨_, (t2207), (by first | rfl | (simp; done) | (simp [*]; done)), H', ⟨by first | omega | exact Nat.le_refl _⟩, ⟨pK BK2201⟩, ⟨pK BK2202⟩, ⟨pk BK2203⟩, ⟨pl HB⟩⟩
  case rest =>
    clear HC5
    try clear c1
    try clear c2
    try clear p2
    try clear c5
    try clear c6
    try clear c18
    try clear c19
    try clear c20
    try clear c22
    try clear c23
    try clear c25
    try clear hcz21_0
    try clear hcz21_1
    try clear hcz21_2
    try clear hcz24_0
    try clear hcz24_1
    try clear hcz24_2
    try clear hcz26_0
    try clear hcz26_1
    try clear hcz26_2
    try clear hfz21_0
    try clear hfz21_1
    try clear hfz21_2
    try clear hfz24_0
    try clear hfz24_1
    try clear hfz24_2
    try clear hfz26_0
    try clear hfz26_1
    try clear hfz26_2
    obtain ⟨kq, x14_4, rfl, HA, HJ4, BK2201, BK2202, BK2203, HB⟩ := hcut
    cases kq with
    | zero => exact absurd HA.out (by simp [ints_Add.j0])
    | succ kj4 =>
      have H := HA.out
      clear HA
      simp only [ints_Add.j0] at H
      by_cases c27 : x14_4 = true
      · subst c27
        rw [if_pos rfl] at H
        obtain ⟨⟨t2210, t2211, t2212⟩, A280, H⟩ := Option.bind_eq_some_iff.mp H
        have A28 := Aside0.mk A280
        clear A280
        (try dsimp only at H)
        simp only [Option.some.injEq, Prod.mk.injEq] at H
        obtain ⟨rfl, rfl, rfl⟩ := H
        go_wp2_with (first | ((with_reducible refine gate_callee (f := 70) rfl ?_); refine kc (some 15) Try.func70 #[] (ints_none.calls  t2210 t2211 t2212 _ A28.out) ?_; intro w29 hb; replace BK2201 := kb BK2201 hb; replace BK2202 := kb BK2202 hb; replace BK2203 := kb BK2203 hb; replace HB := kh HB hb; (try clear hb); have hnb30 := NB2203_2201.out; have hnc30 := NB2201_2203.out; have hnb31 := NB2203_2202.out; have hnc31 := NB2202_2203.out; have ⟨hcz32_0, hcz32_1, hcz32_2, hfz32_0, hfz32_1, hfz32_2⟩ := kz3f BK2203))
        refine bodyPost_ret (results_cell_row rfl _ _ gb2203 23 #[.bool t2210, .int .i64 t2211, .int .i64 t2212] (0, 0) _ rfl (pK BK2203) Try.underlying23 rfl (by kernel_rfl)) rfl ?_
        exact ⟨pe, pl HB⟩
      · replace c27 := Bool.eq_false_iff.mpr c27
        subst c27
        rw [if_neg (show ¬ (false = true) by decide)] at H
        obtain ⟨t2213, A330, H⟩ := Option.bind_eq_some_iff.mp H
        have A33 := Aside0.mk A330
        clear A330
        (try dsimp only at H)
        obtain ⟨t2214, A340, H⟩ := Option.bind_eq_some_iff.mp H
        have A34 := Aside0.mk A340
        clear A340
        (try dsimp only at H)
        obtain ⟨⟨t2215, t2216, t2217⟩, A350, H⟩ := Option.bind_eq_some_iff.mp H
        have A35 := Aside0.mk A350
        clear A350
        (try dsimp only at H)
        simp only [Option.some.injEq, Prod.mk.injEq] at H
        obtain ⟨rfl, rfl, rfl⟩ := H
        try go_wp2
        replace BK2201 := Aside0.mk (blk_drew BK2201.out)
        replace BK2202 := Aside0.mk (blk_drew BK2202.out)
        replace BK2203 := Aside0.mk (blk_drew BK2203.out)
        replace HB := Aside0.mk (below_drew1 HB.out)
        refine start_ (n := 12) (S := fun w' => w'.cell? ⟨gb2201, 0, none⟩ = some (.bool t2204) ∧ w'.cell? ⟨gb2201, 1, none⟩ = some (.int .i64 t2205) ∧ w'.cell? ⟨gb2201, 2, none⟩ = some (.int .i64 t2206) ∧ w'.cell? ⟨gb2202, 0, none⟩ = some (.bool t2207) ∧ w'.cell? ⟨gb2202, 1, none⟩ = some (.int .i64 t2208) ∧ w'.cell? ⟨gb2202, 2, none⟩ = some (.int .i64 t2209)) (ds := []) #[false, false, false, false, false, false, false, false, false, false, false, false] (by kernel_rfl) rfl rfl ⟨bc BK2201 0, bc BK2201 1, bc BK2201 2, bc BK2202 0, bc BK2202 1, bc BK2202 2⟩ (fun hHeld => ?_); refine with_tabW ints_Add.tab4 ints_Add.bits4 (fun HT_ HW_ => ?_)
        generalize wc.drew = w36 at BK2201 BK2202 BK2203 HB hHeld ⊢
        refine pur 0 (some 16) #[true, false, false, false, false, false, false, false, false, false, false, false] (any_of HT_.out (by kernel_rfl)) ?_
        refine pur 2 (some 18) #[true, false, true, false, false, false, false, false, false, false, false, false] (any_of HT_.out (by kernel_rfl)) ?_
        refine pur 5 (some 21) #[true, false, true, false, false, true, false, false, false, false, false, false] (any_of HT_.out (by kernel_rfl)) ?_
        refine pur 7 (some 23) #[true, false, true, false, false, true, false, true, false, false, false, false] (any_of HT_.out (by kernel_rfl)) ?_
        refine tak 1 (some 17) #[true, true, true, false, false, true, false, true, false, false, false, false] (take_ofW HT_.out HW_.out (by kernel_rfl)) hHeld ?_
        refine tak 3 (some 19) #[true, true, true, true, false, true, false, true, false, false, false, false] (take_ofW HT_.out HW_.out (by kernel_rfl)) hHeld ?_
        refine tak 6 (some 22) #[true, true, true, true, false, true, true, true, false, false, false, false] (take_ofW HT_.out HW_.out (by kernel_rfl)) hHeld ?_
        refine tak 8 (some 24) #[true, true, true, true, false, true, true, true, true, false, false, false] (take_ofW HT_.out HW_.out (by kernel_rfl)) hHeld ?_
        refine one_ (i := 4) (N := some 20) #[true, true, true, true, true, true, true, true, true, false, false, false] rfl rfl (one_of HT_.out (by kernel_rfl)) (by decide) (fun K hK => ?_)
        refine gc Try.func73 #[.int .i64 t2205, .int .i64 t2208] (ints_sum.calls t2205 t2208 t2213 _ A33.out) ?_
        intro w37 hb
        replace BK2201 := kb BK2201 hb
        replace BK2202 := kb BK2202 hb
        replace BK2203 := kb BK2203 hb
        replace HB := kh HB hb
        (try clear hb)
        refine hK.out _ _ ⟨bc BK2201 0, bc BK2201 1, bc BK2201 2, bc BK2202 0, bc BK2202 1, bc BK2202 2⟩ (fun hHeld => ?_)
        clear hK K
        refine nrm (some 20) ?_
        refine one_ (i := 9) (N := some 25) #[true, true, true, true, true, true, true, true, true, true, false, false] rfl rfl (one_of HT_.out (by kernel_rfl)) (by decide) (fun K hK => ?_)
        refine gc Try.func73 #[.int .i64 t2206, .int .i64 t2209] (ints_sum.calls t2206 t2209 t2214 _ A34.out) ?_
        intro w38 hb
        replace BK2201 := kb BK2201 hb
        replace BK2202 := kb BK2202 hb
        replace BK2203 := kb BK2203 hb
        replace HB := kh HB hb
        (try clear hb)
        refine hK.out _ _ ⟨bc BK2201 0, bc BK2201 1, bc BK2201 2, bc BK2202 0, bc BK2202 1, bc BK2202 2⟩ (fun hHeld => ?_)
        clear hK K
        refine nrm (some 25) ?_
        refine one_ (i := 10) (N := some 26) #[true, true, true, true, true, true, true, true, true, true, true, false] rfl rfl (one_of HT_.out (by kernel_rfl)) (by decide) (fun K hK => ?_)
        refine gc Try.func72 #[.int .i64 t2213, .int .i64 t2214] (ints_hull.calls t2213 t2214 t2215 t2216 t2217 _ A35.out) ?_
        intro w39 hb
        replace BK2201 := kb BK2201 hb
        replace BK2202 := kb BK2202 hb
        replace BK2203 := kb BK2203 hb
        replace HB := kh HB hb
        (try clear hb)
        refine hK.out _ _ ⟨bc BK2201 0, bc BK2201 1, bc BK2201 2, bc BK2202 0, bc BK2202 1, bc BK2202 2⟩ (fun hHeld => ?_)
        clear hK K
        refine nrm (some 26) ?_
        refine one_ (i := 11) (N := none) #[true, true, true, true, true, true, true, true, true, true, true, true] rfl rfl (one_of HT_.out (by kernel_rfl)) (by decide) (fun K hK => ?_)
        have hs40 : w39.cell? ⟨gb2203, 0, none⟩ = some (.bool false) := bc BK2203 0
        have hfs40 := blk_frozen BK2203.out 0
        have hns40_0 := NB2201_2203.out
        have hns40_1 := NB2202_2203.out
        have hms40_0 := NB2203_2201.out
        have hms40_1 := NB2203_2202.out
        have hs41 : w39.cell? ⟨gb2203, 1, none⟩ = some (.int .i64 0) := bc BK2203 1
        have hfs41 := blk_frozen BK2203.out 1
        have hs42 : w39.cell? ⟨gb2203, 2, none⟩ = some (.int .i64 0) := bc BK2203 2
        have hfs42 := blk_frozen BK2203.out 2
        refine skip_ (w1 := ?_) (by rfl) rfl ?_ ?_
        rotate_left
        · go_simp
          rfl
        refine hK.out _ _ ⟨cf hHeld.1, cf hHeld.2.1, cf hHeld.2.2.1, cf hHeld.2.2.2.1, cf hHeld.2.2.2.2.1, cf hHeld.2.2.2.2.2⟩ (fun hHeld => ?_)
        clear hK K
        refine done_ (done_of HT_.out (by kernel_rfl)) ?_
        try go_wp2
        refine bodyPost_ret (results_cell_row rfl _ _ gb2203 23 #[.bool t2215, .int .i64 t2216, .int .i64 t2217] (0, 0) _ rfl (pK BK2203) Try.underlying23 rfl (by kernel_rfl)) rfl ?_
        exact ⟨pe, pl HB⟩
/-! ### ints_Sub: function 52 -/
def ints_Sub.f (k : Nat) (a0_0 : Bool) (a0_1 : Int) (a0_2 : Int) (a1_0 : Bool) (a1_1 : Int) (a1_2 : Int) : Option (Bool × Int × Int) := (ints_Neg.f a1_0 a1_1 a1_2).bind fun bt2354 => ((ints_Add.f k a0_0 a0_1 a0_2 bt2354.1 bt2354.2.1 bt2354.2.2).bind fun bt2357 => (some (bt2357.1, bt2357.2.1, bt2357.2.2)))
theorem ints_Sub.mono : ∀ a0 a1 a2 a3 a4 a5 k, LeO (ints_Sub.f k a0 a1 a2 a3 a4 a5) (ints_Sub.f (k + 1) a0 a1 a2 a3 a4 a5) := by
  intro a0 a1 a2 a3 a4 a5 k
  unfold ints_Sub.f
  repeat' first
      | (with_reducible exact ints_Add.mono _ _ _ _ _ _ _)
      | (with_reducible exact LeO.refl _)
      | (with_reducible exact LeO.none _)
      | (with_reducible refine LeO.ite ?_ ?_)
      | (with_reducible refine LeO.bind ?_ (fun _ => ?_))
      | exact ints_Add.mono _ _ _ _ _ _ _
      | exact LeO.none _
      | refine LeO.ite ?_ ?_
      | refine LeO.bind ?_ (fun _ => ?_)
set_option maxHeartbeats 8000000 in
set_option maxRecDepth 100000 in
theorem ints_Sub.calls (k : Nat) (a0_0 : Bool) (a0_1 : Int) (a0_2 : Int) (a1_0 : Bool) (a1_1 : Int) (a1_2 : Int) (r1 : Bool) (r2 : Int) (r3 : Int) (w : World) (h : ints_Sub.f k a0_0 a0_1 a0_2 a1_0 a1_1 a1_2 = some (r1, r2, r3)) :
    Calls Try.prog 52 #[.agg #[.bool a0_0, .int .i64 a0_1, .int .i64 a0_2], .agg #[.bool a1_0, .int .i64 a1_1, .int .i64 a1_2]] w fun e w' => e = .returned (.agg #[.bool r1, .int .i64 r2, .int .i64 r3]) ∧ Below w.heap.size w w' := by
  have hu23 := Try.underlying23
  have HB := Aside0.mk (Below.refl w.heap.size w)
  have H := h
  clear h
  unfold ints_Sub.f at H
  obtain ⟨⟨t2354, t2355, t2356⟩, A30, H⟩ := Option.bind_eq_some_iff.mp H
  have A3 := Aside0.mk A30
  clear A30
  (try dsimp only at H)
  obtain ⟨⟨t2357, t2358, t2359⟩, A40, H⟩ := Option.bind_eq_some_iff.mp H
  have A4 := Aside0.mk A40
  clear A40
  (try dsimp only at H)
  simp only [Option.some.injEq, Prod.mk.injEq] at H
  obtain ⟨rfl, rfl, rfl⟩ := H
  go_enter Try.func52, Try.ntmps52
  try go_wp2_with (first | ((with_reducible refine gate_dst (N := 2) rfl ?_); refine kx 2 #[.bool a0_0, .int .i64 a0_1, .int .i64 a0_2] 23 ?_; intro gb2351 hg w5 hbox hb; have BK2351 := Aside0.mk (hbox); have GW2351 := kg HB hg; have GE2351 := kg HB hg; replace HB := kh HB hb; clear hb hbox hg) | ((with_reducible refine gate_dst (N := 3) rfl ?_); refine kx 3 #[.bool a1_0, .int .i64 a1_1, .int .i64 a1_2] 23 ?_; intro gb2352 hg w6 hbox hb; have BK2352 := Aside0.mk (hbox); have GW2352 := kg HB hg; have GE2352 := kg HB hg; have NB2351_2352 := kn BK2351 hg; have NB2352_2351 := km BK2351 hg; replace BK2351 := kb BK2351 hb; replace HB := kh HB hb; clear hb hbox hg) | ((with_reducible refine gate_dst (N := 4) rfl ?_); refine kx 4 #[.bool false, .int .i64 0, .int .i64 0] 23 ?_; intro gb2353 hg w7 hbox hb; have BK2353 := Aside0.mk (hbox); have GW2353 := kg HB hg; have GE2353 := kg HB hg; have NB2351_2353 := kn BK2351 hg; have NB2353_2351 := km BK2351 hg; have NB2352_2353 := kn BK2352 hg; have NB2353_2352 := km BK2352 hg; replace BK2351 := kb BK2351 hb; replace BK2352 := kb BK2352 hb; replace HB := kh HB hb; clear hb hbox hg))
  replace BK2351 := Aside0.mk (blk_drew BK2351.out)
  replace BK2352 := Aside0.mk (blk_drew BK2352.out)
  replace BK2353 := Aside0.mk (blk_drew BK2353.out)
  replace HB := Aside0.mk (below_drew1 HB.out)
  refine start_ (n := 5) (S := fun w' => w'.cell? ⟨gb2351, 0, none⟩ = some (.bool a0_0) ∧ w'.cell? ⟨gb2351, 1, none⟩ = some (.int .i64 a0_1) ∧ w'.cell? ⟨gb2351, 2, none⟩ = some (.int .i64 a0_2) ∧ w'.cell? ⟨gb2352, 0, none⟩ = some (.bool a1_0) ∧ w'.cell? ⟨gb2352, 1, none⟩ = some (.int .i64 a1_1) ∧ w'.cell? ⟨gb2352, 2, none⟩ = some (.int .i64 a1_2)) (ds := []) #[false, false, false, false, false] (by kernel_rfl) rfl rfl ⟨bc BK2351 0, bc BK2351 1, bc BK2351 2, bc BK2352 0, bc BK2352 1, bc BK2352 2⟩ (fun hHeld => ?_)
  generalize w7.drew = w8 at BK2351 BK2352 BK2353 HB hHeld ⊢
  refine tak 0 (some 5) #[true, false, false, false, false] (by kernel_rfl) hHeld ?_
  refine tak 1 (some 6) #[true, true, false, false, false] (by kernel_rfl) hHeld ?_
  refine one_ (i := 2) (N := some 7) #[true, true, true, false, false] rfl rfl (by kernel_rfl) (by decide) (fun K hK => ?_)
  refine gc Try.func48 #[.agg #[.bool a1_0, .int .i64 a1_1, .int .i64 a1_2]] (ints_Neg.calls a1_0 a1_1 a1_2 t2354 t2355 t2356 _ A3.out) ?_
  intro w9 hb
  replace BK2351 := kb BK2351 hb
  replace BK2352 := kb BK2352 hb
  replace BK2353 := kb BK2353 hb
  replace HB := kh HB hb
  (try clear hb)
  refine hK.out _ _ ⟨bc BK2351 0, bc BK2351 1, bc BK2351 2, bc BK2352 0, bc BK2352 1, bc BK2352 2⟩ (fun hHeld => ?_)
  clear hK K
  refine nrm (some 7) ?_
  refine one_ (i := 3) (N := some 8) #[true, true, true, true, false] rfl rfl (by kernel_rfl) (by decide) (fun K hK => ?_)
  refine gc Try.func51 #[.agg #[.bool a0_0, .int .i64 a0_1, .int .i64 a0_2], .agg #[.bool t2354, .int .i64 t2355, .int .i64 t2356]] (ints_Add.calls k a0_0 a0_1 a0_2 t2354 t2355 t2356 t2357 t2358 t2359 _ A4.out) ?_
  intro w10 hb
  replace BK2351 := kb BK2351 hb
  replace BK2352 := kb BK2352 hb
  replace BK2353 := kb BK2353 hb
  replace HB := kh HB hb
  (try clear hb)
  refine hK.out _ _ ⟨bc BK2351 0, bc BK2351 1, bc BK2351 2, bc BK2352 0, bc BK2352 1, bc BK2352 2⟩ (fun hHeld => ?_)
  clear hK K
  refine nrm (some 8) ?_
  refine one_ (i := 4) (N := none) #[true, true, true, true, true] rfl rfl (by kernel_rfl) (by decide) (fun K hK => ?_)
  have hs11 : w10.cell? ⟨gb2353, 0, none⟩ = some (.bool false) := bc BK2353 0
  have hfs11 := blk_frozen BK2353.out 0
  have hns11_0 := NB2351_2353.out
  have hns11_1 := NB2352_2353.out
  have hms11_0 := NB2353_2351.out
  have hms11_1 := NB2353_2352.out
  have hs12 : w10.cell? ⟨gb2353, 1, none⟩ = some (.int .i64 0) := bc BK2353 1
  have hfs12 := blk_frozen BK2353.out 1
  have hs13 : w10.cell? ⟨gb2353, 2, none⟩ = some (.int .i64 0) := bc BK2353 2
  have hfs13 := blk_frozen BK2353.out 2
  refine skip_ (w1 := ?_) (by rfl) rfl ?_ ?_
  rotate_left
  · go_simp
    rfl
  refine hK.out _ _ ⟨cf hHeld.1, cf hHeld.2.1, cf hHeld.2.2.1, cf hHeld.2.2.2.1, cf hHeld.2.2.2.2.1, cf hHeld.2.2.2.2.2⟩ (fun hHeld => ?_)
  clear hK K
  refine done_ (by kernel_rfl) ?_
  try go_wp2
  refine bodyPost_ret (results_cell_row rfl _ _ gb2353 23 #[.bool t2357, .int .i64 t2358, .int .i64 t2359] (0, 0) _ rfl (pK BK2353) Try.underlying23 rfl (by kernel_rfl)) rfl ?_
  exact ⟨pe, pl HB⟩
/-! ### ints_abs: function 82 -/
def ints_abs.f (a0 : Int) : Option (Int) := some (mx a0 (wrap64 (-a0)))
set_option maxHeartbeats 8000000 in
set_option maxRecDepth 100000 in
theorem ints_abs.calls (a0 : Int) (r : Int) (w : World) (h : ints_abs.f a0 = some r) :
    Calls Try.prog 82 #[.int .i64 a0] w fun e w' => e = .returned (.int .i64 r) ∧ Below w.heap.size w w' := by
  have HB := Aside0.mk (Below.refl w.heap.size w)
  have H := h
  clear h
  unfold ints_abs.f at H
  obtain ⟨ji2, hji2⟩ : ∃ j_ : Int, (mx a0 (wrap64 (-a0))) = j_ := ⟨_, rfl⟩
  replace H : (some ji2) = some r := by first | (rw [hji2] at H; exact H) | (simp only [hji2] at H ⊢; exact H)
  have hji2_ : (if a0 < (wrap64 (-a0)) then (wrap64 (-a0)) else a0) = ji2 := hji2
  obtain rfl := Option.some.inj H
  go_enter Try.func82, Try.ntmps82
  go_wp2
  go_ret
  exact ⟨by first | rfl | (simp [errW_none, errW_some] <;> rfl) | (simp only [← hji2]; first | rfl | (simp [errW_none, errW_some] <;> rfl)) | (simp [*, errW_none, errW_some] <;> rfl), pl HB⟩
/-! ### ints_times: function 75 -/
def ints_times.j0 : Nat → Int → Int → Bool → Option (Int)
  | 0, _, _, _ => none
  | k + 1, x0, x1, x5 => if x5 = true then (some 0) else ((ints_abs.f x0).bind fun t2651 => ((ints_abs.f x1).bind fun t2652 => (if t2652 = 0 then (none) else (if t2651 ≤ (wrap64 (Int.tdiv 1099511627776 t2652)) then (some (wrap64 (x0 * x1))) else (if ((decide (x0 < 0)) != (decide (x1 < 0))) = true then (some (-1099511627776)) else (some 1099511627776))))))
def ints_times.f (k : Nat) (a0 : Int) (a1 : Int) : Option (Int) := if a0 = 0 then (ints_times.j0 k a0 a1 true) else (ints_times.j0 k a0 a1 (a1 == 0))
theorem ints_times.mono_l : ∀ k, (∀ y0 y1 y2, LeO (ints_times.j0 k y0 y1 y2) (ints_times.j0 (k + 1) y0 y1 y2))
  | 0 => fun _ _ _ r h => by simp [ints_times.j0] at h
  | k + 1 => by
    have ih0 := ints_times.mono_l k
    · intro y0 y1 y2
      unfold ints_times.j0
      repeat' first
      | (with_reducible exact ih0 _ _ _)
      | (with_reducible exact LeO.refl _)
      | (with_reducible exact LeO.none _)
      | (with_reducible refine LeO.ite ?_ ?_)
      | (with_reducible refine LeO.bind ?_ (fun _ => ?_))
      | exact ih0 _ _ _
      | exact LeO.none _
      | refine LeO.ite ?_ ?_
      | refine LeO.bind ?_ (fun _ => ?_)
theorem ints_times.mono : ∀ a0 a1 k, LeO (ints_times.f k a0 a1) (ints_times.f (k + 1) a0 a1) := by
  intro a0 a1 k
  have ih0 := ints_times.mono_l k
  unfold ints_times.f
  repeat' first
      | (with_reducible exact ih0 _ _ _)
      | (with_reducible exact LeO.refl _)
      | (with_reducible exact LeO.none _)
      | (with_reducible refine LeO.ite ?_ ?_)
      | (with_reducible refine LeO.bind ?_ (fun _ => ?_))
      | exact ih0 _ _ _
      | exact LeO.none _
      | refine LeO.ite ?_ ?_
      | refine LeO.bind ?_ (fun _ => ?_)
set_option maxHeartbeats 8000000 in
set_option maxRecDepth 100000 in
theorem ints_times.calls (k : Nat) (a0 : Int) (a1 : Int) (r : Int) (w : World) (h : ints_times.f k a0 a1 = some r) :
    Calls Try.prog 75 #[.int .i64 a0, .int .i64 a1] w fun e w' => e = .returned (.int .i64 r) ∧ Below w.heap.size w w' := by
  have HB := Aside0.mk (Below.refl w.heap.size w)
  have H := h
  clear h
  unfold ints_times.f at H
  have HC3 := Aside0.mk H
  clear H
  go_enter Try.func75, Try.ntmps75
  go_upto_region 1 with (fail)
  go_cut [5] (fun v5 wc => ∃ (kq : Nat) (x5_2 : Bool), v5 = .bool x5_2 ∧ Aside0 (ints_times.j0 kq a0 a1 x5_2 = some r) ∧ Aside0 (kq ≤ k) ∧ Aside0 (Below w.heap.size w wc))
  case first =>
    have H := HC3.out
    clear HC3
    by_cases c4 : a0 = 0
    · rw [if_pos c4] at H
      have c4b0 : (a0 == 0) = true := beq_iff_eq.mpr c4
      have c4b1 : (a0 != 0) = false := bne_eq_false_iff_eq.mpr c4
      clear c4
      (first | rw [c4b0] | (simp only [i64_w, i32_w]; rw [c4b0]) | skip)
      have H' := Aside0.mk H
      clear H
      go_wp2
      go_meet
      case rel => exact ⟨_, (true), (by first | rfl | (simp; done) | (simp [*]; done)), H', ⟨by first | omega | exact Nat.le_refl _⟩, ⟨pl HB⟩⟩
    · rw [if_neg c4] at H
      have c4b0 : (a0 == 0) = false := beq_eq_false_iff_ne.mpr c4
      have c4b1 : (a0 != 0) = true := bne_iff_ne.mpr c4
      (first | rw [c4b0] | (simp only [i64_w, i32_w]; rw [c4b0]) | skip)
      have H' := Aside0.mk H
      clear H
      go_wp2
      go_meet
      case rel => exact ⟨_, ((a1 == 0)), (by first | rfl | (simp; done) | (simp [*]; done)), H', ⟨by first | omega | exact Nat.le_refl _⟩, ⟨pl HB⟩⟩
  case rest =>
    clear HC3
    try clear p2
    try clear c4
    try clear c4b0
    try clear c4b1
    obtain ⟨kq, x5_2, rfl, HA, HJ2, HB⟩ := hcut
    cases kq with
    | zero => exact absurd HA.out (by simp [ints_times.j0])
    | succ kj2 =>
      have H := HA.out
      clear HA
      simp only [ints_times.j0] at H
      by_cases c5 : x5_2 = true
      · subst c5
        rw [if_pos rfl] at H
        obtain rfl := Option.some.inj H
        go_wp2
        go_ret
        exact ⟨pe, pl HB⟩
      · replace c5 := Bool.eq_false_iff.mpr c5
        subst c5
        rw [if_neg (show ¬ (false = true) by decide)] at H
        obtain ⟨t2651, A60, H⟩ := Option.bind_eq_some_iff.mp H
        have A6 := Aside0.mk A60
        clear A60
        (try dsimp only at H)
        obtain ⟨t2652, A70, H⟩ := Option.bind_eq_some_iff.mp H
        have A7 := Aside0.mk A70
        clear A70
        (try dsimp only at H)
        by_cases c8 : t2652 = 0
        · rw [if_pos c8] at H
          exact absurd H (by simp)
        · rw [if_neg c8] at H
          have c8b0 : (t2652 == 0) = false := beq_eq_false_iff_ne.mpr c8
          have c8b1 : (t2652 != 0) = true := bne_iff_ne.mpr c8
          by_cases c9 : t2651 ≤ (wrap64 (Int.tdiv 1099511627776 t2652))
          · rw [if_pos c9] at H
            have c9b0 : decide (t2651 ≤ (wrap64 (Int.tdiv 1099511627776 t2652))) = true := decide_eq_true c9
            clear c9
            obtain rfl := Option.some.inj H
            go_wp2_with (first | ((with_reducible refine gate_callee (f := 82) rfl ?_); refine kc (some 14) Try.func82 #[.int .i64 a0] (ints_abs.calls a0 t2651 _ A6.out) ?_; intro w10 hb; replace HB := kh HB hb; (try clear hb)) | ((with_reducible refine gate_callee (f := 82) rfl ?_); refine kc (some 16) Try.func82 #[.int .i64 a1] (ints_abs.calls a1 t2652 _ A7.out) ?_; intro w11 hb; replace HB := kh HB hb; (try clear hb)))
            go_ret
            exact ⟨pe, pl HB⟩
          · rw [if_neg c9] at H
            have c9b0 : decide (t2651 ≤ (wrap64 (Int.tdiv 1099511627776 t2652))) = false := decide_eq_false c9
            clear c9
            by_cases c12 : ((decide (a0 < 0)) != (decide (a1 < 0))) = true
            · rw [if_pos c12] at H
              have c12b0 : ((decide (a0 < 0)) != (decide (a1 < 0))) = true := c12
              (try (have c12b1 : decide ((decide (a0 < 0)) = (decide (a1 < 0))) = false := by simpa using c12))
              (try (have c12b2 : ((decide (a0 < 0)) == (decide (a1 < 0))) = false := by simpa using c12))
              (try (have c12b3 : ¬ ((decide (a0 < 0)) = (decide (a1 < 0))) := by simpa using c12))
              clear c12
              obtain rfl := Option.some.inj H
              go_wp2_with (first | ((with_reducible refine gate_callee (f := 82) rfl ?_); refine kc (some 14) Try.func82 #[.int .i64 a0] (ints_abs.calls a0 t2651 _ A6.out) ?_; intro w13 hb; replace HB := kh HB hb; (try clear hb)) | ((with_reducible refine gate_callee (f := 82) rfl ?_); refine kc (some 16) Try.func82 #[.int .i64 a1] (ints_abs.calls a1 t2652 _ A7.out) ?_; intro w14 hb; replace HB := kh HB hb; (try clear hb)))
              go_ret
              exact ⟨pe, pl HB⟩
            · rw [if_neg c12] at H
              have c12b0 : ((decide (a0 < 0)) != (decide (a1 < 0))) = false := by simpa using c12
              (try (have c12b1 : decide ((decide (a0 < 0)) = (decide (a1 < 0))) = true := by simpa using c12))
              (try (have c12b2 : ((decide (a0 < 0)) == (decide (a1 < 0))) = true := by simpa using c12))
              clear c12
              obtain rfl := Option.some.inj H
              go_wp2_with (first | ((with_reducible refine gate_callee (f := 82) rfl ?_); refine kc (some 14) Try.func82 #[.int .i64 a0] (ints_abs.calls a0 t2651 _ A6.out) ?_; intro w15 hb; replace HB := kh HB hb; (try clear hb)) | ((with_reducible refine gate_callee (f := 82) rfl ?_); refine kc (some 16) Try.func82 #[.int .i64 a1] (ints_abs.calls a1 t2652 _ A7.out) ?_; intro w16 hb; replace HB := kh HB hb; (try clear hb)))
              go_ret
              exact ⟨pe, pl HB⟩
end Go.Proofs.Ytinmgnlofininaa.PAll
end
