/- Functions of the print, turned to this claim. -/
import Derived.Test.YtinmgnlofininaaZHW
import Derived.Test.YtinmgnlofininaaZHx0
import Derived.Test.YtinmgnlofininaaZHx3
import Derived.Test.YtinmgnlofininaaZHx7
section
namespace Go.Proofs.Ytinmgnlofininaa.PAll
open Go.RowKit Go.Proofs.YtinmgnlofininaaW.PrintWords Go.Proofs.YtinmgnlofininaaW.PrintLast Go.Proofs.YtinmgnlofininaaW.PrintMore
attribute [local go_sem] max2_int min2_int max_two min_two max_three min_three max_four min_four   -- for this text's walks alone
set_option linter.unusedVariables false
set_option linter.unusedSimpArgs false
/-! ### ints_Div: function 54 -/
mutual
def ints_Div.j0 : Nat → Bool → Bool → Int → Int → Bool → Int → Int → Option (Bool × Int × Int)
  | 0, _, _, _, _, _, _, _ => none
  | k + 1, x17, x3402000, x3402001, x3402002, x3403000, x3403001, x3403002 => if x17 = true then ((ints_none.f).bind fun bt3410 => (some (bt3410.1, bt3410.2.1, bt3410.2.2))) else ((some (([x3403001, x3403002, (-1), 1] : List Int) : List Int)).bind fun y3413 => (ints_Div.l0 k ([] : List Int) y3413 (y3413.length : Int) 0 x3402000 x3402001 x3402002 x3403000 x3403001 x3403002))
def ints_Div.l0 : Nat → List Int → List Int → Int → Int → Bool → Int → Int → Bool → Int → Int → Option (Bool × Int × Int)
  | 0, _, _, _, _, _, _, _, _, _, _ => none
  | k + 1, x5, x23, x24, x25, x3402000, x3402001, x3402002, x3403000, x3403001, x3403002 => if x25 < x24 then (if 0 ≤ x25 then (if x25 < (x23.length : Int) then (if (rd x23 x25) = 0 then (ints_Div.l0 k x5 x23 x24 (wrap64 (x25 + 1)) x3402000 x3402001 x3402002 x3403000 x3403001 x3403002) else ((ints_Has.f x3403000 x3403001 x3403002 (rd x23 x25)).bind fun t3417 => (if t3417 = true then (if x5.length < 17592186044416 then (ints_Div.l0 k (x5 ++ [rd x23 x25]) x23 x24 (wrap64 (x25 + 1)) x3402000 x3402001 x3402002 x3403000 x3403001 x3403002) else (none)) else (ints_Div.l0 k x5 x23 x24 (wrap64 (x25 + 1)) x3402000 x3402001 x3402002 x3403000 x3403001 x3403002)))) else (none)) else (none)) else (if (x5.length : Int) = 0 then ((ints_none.f).bind fun bt3421 => (some (bt3421.1, bt3421.2.1, bt3421.2.2))) else ((ints_cornersOver.f k x3402000 x3402001 x3402002 x5).bind fun bt3424 => (some (bt3424.1, bt3424.2.1, bt3424.2.2))))
end
def ints_Div.f (k : Nat) (a0_0 : Bool) (a0_1 : Int) (a0_2 : Int) (a1_0 : Bool) (a1_1 : Int) (a1_2 : Int) : Option (Bool × Int × Int) := (ints_norm.f a0_0 a0_1 a0_2).bind fun bt3404 => ((ints_norm.f a1_0 a1_1 a1_2).bind fun bt3407 => (if bt3404.1 = true then (ints_Div.j0 k true bt3404.1 bt3404.2.1 bt3404.2.2 bt3407.1 bt3407.2.1 bt3407.2.2) else (ints_Div.j0 k bt3407.1 bt3404.1 bt3404.2.1 bt3404.2.2 bt3407.1 bt3407.2.1 bt3407.2.2)))
theorem ints_Div.mono_l : ∀ k, (∀ y0 y1 y2 y3 y4 y5 y6, LeO (ints_Div.j0 k y0 y1 y2 y3 y4 y5 y6) (ints_Div.j0 (k + 1) y0 y1 y2 y3 y4 y5 y6)) ∧ (∀ y0 y1 y2 y3 y4 y5 y6 y7 y8 y9, LeO (ints_Div.l0 k y0 y1 y2 y3 y4 y5 y6 y7 y8 y9) (ints_Div.l0 (k + 1) y0 y1 y2 y3 y4 y5 y6 y7 y8 y9))
  | 0 => ⟨fun _ _ _ _ _ _ _ r h => by simp [ints_Div.j0] at h, fun _ _ _ _ _ _ _ _ _ _ r h => by simp [ints_Div.l0] at h⟩
  | k + 1 => by
    obtain ⟨ih0, ih1⟩ := ints_Div.mono_l k
    refine ⟨?_, ?_⟩
    · intro y0 y1 y2 y3 y4 y5 y6
      unfold ints_Div.j0
      repeat' first
      | (with_reducible exact ih0 _ _ _ _ _ _ _)
      | (with_reducible exact ih1 _ _ _ _ _ _ _ _ _ _)
      | (with_reducible exact ints_cornersOver.mono _ _ _ _ _)
      | (with_reducible exact LeO.refl _)
      | (with_reducible exact LeO.none _)
      | (with_reducible refine LeO.ite ?_ ?_)
      | (with_reducible refine LeO.bind ?_ (fun _ => ?_))
      | exact ih0 _ _ _ _ _ _ _
      | exact ih1 _ _ _ _ _ _ _ _ _ _
      | exact ints_cornersOver.mono _ _ _ _ _
      | exact LeO.none _
      | refine LeO.ite ?_ ?_
      | refine LeO.bind ?_ (fun _ => ?_)
    · intro y0 y1 y2 y3 y4 y5 y6 y7 y8 y9
      unfold ints_Div.l0
      repeat' first
      | (with_reducible exact ih0 _ _ _ _ _ _ _)
      | (with_reducible exact ih1 _ _ _ _ _ _ _ _ _ _)
      | (with_reducible exact ints_cornersOver.mono _ _ _ _ _)
      | (with_reducible exact LeO.refl _)
      | (with_reducible exact LeO.none _)
      | (with_reducible refine LeO.ite ?_ ?_)
      | (with_reducible refine LeO.bind ?_ (fun _ => ?_))
      | exact ih0 _ _ _ _ _ _ _
      | exact ih1 _ _ _ _ _ _ _ _ _ _
      | exact ints_cornersOver.mono _ _ _ _ _
      | exact LeO.none _
      | refine LeO.ite ?_ ?_
      | refine LeO.bind ?_ (fun _ => ?_)
theorem ints_Div.mono : ∀ a0 a1 a2 a3 a4 a5 k, LeO (ints_Div.f k a0 a1 a2 a3 a4 a5) (ints_Div.f (k + 1) a0 a1 a2 a3 a4 a5) := by
  intro a0 a1 a2 a3 a4 a5 k
  obtain ⟨ih0, ih1⟩ := ints_Div.mono_l k
  unfold ints_Div.f
  repeat' first
      | (with_reducible exact ih0 _ _ _ _ _ _ _)
      | (with_reducible exact ih1 _ _ _ _ _ _ _ _ _ _)
      | (with_reducible exact ints_cornersOver.mono _ _ _ _ _)
      | (with_reducible exact LeO.refl _)
      | (with_reducible exact LeO.none _)
      | (with_reducible refine LeO.ite ?_ ?_)
      | (with_reducible refine LeO.bind ?_ (fun _ => ?_))
      | exact ih0 _ _ _ _ _ _ _
      | exact ih1 _ _ _ _ _ _ _ _ _ _
      | exact ints_cornersOver.mono _ _ _ _ _
      | exact LeO.none _
      | refine LeO.ite ?_ ?_
      | refine LeO.bind ?_ (fun _ => ?_)
set_option maxHeartbeats 8000000 in
set_option maxRecDepth 100000 in
theorem ints_Div.calls (k : Nat) (a0_0 : Bool) (a0_1 : Int) (a0_2 : Int) (a1_0 : Bool) (a1_1 : Int) (a1_2 : Int) (r1 : Bool) (r2 : Int) (r3 : Int) (w : World) (h : ints_Div.f k a0_0 a0_1 a0_2 a1_0 a1_1 a1_2 = some (r1, r2, r3)) :
    Calls Try.prog 54 #[.agg #[.bool a0_0, .int .i64 a0_1, .int .i64 a0_2], .agg #[.bool a1_0, .int .i64 a1_1, .int .i64 a1_2]] w fun e w' => e = .returned (.agg #[.bool r1, .int .i64 r2, .int .i64 r3]) ∧ Below w.heap.size w w' := by
  have hu23 := Try.underlying23
  have HB := Aside0.mk (Below.refl w.heap.size w)
  have H := h
  clear h
  unfold ints_Div.f at H
  obtain ⟨⟨t3404, t3405, t3406⟩, A30, H⟩ := Option.bind_eq_some_iff.mp H
  have A3 := Aside0.mk A30
  clear A30
  (try dsimp only at H)
  obtain ⟨⟨t3407, t3408, t3409⟩, A40, H⟩ := Option.bind_eq_some_iff.mp H
  have A4 := Aside0.mk A40
  clear A40
  (try dsimp only at H)
  have HC5 := Aside0.mk H
  clear H
  go_enter Try.func54, Try.ntmps54
  try go_wp2_with (first | ((with_reducible refine gate_dst (N := 2) rfl ?_); refine kx 2 #[.bool a0_0, .int .i64 a0_1, .int .i64 a0_2] 23 ?_; intro gb3401 hg w6 hbox hb; have BK3401 := Aside0.mk (hbox); have GW3401 := kg HB hg; have GE3401 := kg HB hg; replace HB := kh HB hb; clear hb hbox hg) | ((with_reducible refine gate_dst (N := 3) rfl ?_); refine kx 3 #[.bool a1_0, .int .i64 a1_1, .int .i64 a1_2] 23 ?_; intro gb3402 hg w7 hbox hb; have BK3402 := Aside0.mk (hbox); have GW3402 := kg HB hg; have GE3402 := kg HB hg; have NB3401_3402 := kn BK3401 hg; have NB3402_3401 := km BK3401 hg; replace BK3401 := kb BK3401 hb; replace HB := kh HB hb; clear hb hbox hg) | ((with_reducible refine gate_dst (N := 4) rfl ?_); refine kx 4 #[.bool false, .int .i64 0, .int .i64 0] 23 ?_; intro gb3403 hg w8 hbox hb; have BK3403 := Aside0.mk (hbox); have GW3403 := kg HB hg; have GE3403 := kg HB hg; have NB3401_3403 := kn BK3401 hg; have NB3403_3401 := km BK3401 hg; have NB3402_3403 := kn BK3402 hg; have NB3403_3402 := km BK3402 hg; replace BK3401 := kb BK3401 hb; replace BK3402 := kb BK3402 hb; replace HB := kh HB hb; clear hb hbox hg))
  replace BK3401 := Aside0.mk (blk_drew BK3401.out)
  replace BK3402 := Aside0.mk (blk_drew BK3402.out)
  replace BK3403 := Aside0.mk (blk_drew BK3403.out)
  replace HB := Aside0.mk (below_drew1 HB.out)
  refine start_ (n := 6) (S := fun w' => w'.cell? ⟨gb3401, 0, none⟩ = some (.bool a0_0) ∧ w'.cell? ⟨gb3401, 1, none⟩ = some (.int .i64 a0_1) ∧ w'.cell? ⟨gb3401, 2, none⟩ = some (.int .i64 a0_2) ∧ w'.cell? ⟨gb3402, 0, none⟩ = some (.bool a1_0) ∧ w'.cell? ⟨gb3402, 1, none⟩ = some (.int .i64 a1_1) ∧ w'.cell? ⟨gb3402, 2, none⟩ = some (.int .i64 a1_2)) (ds := [4, 5]) #[false, false, false, false, false, false] (by kernel_rfl) rfl rfl ⟨bc BK3401 0, bc BK3401 1, bc BK3401 2, bc BK3402 0, bc BK3402 1, bc BK3402 2⟩ (fun hHeld => ?_)
  generalize w8.drew = w9 at BK3401 BK3402 BK3403 HB hHeld ⊢
  refine tak 0 (some 8) #[true, false, false, false, false, false] (by kernel_rfl) hHeld ?_
  refine tak 2 (some 10) #[true, false, true, false, false, false] (by kernel_rfl) hHeld ?_
  refine one_ (i := 1) (N := some 9) #[true, true, true, false, false, false] rfl rfl (by kernel_rfl) (by decide) (fun K hK => ?_)
  refine gc Try.func68 #[.agg #[.bool a0_0, .int .i64 a0_1, .int .i64 a0_2]] (ints_norm.calls a0_0 a0_1 a0_2 t3404 t3405 t3406 _ A3.out) ?_
  intro w10 hb
  replace BK3401 := kb BK3401 hb
  replace BK3402 := kb BK3402 hb
  replace BK3403 := kb BK3403 hb
  replace HB := kh HB hb
  (try clear hb)
  (try clear hb2)
  (try clear hk)
  (try clear hi)
  refine hK.out _ _ ⟨bc BK3401 0, bc BK3401 1, bc BK3401 2, bc BK3402 0, bc BK3402 1, bc BK3402 2⟩ (fun hHeld => ?_)
  clear hK K
  refine nrm (some 9) ?_
  refine one_ (i := 3) (N := some 11) #[true, true, true, true, false, false] rfl rfl (by kernel_rfl) (by decide) (fun K hK => ?_)
  refine gc Try.func68 #[.agg #[.bool a1_0, .int .i64 a1_1, .int .i64 a1_2]] (ints_norm.calls a1_0 a1_1 a1_2 t3407 t3408 t3409 _ A4.out) ?_
  intro w11 hb
  replace BK3401 := kb BK3401 hb
  replace BK3402 := kb BK3402 hb
  replace BK3403 := kb BK3403 hb
  replace HB := kh HB hb
  (try clear hb)
  (try clear hb2)
  (try clear hk)
  (try clear hi)
  refine hK.out _ _ ⟨bc BK3401 0, bc BK3401 1, bc BK3401 2, bc BK3402 0, bc BK3402 1, bc BK3402 2⟩ (fun hHeld => ?_)
  clear hK K
  refine nrm (some 11) ?_
  refine last_ (i := 4) (N := none) #[true, true, true, true, true, false] rfl rfl (by kernel_rfl) (by decide) (fun K hK => ?_)
  have hs12 : w11.cell? ⟨gb3401, 0, none⟩ = some (.bool a0_0) := bc BK3401 0
  have hfs12 := blk_frozen BK3401.out 0
  have hns12_1 := NB3402_3401.out
  have hns12_2 := NB3403_3401.out
  have hms12_1 := NB3401_3402.out
  have hms12_2 := NB3401_3403.out
  have hs13 : w11.cell? ⟨gb3401, 1, none⟩ = some (.int .i64 a0_1) := bc BK3401 1
  have hfs13 := blk_frozen BK3401.out 1
  have hs14 : w11.cell? ⟨gb3401, 2, none⟩ = some (.int .i64 a0_2) := bc BK3401 2
  have hfs14 := blk_frozen BK3401.out 2
  refine skip_ (w1 := ?_) (by rfl) rfl ?_ ?_
  rotate_left
  · go_simp
    rfl
  refine hK.out _ _ ?_
  clear hK K
  refine last_ (i := 5) (N := none) #[true, true, true, true, true, true] rfl rfl (by kernel_rfl) (by decide) (fun K hK => ?_)
  have hs15 : w11.cell? ⟨gb3402, 0, none⟩ = some (.bool a1_0) := bc BK3402 0
  have hfs15 := blk_frozen BK3402.out 0
  have hns15_0 := NB3401_3402.out
  have hns15_2 := NB3403_3402.out
  have hms15_0 := NB3402_3401.out
  have hms15_2 := NB3402_3403.out
  have hs16 : w11.cell? ⟨gb3402, 1, none⟩ = some (.int .i64 a1_1) := bc BK3402 1
  have hfs16 := blk_frozen BK3402.out 1
  have hs17 : w11.cell? ⟨gb3402, 2, none⟩ = some (.int .i64 a1_2) := bc BK3402 2
  have hfs17 := blk_frozen BK3402.out 2
  refine skip_ (w1 := ?_) (by rfl) rfl ?_ ?_
  rotate_left
  · go_simp
    rfl
  refine hK.out _ _ ?_
  clear hK K
  refine done_ (by kernel_rfl) ?_
  go_upto_region 2 with (fail)
  go_cut [17] (fun v17 wc => ∃ (kq : Nat) (x17_4 : Bool), v17 = .bool x17_4 ∧ Aside0 (ints_Div.j0 kq x17_4 t3404 t3405 t3406 t3407 t3408 t3409 = some (r1, r2, r3)) ∧ Aside0 (kq ≤ k) ∧ Aside0 (wc.heap[gb3401]? = some (.cells #[.bool t3404, .int .i64 t3405, .int .i64 t3406] 23 (0, 0))) ∧ Aside0 (wc.heap[gb3402]? = some (.cells #[.bool t3407, .int .i64 t3408, .int .i64 t3409] 23 (0, 0))) ∧ Aside0 (wc.heap[gb3403]? = some (.cells #[.bool false, .int .i64 0, .int .i64 0] 23 (0, 0))) ∧ Aside0 (Below w.heap.size w wc))
  case first =>
    have H := HC5.out
    clear HC5
    by_cases c18 : t3404 = true
    · subst c18
      rw [if_pos rfl] at H
      have H' := Aside0.mk H
      clear H
      have hnb19 := NB3401_3402.out
      have hnc19 := NB3402_3401.out
      have hnb20 := NB3401_3403.out
      have hnc20 := NB3403_3401.out
      have ⟨hcz21_0, hcz21_1, hcz21_2, hfz21_0, hfz21_1, hfz21_2⟩ := kz3f BK3401
      go_wp2
      go_meet
      case rel => exact ⟨_, (true), (by first | rfl | (simp; done) | (simp [*]; done)), H', ⟨by first | omega | exact Nat.le_refl _⟩, ⟨pK BK3401⟩, ⟨pK BK3402⟩, ⟨pk BK3403⟩, ⟨pl HB⟩⟩
    · replace c18 := Bool.eq_false_iff.mpr c18
      subst c18
      rw [if_neg (show ¬ (false = true) by decide)] at H
      have H' := Aside0.mk H
      clear H
      have hnb22 := NB3401_3402.out
      have hnc22 := NB3402_3401.out
      have hnb23 := NB3401_3403.out
      have hnc23 := NB3403_3401.out
      have ⟨hcz24_0, hcz24_1, hcz24_2, hfz24_0, hfz24_1, hfz24_2⟩ := kz3f BK3401
      have hnb25 := NB3402_3403.out
      have hnc25 := NB3403_3402.out
      have ⟨hcz26_0, hcz26_1, hcz26_2, hfz26_0, hfz26_1, hfz26_2⟩ := kz3f BK3402
      go_wp2
      go_meet
      case rel => exact ⟨_, (t3407), (by first | rfl | (simp; done) | (simp [*]; done)), H', ⟨by first | omega | exact Nat.le_refl _⟩, ⟨pK BK3401⟩, ⟨pK BK3402⟩, ⟨pk BK3403⟩, ⟨pl HB⟩⟩
  case rest =>
    clear HC5
    try clear c1
    try clear c2
    try clear p2
    try clear c5
    try clear c6
    try clear c18
    try clear c19
    try clear c20
    try clear c22
    try clear c23
    try clear c25
    try clear hcz21_0
    try clear hcz21_1
    try clear hcz21_2
    try clear hcz24_0
    try clear hcz24_1
    try clear hcz24_2
    try clear hcz26_0
    try clear hcz26_1
    try clear hcz26_2
    try clear hfz21_0
    try clear hfz21_1
    try clear hfz21_2
    try clear hfz24_0
    try clear hfz24_1
    try clear hfz24_2
    try clear hfz26_0
    try clear hfz26_1
    try clear hfz26_2
    obtain ⟨kq, x17_4, rfl, HA, HJ4, BK3401, BK3402, BK3403, HB⟩ := hcut
    cases kq with
    | zero => exact absurd HA.out (by simp [ints_Div.j0])
    | succ kj4 =>
      have H := HA.out
      clear HA
      simp only [ints_Div.j0] at H
      by_cases c27 : x17_4 = true
      · subst c27
        rw [if_pos rfl] at H
        obtain ⟨⟨t3410, t3411, t3412⟩, A280, H⟩ := Option.bind_eq_some_iff.mp H
        have A28 := Aside0.mk A280
        clear A280
        (try dsimp only at H)
        simp only [Option.some.injEq, Prod.mk.injEq] at H
        obtain ⟨rfl, rfl, rfl⟩ := H
        go_wp2_with (first | ((with_reducible refine gate_callee (f := 70) rfl ?_); refine kc (some 18) Try.func70 #[] (ints_none.calls  t3410 t3411 t3412 _ A28.out) ?_; intro w29 hb; replace BK3401 := kb BK3401 hb; replace BK3402 := kb BK3402 hb; replace BK3403 := kb BK3403 hb; replace HB := kh HB hb; (try clear hb); (try clear hb2); (try clear hk); (try clear hi); have hnb30 := NB3403_3401.out; have hnc30 := NB3401_3403.out; have hnb31 := NB3403_3402.out; have hnc31 := NB3402_3403.out; have ⟨hcz32_0, hcz32_1, hcz32_2, hfz32_0, hfz32_1, hfz32_2⟩ := kz3f BK3403))
        refine bodyPost_ret (results_cell_row rfl _ _ gb3403 23 #[.bool t3410, .int .i64 t3411, .int .i64 t3412] (0, 0) _ rfl (pK BK3403) Try.underlying23 rfl (by kernel_rfl)) rfl ?_
        exact ⟨pe, pl HB⟩
      · replace c27 := Bool.eq_false_iff.mpr c27
        subst c27
        rw [if_neg (show ¬ (false = true) by decide)] at H
        obtain ⟨y3413, hy3413⟩ : ∃ y_ : List Int, y_ = (([t3408, t3409, (-1), 1] : List Int)) := ⟨_, rfl⟩
        replace H : (ints_Div.l0 kj4 ([] : List Int) y3413 (y3413.length : Int) 0 t3404 t3405 t3406 t3407 t3408 t3409) = some (r1, r2, r3) := by first | (rw [hy3413]; with_reducible exact H) | (have H2_ := (Option.bind_some _ _).symm.trans H; rw [hy3413]; with_reducible exact H2_) | (have H2_ := (Option.bind_some _ _).symm.trans H; with_reducible exact H2_) | with_reducible exact H | (rw [hy3413]; exact H) | exact H
        have Ny3413 := Aside0.mk hy3413
        clear hy3413
        have H' := Aside0.mk H
        clear H
        have hnb33 := NB3402_3401.out
        have hnc33 := NB3401_3402.out
        have hnb34 := NB3402_3403.out
        have hnc34 := NB3403_3402.out
        have hcz35_0 : wc.cell? ⟨gb3402, 0, none⟩ = some (.bool t3407) := bc BK3402 0
        have hcz35_1 : wc.cell? ⟨gb3402, 1, none⟩ = some (.int .i64 t3408) := bc BK3402 1
        have hcz35_2 : wc.cell? ⟨gb3402, 2, none⟩ = some (.int .i64 t3409) := bc BK3402 2
        have hfz35_0 := blk_frozen BK3402.out 0
        have hfz35_1 := blk_frozen BK3402.out 1
        have hfz35_2 := blk_frozen BK3402.out 2
        go_wp2_with (first | ((with_reducible refine gate_dst (N := 23) rfl ?_); refine Kd.R_lit (Kd.int .i64) _ 2 ?hg (N := 23) ?hd (xs := ([t3408, t3409, (-1), 1] : List Int)) (inner := [.int .i64 t3408, .int .i64 t3409, .int .i64 (-1), .int .i64 1]) (ok := fun _ => True) (okp := fun _ => True) ?hr ?hp (fun _ hk => hk) trivial (Below.refl _ _) (Nat.le_refl _) (by simp) ?_; (case hd => rfl); (case hg => rfl); (case hr => first | (go_simp; done) | (go_simp; rfl)); (case hp => exact (Reps.one (show Kd.M (Kd.int .i64) _ _ _ t3408 [.int .i64 t3408] from rfl) (Reps.one (show Kd.M (Kd.int .i64) _ _ _ t3409 [.int .i64 t3409] from rfl) (Reps.one (show Kd.M (Kd.int .i64) _ _ _ (-1) [.int .i64 (-1)] from rfl) (Reps.one (show Kd.M (Kd.int .i64) _ _ _ 1 [.int .i64 1] from rfl) (Reps.none _ _)))))); intro v3414 w36 ho37 hb hg_ hnew_; clear hg_ hnew_; (first | rw [← Ny3413.out] at ho37 | (simp only [Int.reduceToNat] at ho37; rw [← Ny3413.out] at ho37)); have HO3415 := Aside0.mk (Kd.R_lower ho37 (below_size (pl HB))); replace BK3401 := kb BK3401 hb; replace BK3402 := kb BK3402 hb; replace BK3403 := kb BK3403 hb; replace HB := kh HB hb; clear hb ho37; obtain ⟨Ao38, co38, eo38⟩ := Kd.R_slice HO3415.out; subst eo38))
        go_loopg [5, 25] kj4 (fun kq v5 v25 w' => ∃ (x5_2 : List Int) (x25_2 : Int), v25 = .int .i64 x25_2 ∧ Aside0 (ints_Div.l0 kq x5_2 y3413 (y3413.length : Int) x25_2 t3404 t3405 t3406 t3407 t3408 t3409 = some (r1, r2, r3)) ∧ Aside0 (kq ≤ kj4) ∧ Aside0 (Kd.R (Kd.int .i64) 2 w' w.heap.size (fun k_ => some k_ ≠ ((.slice Ao38 y3413.length co38) : Value).ownBlock) v5 x5_2) ∧ Aside0 (Kd.R (Kd.int .i64) 2 w' w.heap.size (fun k_ => some k_ ≠ (v5 : Value).ownBlock) (.slice Ao38 y3413.length co38) y3413) ∧ Aside0 (w'.heap[gb3401]? = some (.cells #[.bool t3404, .int .i64 t3405, .int .i64 t3406] 23 (0, 0))) ∧ Aside0 (w'.heap[gb3402]? = some (.cells #[.bool t3407, .int .i64 t3408, .int .i64 t3409] 23 (0, 0))) ∧ Aside0 (w'.heap[gb3403]? = some (.cells #[.bool false, .int .i64 0, .int .i64 0] 23 (0, 0))) ∧ Aside0 (Below w.heap.size w w'))
        case atStart => exact ⟨(([] : List Int)), (0), (by first | rfl | (simp; done) | (simp [*]; done)), H', ⟨Nat.le_refl _⟩, ⟨by first | exact Kd.R_nil _ _ _ _ _ | exact Kd.N_nil _ _ _ _ _ | exact Kd.V_nil _ _ _ _ _ | exact Kd.Q_nil _ _ _ _ _ | exact Kd.S_nil _ _ _ _ _⟩, ⟨by (with_reducible repeat (first | apply Kd.R_alloc | apply Kd.R_drewN | apply Kd.R_drew)); exact Kd.R_mono HO3415.out (fun _ hk => (by simp [Value.ownBlock]))⟩, ⟨pk BK3401⟩, ⟨pk BK3402⟩, ⟨pk BK3403⟩, ⟨pl HB⟩⟩
        case round =>
          clear H'
          try clear c1
          try clear c2
          try clear p2
          try clear c3
          try clear c5
          try clear c6
          try clear c7
          try clear c18
          try clear c19
          try clear c20
          try clear c22
          try clear c23
          try clear c25
          try clear c27
          try clear c30
          try clear c31
          try clear c33
          try clear c34
          try clear hcz21_0
          try clear hcz21_1
          try clear hcz21_2
          try clear hcz24_0
          try clear hcz24_1
          try clear hcz24_2
          try clear hcz26_0
          try clear hcz26_1
          try clear hcz26_2
          try clear hcz32_0
          try clear hcz32_1
          try clear hcz32_2
          try clear hcz35_0
          try clear hcz35_1
          try clear hcz35_2
          try clear hfz21_0
          try clear hfz21_1
          try clear hfz21_2
          try clear hfz24_0
          try clear hfz24_1
          try clear hfz24_2
          try clear hfz26_0
          try clear hfz26_1
          try clear hfz26_2
          try clear hfz32_0
          try clear hfz32_1
          try clear hfz32_2
          try clear hfz35_0
          try clear hfz35_1
          try clear hfz35_2
          try clear p2
          obtain ⟨x5_2, x25_2, rfl, HA, HK2, HO_5, HO_23, BK3401, BK3402, BK3403, HB⟩ := hrel
          cases gk with
          | zero => exact absurd HA.out (by simp [ints_Div.l0])
          | succ k2 =>
            have H := HA.out
            clear HA
            simp only [ints_Div.l0] at H
            by_cases c39 : x25_2 < (y3413.length : Int)
            · rw [if_pos c39] at H
              have c39b0 : decide (x25_2 < (y3413.length : Int)) = true := decide_eq_true c39
              clear c39
              by_cases c40 : 0 ≤ x25_2
              · rw [if_pos c40] at H
                have c40b0 : decide (0 ≤ x25_2) = true := decide_eq_true c40
                clear c40
                by_cases c41 : x25_2 < (y3413.length : Int)
                · rw [if_pos c41] at H
                  have c41b0 : decide (x25_2 < (y3413.length : Int)) = true := decide_eq_true c41
                  clear c41
                  by_cases c42 : (rd y3413 x25_2) = 0
                  · rw [if_pos c42] at H
                    have c42b0 : ((rd y3413 x25_2) == 0) = true := beq_iff_eq.mpr c42
                    have c42b1 : ((rd y3413 x25_2) != 0) = false := bne_eq_false_iff_eq.mpr c42
                    clear c42
                    have H' := Aside0.mk H
                    clear H
                    have p3416 : 0 ≤ (x25_2 : Int) := of_decide_eq_true (by first | (with_reducible assumption) | assumption)
                    have q3416 : x25_2 < (y3413.length : Int) := of_decide_eq_true (by first | (with_reducible assumption) | assumption)
                    obtain ⟨ad3416, e3416, hx3416_0⟩ := Kd.at_int (Kd.R_reads' HO_23.out).2.2 x25_2 p3416 q3416
                    cases e3416
                    replace p3416 := eq_true p3416
                    replace q3416 := eq_true q3416
                    go_wp2
                    go_roundg k2
                    case measure => have := HJ4.out; have := HK2.out; omega
                    case rel => exact ⟨(x5_2), (wrap64 (x25_2 + 1)), (by first | rfl | (simp; done) | (simp [*]; done)), H', ⟨by have := HJ4.out; have := HK2.out; omega⟩, ⟨by (with_reducible repeat (first | apply Kd.R_alloc | apply Kd.R_drewN | apply Kd.R_drew)); exact HO_5.out⟩, ⟨by (with_reducible repeat (first | apply Kd.R_alloc | apply Kd.R_drewN | apply Kd.R_drew)); exact HO_23.out⟩, ⟨pk BK3401⟩, ⟨pk BK3402⟩, ⟨pk BK3403⟩, ⟨pl HB⟩⟩
                  · rw [if_neg c42] at H
                    have c42b0 : ((rd y3413 x25_2) == 0) = false := beq_eq_false_iff_ne.mpr c42
                    have c42b1 : ((rd y3413 x25_2) != 0) = true := bne_iff_ne.mpr c42
                    obtain ⟨t3417, A430, H⟩ := Option.bind_eq_some_iff.mp H
                    have A43 := Aside0.mk A430
                    clear A430
                    (try dsimp only at H)
                    by_cases c44 : t3417 = true
                    · subst c44
                      rw [if_pos rfl] at H
                      by_cases c45 : x5_2.length < 17592186044416
                      · rw [if_pos c45] at H
                        have LMc45 := Aside0.mk c45
                        clear c45
                        obtain ⟨y3418, hy3418⟩ : ∃ y_ : List Int, y_ = (x5_2 ++ [rd y3413 x25_2]) := ⟨_, rfl⟩
                        replace H : (ints_Div.l0 k2 y3418 y3413 (y3413.length : Int) (wrap64 (x25_2 + 1)) t3404 t3405 t3406 t3407 t3408 t3409) = some (r1, r2, r3) := by first | (rw [hy3418]; with_reducible exact H) | (have H2_ := (Option.bind_some _ _).symm.trans H; rw [hy3418]; with_reducible exact H2_) | (have H2_ := (Option.bind_some _ _).symm.trans H; with_reducible exact H2_) | with_reducible exact H | (rw [hy3418]; exact H) | exact H
                        have Ny3418 := Aside0.mk hy3418
                        clear hy3418
                        have H' := Aside0.mk H
                        clear H
                        have p3416 : 0 ≤ (x25_2 : Int) := of_decide_eq_true (by first | (with_reducible assumption) | assumption)
                        have q3416 : x25_2 < (y3413.length : Int) := of_decide_eq_true (by first | (with_reducible assumption) | assumption)
                        obtain ⟨ad3416, e3416, hx3416_0⟩ := Kd.at_int (Kd.R_reads' HO_23.out).2.2 x25_2 p3416 q3416
                        cases e3416
                        replace p3416 := eq_true p3416
                        replace q3416 := eq_true q3416
                        have hnb46 := NB3402_3401.out
                        have hnc46 := NB3401_3402.out
                        have hnb47 := NB3402_3403.out
                        have hnc47 := NB3403_3402.out
                        have hcz48_0 : wr.cell? ⟨gb3402, 0, none⟩ = some (.bool t3407) := bc BK3402 0
                        have hcz48_1 : wr.cell? ⟨gb3402, 1, none⟩ = some (.int .i64 t3408) := bc BK3402 1
                        have hcz48_2 : wr.cell? ⟨gb3402, 2, none⟩ = some (.int .i64 t3409) := bc BK3402 2
                        have hfz48_0 := blk_frozen BK3402.out 0
                        have hfz48_1 := blk_frozen BK3402.out 1
                        have hfz48_2 := blk_frozen BK3402.out 2
                        go_wp2_with (first | (go_at_call 36; (with_reducible refine (ints_Has.calls t3407 t3408 t3409 (rd y3413 x25_2) true _ A43.out).mono ?_); rintro e w49 ⟨rfl, hb⟩; have n0_ := Aside0.mk (Kd.R_below (by (with_reducible repeat (first | apply Kd.R_alloc | apply Kd.R_drewN | apply Kd.R_drew)); exact HO_5.out) hb); have n1_ := Aside0.mk (Kd.R_below (by (with_reducible repeat (first | apply Kd.R_alloc | apply Kd.R_drewN | apply Kd.R_drew)); exact HO_23.out) hb); have n2_ := kb BK3401 hb; have n3_ := kb BK3402 hb; have n4_ := kb BK3403 hb; have n5_ := kh HB hb; clear HO_5; clear HO_23; clear BK3401; clear BK3402; clear BK3403; clear HB; have HO_5 := n0_; have HO_23 := n1_; have BK3401 := n2_; have BK3402 := n3_; have BK3403 := n4_; have HB := n5_; clear n0_ n1_ n2_ n3_ n4_ n5_; (try clear hb); (try clear hb2); (try clear hk); (try clear hi)) | ((with_reducible refine gate_builtin (b := .append) (xs := #[.tmp 36, .tmp 38]) rfl ?_); at_builtin; refine Kd.R_append (Kd.int .i64) (w0 := w) w.heap.size rfl (.tmp 36) (.tmp 38) 41 2 (.int .i64 0) 8 rfl Try.underlying41 info2 rfl (by decide) (by omega) u5 x5_2 (rd y3413 x25_2) [.int .i64 (rd y3413 x25_2)] (fun k_ => some k_ ≠ (.slice (some ad3416) y3413.length co38 : Value).ownBlock) (fun _ => False) rfl rfl ?aP (fun _ hk => hk.elim) ?aF ?aO ?aB ?aS ?aL ?_; (case aP => exact rfl); (case aB => exact (pl HB)); (case aF => exact (fun k_ hk => Kd.fresh' (Kd.R_lt (by (with_reducible repeat (first | apply Kd.R_alloc | apply Kd.R_drewN | apply Kd.R_drew)); exact HO_23.out)) k_ hk)); (case aO => exact (by (with_reducible repeat (first | apply Kd.R_alloc | apply Kd.R_drewN | apply Kd.R_drew)); exact HO_5.out)); (case aS => exact (below_size (pl HB))); (case aL => have := LMc45.out; omega); intro v3419 w50 ho hb hg hat; rw [← Ny3418.out] at ho; have n0_ := Aside0.mk (Kd.R_after (ok := (fun _ => True)) (by (with_reducible repeat (first | apply Kd.R_alloc | apply Kd.R_drewN | apply Kd.R_drew)); exact Kd.R_mono HO_23.out (fun _ hk => ⟨trivial, hk⟩)) hg hat); have n1_ := Aside0.mk (blk_grown (g := gb3401) (o := .cells #[.bool t3404, .int .i64 t3405, .int .i64 t3406] 23 (0, 0)) (pk BK3401) hg (Kd.R_ne HO_5.out BK3401.out (by decide))); have n2_ := Aside0.mk (blk_grown (g := gb3402) (o := .cells #[.bool t3407, .int .i64 t3408, .int .i64 t3409] 23 (0, 0)) (pk BK3402) hg (Kd.R_ne HO_5.out BK3402.out (by decide))); have n3_ := Aside0.mk (blk_grown (g := gb3403) (o := .cells #[.bool false, .int .i64 0, .int .i64 0] 23 (0, 0)) (pk BK3403) hg (Kd.R_ne HO_5.out BK3403.out (by decide))); have n4_ := Aside0.mk (hb); have n5_ := Aside0.mk (ho); clear HO_23; clear BK3401; clear BK3402; clear BK3403; clear HB; clear HO_5; have HO_23 := n0_; have BK3401 := n1_; have BK3402 := n2_; have BK3403 := n3_; have HB := n4_; have HO3420 := n5_; clear n0_ n1_ n2_ n3_ n4_ n5_; clear ho hb hg hat))
                        go_roundg k2
                        case measure => have := HJ4.out; have := HK2.out; omega
                        case rel => exact ⟨(y3418), (wrap64 (x25_2 + 1)), (by first | rfl | (simp; done) | (simp [*]; done)), H', ⟨by have := HJ4.out; have := HK2.out; omega⟩, ⟨by (with_reducible repeat (first | apply Kd.R_alloc | apply Kd.R_drewN | apply Kd.R_drew)); exact HO3420.out⟩, ⟨by (with_reducible repeat (first | apply Kd.R_alloc | apply Kd.R_drewN | apply Kd.R_drew)); exact Kd.R_mono HO_23.out (fun _ hk => hk.2)⟩, ⟨pk BK3401⟩, ⟨pk BK3402⟩, ⟨pk BK3403⟩, ⟨pl HB⟩⟩
                      · rw [if_neg c45] at H
                        exact absurd H (by simp)
                    · replace c44 := Bool.eq_false_iff.mpr c44
                      subst c44
                      rw [if_neg (show ¬ (false = true) by decide)] at H
                      have H' := Aside0.mk H
                      clear H
                      have p3416 : 0 ≤ (x25_2 : Int) := of_decide_eq_true (by first | (with_reducible assumption) | assumption)
                      have q3416 : x25_2 < (y3413.length : Int) := of_decide_eq_true (by first | (with_reducible assumption) | assumption)
                      obtain ⟨ad3416, e3416, hx3416_0⟩ := Kd.at_int (Kd.R_reads' HO_23.out).2.2 x25_2 p3416 q3416
                      cases e3416
                      replace p3416 := eq_true p3416
                      replace q3416 := eq_true q3416
                      have hnb51 := NB3402_3401.out
                      have hnc51 := NB3401_3402.out
                      have hnb52 := NB3402_3403.out
                      have hnc52 := NB3403_3402.out
                      have hcz53_0 : wr.cell? ⟨gb3402, 0, none⟩ = some (.bool t3407) := bc BK3402 0
                      have hcz53_1 : wr.cell? ⟨gb3402, 1, none⟩ = some (.int .i64 t3408) := bc BK3402 1
                      have hcz53_2 : wr.cell? ⟨gb3402, 2, none⟩ = some (.int .i64 t3409) := bc BK3402 2
                      have hfz53_0 := blk_frozen BK3402.out 0
                      have hfz53_1 := blk_frozen BK3402.out 1
                      have hfz53_2 := blk_frozen BK3402.out 2
                      go_wp2_with (first | (go_at_call 36; (with_reducible refine (ints_Has.calls t3407 t3408 t3409 (rd y3413 x25_2) false _ A43.out).mono ?_); rintro e w54 ⟨rfl, hb⟩; have n0_ := Aside0.mk (Kd.R_below (by (with_reducible repeat (first | apply Kd.R_alloc | apply Kd.R_drewN | apply Kd.R_drew)); exact HO_5.out) hb); have n1_ := Aside0.mk (Kd.R_below (by (with_reducible repeat (first | apply Kd.R_alloc | apply Kd.R_drewN | apply Kd.R_drew)); exact HO_23.out) hb); have n2_ := kb BK3401 hb; have n3_ := kb BK3402 hb; have n4_ := kb BK3403 hb; have n5_ := kh HB hb; clear HO_5; clear HO_23; clear BK3401; clear BK3402; clear BK3403; clear HB; have HO_5 := n0_; have HO_23 := n1_; have BK3401 := n2_; have BK3402 := n3_; have BK3403 := n4_; have HB := n5_; clear n0_ n1_ n2_ n3_ n4_ n5_; (try clear hb); (try clear hb2); (try clear hk); (try clear hi)))
                      go_roundg k2
                      case measure => have := HJ4.out; have := HK2.out; omega
                      case rel => exact ⟨(x5_2), (wrap64 (x25_2 + 1)), (by first | rfl | (simp; done) | (simp [*]; done)), H', ⟨by have := HJ4.out; have := HK2.out; omega⟩, ⟨by (with_reducible repeat (first | apply Kd.R_alloc | apply Kd.R_drewN | apply Kd.R_drew)); exact HO_5.out⟩, ⟨by (with_reducible repeat (first | apply Kd.R_alloc | apply Kd.R_drewN | apply Kd.R_drew)); exact HO_23.out⟩, ⟨pk BK3401⟩, ⟨pk BK3402⟩, ⟨pk BK3403⟩, ⟨pl HB⟩⟩
                · rw [if_neg c41] at H
                  exact absurd H (by simp)
              · rw [if_neg c40] at H
                exact absurd H (by simp)
            · rw [if_neg c39] at H
              have c39b0 : decide (x25_2 < (y3413.length : Int)) = false := decide_eq_false c39
              clear c39
              by_cases c55 : (x5_2.length : Int) = 0
              · rw [if_pos c55] at H
                have c55b0 : ((x5_2.length : Int) == 0) = true := beq_iff_eq.mpr c55
                have c55b1 : ((x5_2.length : Int) != 0) = false := bne_eq_false_iff_eq.mpr c55
                clear c55
                obtain ⟨⟨t3421, t3422, t3423⟩, A560, H⟩ := Option.bind_eq_some_iff.mp H
                have A56 := Aside0.mk A560
                clear A560
                (try dsimp only at H)
                simp only [Option.some.injEq, Prod.mk.injEq] at H
                obtain ⟨rfl, rfl, rfl⟩ := H
                obtain ⟨Ao57, co57, eo57⟩ := Kd.R_slice HO_5.out
                subst eo57
                go_wp2_with (first | ((with_reducible refine gate_callee (f := 70) rfl ?_); refine kc (some 44) Try.func70 #[] (ints_none.calls  t3421 t3422 t3423 _ A56.out) ?_; intro w58 hb; have n0_ := Aside0.mk (Kd.R_below (by (with_reducible repeat (first | apply Kd.R_alloc | apply Kd.R_drewN | apply Kd.R_drew)); exact HO_5.out) hb); have n1_ := Aside0.mk (Kd.R_below (by (with_reducible repeat (first | apply Kd.R_alloc | apply Kd.R_drewN | apply Kd.R_drew)); exact HO_23.out) hb); have n2_ := kb BK3401 hb; have n3_ := kb BK3402 hb; have n4_ := kb BK3403 hb; have n5_ := kh HB hb; clear HO_5; clear HO_23; clear BK3401; clear BK3402; clear BK3403; clear HB; have HO_5 := n0_; have HO_23 := n1_; have BK3401 := n2_; have BK3402 := n3_; have BK3403 := n4_; have HB := n5_; clear n0_ n1_ n2_ n3_ n4_ n5_; (try clear hb); (try clear hb2); (try clear hk); (try clear hi); have hnb59 := NB3403_3401.out; have hnc59 := NB3401_3403.out; have hnb60 := NB3403_3402.out; have hnc60 := NB3402_3403.out; have ⟨hcz61_0, hcz61_1, hcz61_2, hfz61_0, hfz61_1, hfz61_2⟩ := kz3f BK3403))
                refine bodyPost_ret (results_cell_row rfl _ _ gb3403 23 #[.bool t3421, .int .i64 t3422, .int .i64 t3423] (0, 0) _ rfl (pK BK3403) Try.underlying23 rfl (by kernel_rfl)) rfl ?_
                exact ⟨pe, pl HB⟩
              · rw [if_neg c55] at H
                have c55b0 : ((x5_2.length : Int) == 0) = false := beq_eq_false_iff_ne.mpr c55
                have c55b1 : ((x5_2.length : Int) != 0) = true := bne_iff_ne.mpr c55
                have c55b2 : ¬ (x5_2 = []) := fun h_ => c55 (by rw [h_]; rfl)
                obtain ⟨⟨t3424, t3425, t3426⟩, A620, H⟩ := Option.bind_eq_some_iff.mp H
                have A62 := Aside0.mk A620
                clear A620
                (try dsimp only at H)
                simp only [Option.some.injEq, Prod.mk.injEq] at H
                obtain ⟨rfl, rfl, rfl⟩ := H
                obtain ⟨Ao63, co63, eo63⟩ := Kd.R_slice HO_5.out
                subst eo63
                have hnb64 := NB3401_3402.out
                have hnc64 := NB3402_3401.out
                have hnb65 := NB3401_3403.out
                have hnc65 := NB3403_3401.out
                have hcz66_0 : wr.cell? ⟨gb3401, 0, none⟩ = some (.bool t3404) := bc BK3401 0
                have hcz66_1 : wr.cell? ⟨gb3401, 1, none⟩ = some (.int .i64 t3405) := bc BK3401 1
                have hcz66_2 : wr.cell? ⟨gb3401, 2, none⟩ = some (.int .i64 t3406) := bc BK3401 2
                have hfz66_0 := blk_frozen BK3401.out 0
                have hfz66_1 := blk_frozen BK3401.out 1
                have hfz66_2 := blk_frozen BK3401.out 2
                go_wp2_with (first | ((with_reducible refine gate_callee (f := 74) rfl ?_); refine goesL_ (some 47) rfl rfl Try.func74 (by kernel_rfl) rfl #[.agg #[.bool t3404, .int .i64 t3405, .int .i64 t3406], .slice Ao63 x5_2.length co63, .func (.func 76) #[] #[]] rfl pa ?_; (with_reducible refine (ints_cornersOver.calls k2 t3404 t3405 t3406 _ _ x5_2 t3424 t3425 t3426 _ ?side1 ?side2 A62.out).mono ?_); (case side1 => repeat (first | exact (Kd.R_reads' HO_5.out).2.2 | (with_reducible refine Kd.C_alloc ?_ _) | (with_reducible refine Kd.C_drewN ?_ _) | (with_reducible refine Kd.C_drew ?_))); (case side2 => exact (Kd.R_reads' HO_5.out).2.1); rintro e w67 ⟨rfl, hb⟩; refine ⟨_, rfl, ?_⟩; have n0_ := Aside0.mk (Kd.R_below (by (with_reducible repeat (first | apply Kd.R_alloc | apply Kd.R_drewN | apply Kd.R_drew)); exact HO_5.out) hb); have n1_ := Aside0.mk (Kd.R_below (by (with_reducible repeat (first | apply Kd.R_alloc | apply Kd.R_drewN | apply Kd.R_drew)); exact HO_23.out) hb); have n2_ := kb BK3401 hb; have n3_ := kb BK3402 hb; have n4_ := kb BK3403 hb; have n5_ := kh HB hb; clear HO_5; clear HO_23; clear BK3401; clear BK3402; clear BK3403; clear HB; have HO_5 := n0_; have HO_23 := n1_; have BK3401 := n2_; have BK3402 := n3_; have BK3403 := n4_; have HB := n5_; clear n0_ n1_ n2_ n3_ n4_ n5_; (try clear hb); (try clear hb2); (try clear hk); (try clear hi); have hnb68 := NB3403_3402.out; have hnc68 := NB3402_3403.out; have ⟨hcz69_0, hcz69_1, hcz69_2, hfz69_0, hfz69_1, hfz69_2⟩ := kz3f BK3403))
                refine bodyPost_ret (results_cell_row rfl _ _ gb3403 23 #[.bool t3424, .int .i64 t3425, .int .i64 t3426] (0, 0) _ rfl (pK BK3403) Try.underlying23 rfl (by kernel_rfl)) rfl ?_
                exact ⟨pe, pl HB⟩
/-! ### ints_Full: function 60 -/
def ints_Full.f  : Option (Bool × Int × Int) := (ints_Make.f (-2147483648) 2147483647).bind fun bt3552 => (some (bt3552.1, bt3552.2.1, bt3552.2.2))
set_option maxHeartbeats 8000000 in
set_option maxRecDepth 100000 in
theorem ints_Full.calls  (r1 : Bool) (r2 : Int) (r3 : Int) (w : World) (h : ints_Full.f  = some (r1, r2, r3)) :
    Calls Try.prog 60 #[] w fun e w' => e = .returned (.agg #[.bool r1, .int .i64 r2, .int .i64 r3]) ∧ Below w.heap.size w w' := by
  have hu23 := Try.underlying23
  have HB := Aside0.mk (Below.refl w.heap.size w)
  have H := h
  clear h
  unfold ints_Full.f at H
  obtain ⟨⟨t3552, t3553, t3554⟩, A10, H⟩ := Option.bind_eq_some_iff.mp H
  have A1 := Aside0.mk A10
  clear A10
  (try dsimp only at H)
  simp only [Option.some.injEq, Prod.mk.injEq] at H
  obtain ⟨rfl, rfl, rfl⟩ := H
  go_enter Try.func60, Try.ntmps60
  go_wp2_with (first | ((with_reducible refine gate_dst (N := 0) rfl ?_); refine kx 0 #[.bool false, .int .i64 0, .int .i64 0] 23 ?_; intro gb3551 hg w2 hbox hb; have BK3551 := Aside0.mk (hbox); have GW3551 := kg HB hg; have GE3551 := kg HB hg; replace HB := kh HB hb; clear hb hbox hg) | ((with_reducible refine gate_callee (f := 37) rfl ?_); refine kc (some 1) Try.func37 #[.int .i64 (-2147483648), .int .i64 2147483647] (ints_Make.calls (-2147483648) 2147483647 t3552 t3553 t3554 _ A1.out) ?_; intro w3 hb; replace BK3551 := kb BK3551 hb; replace HB := kh HB hb; (try clear hb); have ⟨hcz4_0, hcz4_1, hcz4_2, hfz4_0, hfz4_1, hfz4_2⟩ := kz3f BK3551))
  refine bodyPost_ret (results_cell_row rfl _ _ gb3551 23 #[.bool t3552, .int .i64 t3553, .int .i64 t3554] (0, 0) _ rfl (pK BK3551) Try.underlying23 rfl (by kernel_rfl)) rfl ?_
  exact ⟨pe, pl HB⟩
/-! ### ints_without: function 79 -/
def ints_without.f (a0_0 : Bool) (a0_1 : Int) (a0_2 : Int) (a1_0 : Bool) (a1_1 : Int) (a1_2 : Int) : Option (Bool × Int × Int) := if a1_1 = a1_2 then (if a0_1 = a1_1 then ((ints_Make.f (wrap64 (a1_1 + 1)) a0_2).bind fun bt3854 => (some (bt3854.1, bt3854.2.1, bt3854.2.2))) else (if a0_2 = a1_1 then ((ints_Make.f a0_1 (wrap64 (a1_1 - 1))).bind fun bt3857 => (some (bt3857.1, bt3857.2.1, bt3857.2.2))) else (some (a0_0, a0_1, a0_2)))) else (some (a0_0, a0_1, a0_2))
set_option maxHeartbeats 8000000 in
set_option maxRecDepth 100000 in
theorem ints_without.calls (a0_0 : Bool) (a0_1 : Int) (a0_2 : Int) (a1_0 : Bool) (a1_1 : Int) (a1_2 : Int) (r1 : Bool) (r2 : Int) (r3 : Int) (w : World) (h : ints_without.f a0_0 a0_1 a0_2 a1_0 a1_1 a1_2 = some (r1, r2, r3)) :
    Calls Try.prog 79 #[.agg #[.bool a0_0, .int .i64 a0_1, .int .i64 a0_2], .agg #[.bool a1_0, .int .i64 a1_1, .int .i64 a1_2]] w fun e w' => e = .returned (.agg #[.bool r1, .int .i64 r2, .int .i64 r3]) ∧ Below w.heap.size w w' := by
  have hu23 := Try.underlying23
  have HB := Aside0.mk (Below.refl w.heap.size w)
  have H := h
  clear h
  unfold ints_without.f at H
  by_cases c3 : a1_1 = a1_2
  · rw [if_pos c3] at H
    have c3b0 : (a1_1 == a1_2) = true := beq_iff_eq.mpr c3
    have c3b1 : (a1_1 != a1_2) = false := bne_eq_false_iff_eq.mpr c3
    clear c3
    by_cases c4 : a0_1 = a1_1
    · rw [if_pos c4] at H
      have c4b0 : (a0_1 == a1_1) = true := beq_iff_eq.mpr c4
      have c4b1 : (a0_1 != a1_1) = false := bne_eq_false_iff_eq.mpr c4
      clear c4
      obtain ⟨⟨t3854, t3855, t3856⟩, A50, H⟩ := Option.bind_eq_some_iff.mp H
      have A5 := Aside0.mk A50
      clear A50
      (try dsimp only at H)
      simp only [Option.some.injEq, Prod.mk.injEq] at H
      obtain ⟨rfl, rfl, rfl⟩ := H
      go_enter Try.func79, Try.ntmps79
      go_wp2_with (first | ((with_reducible refine gate_dst (N := 2) rfl ?_); refine kx 2 #[.bool a0_0, .int .i64 a0_1, .int .i64 a0_2] 23 ?_; intro gb3851 hg w6 hbox hb; have BK3851 := Aside0.mk (hbox); have GW3851 := kg HB hg; have GE3851 := kg HB hg; replace HB := kh HB hb; clear hb hbox hg) | ((with_reducible refine gate_dst (N := 3) rfl ?_); refine kx 3 #[.bool a1_0, .int .i64 a1_1, .int .i64 a1_2] 23 ?_; intro gb3852 hg w7 hbox hb; have BK3852 := Aside0.mk (hbox); have GW3852 := kg HB hg; have GE3852 := kg HB hg; have NB3851_3852 := kn BK3851 hg; have NB3852_3851 := km BK3851 hg; replace BK3851 := kb BK3851 hb; replace HB := kh HB hb; clear hb hbox hg) | ((with_reducible refine gate_dst (N := 4) rfl ?_); refine kx 4 #[.bool false, .int .i64 0, .int .i64 0] 23 ?_; intro gb3853 hg w8 hbox hb; have BK3853 := Aside0.mk (hbox); have GW3853 := kg HB hg; have GE3853 := kg HB hg; have NB3851_3853 := kn BK3851 hg; have NB3853_3851 := km BK3851 hg; have NB3852_3853 := kn BK3852 hg; have NB3853_3852 := km BK3852 hg; replace BK3851 := kb BK3851 hb; replace BK3852 := kb BK3852 hb; replace HB := kh HB hb; clear hb hbox hg; have hnb9 := NB3852_3851.out; have hnc9 := NB3851_3852.out; have hnb10 := NB3852_3853.out; have hnc10 := NB3853_3852.out; have ⟨hcz11_0, hcz11_1, hcz11_2, hfz11_0, hfz11_1, hfz11_2⟩ := kz3f BK3852; have hnb12 := NB3851_3853.out; have hnc12 := NB3853_3851.out; have ⟨hcz13_0, hcz13_1, hcz13_2, hfz13_0, hfz13_1, hfz13_2⟩ := kz3f BK3851) | ((with_reducible refine gate_callee (f := 37) rfl ?_); refine kc (some 23) Try.func37 #[.int .i64 (wrap64 (a1_1 + 1)), .int .i64 a0_2] (ints_Make.calls (wrap64 (a1_1 + 1)) a0_2 t3854 t3855 t3856 _ A5.out) ?_; intro w14 hb; replace BK3851 := kb BK3851 hb; replace BK3852 := kb BK3852 hb; replace BK3853 := kb BK3853 hb; replace HB := kh HB hb; (try clear hb); have ⟨hcz15_0, hcz15_1, hcz15_2, hfz15_0, hfz15_1, hfz15_2⟩ := kz3f BK3853))
      refine bodyPost_ret (results_cell_row rfl _ _ gb3853 23 #[.bool t3854, .int .i64 t3855, .int .i64 t3856] (0, 0) _ rfl (pK BK3853) Try.underlying23 rfl (by kernel_rfl)) rfl ?_
      exact ⟨pe, pl HB⟩
    · rw [if_neg c4] at H
      have c4b0 : (a0_1 == a1_1) = false := beq_eq_false_iff_ne.mpr c4
      have c4b1 : (a0_1 != a1_1) = true := bne_iff_ne.mpr c4
      by_cases c16 : a0_2 = a1_1
      · rw [if_pos c16] at H
        have c16b0 : (a0_2 == a1_1) = true := beq_iff_eq.mpr c16
        have c16b1 : (a0_2 != a1_1) = false := bne_eq_false_iff_eq.mpr c16
        clear c16
        obtain ⟨⟨t3857, t3858, t3859⟩, A170, H⟩ := Option.bind_eq_some_iff.mp H
        have A17 := Aside0.mk A170
        clear A170
        (try dsimp only at H)
        simp only [Option.some.injEq, Prod.mk.injEq] at H
        obtain ⟨rfl, rfl, rfl⟩ := H
        go_enter Try.func79, Try.ntmps79
        go_wp2_with (first | ((with_reducible refine gate_dst (N := 2) rfl ?_); refine kx 2 #[.bool a0_0, .int .i64 a0_1, .int .i64 a0_2] 23 ?_; intro gb3851 hg w18 hbox hb; have BK3851 := Aside0.mk (hbox); have GW3851 := kg HB hg; have GE3851 := kg HB hg; replace HB := kh HB hb; clear hb hbox hg) | ((with_reducible refine gate_dst (N := 3) rfl ?_); refine kx 3 #[.bool a1_0, .int .i64 a1_1, .int .i64 a1_2] 23 ?_; intro gb3852 hg w19 hbox hb; have BK3852 := Aside0.mk (hbox); have GW3852 := kg HB hg; have GE3852 := kg HB hg; have NB3851_3852 := kn BK3851 hg; have NB3852_3851 := km BK3851 hg; replace BK3851 := kb BK3851 hb; replace HB := kh HB hb; clear hb hbox hg) | ((with_reducible refine gate_dst (N := 4) rfl ?_); refine kx 4 #[.bool false, .int .i64 0, .int .i64 0] 23 ?_; intro gb3853 hg w20 hbox hb; have BK3853 := Aside0.mk (hbox); have GW3853 := kg HB hg; have GE3853 := kg HB hg; have NB3851_3853 := kn BK3851 hg; have NB3853_3851 := km BK3851 hg; have NB3852_3853 := kn BK3852 hg; have NB3853_3852 := km BK3852 hg; replace BK3851 := kb BK3851 hb; replace BK3852 := kb BK3852 hb; replace HB := kh HB hb; clear hb hbox hg; have hnb21 := NB3852_3851.out; have hnc21 := NB3851_3852.out; have hnb22 := NB3852_3853.out; have hnc22 := NB3853_3852.out; have ⟨hcz23_0, hcz23_1, hcz23_2, hfz23_0, hfz23_1, hfz23_2⟩ := kz3f BK3852; have hnb24 := NB3851_3853.out; have hnc24 := NB3853_3851.out; have ⟨hcz25_0, hcz25_1, hcz25_2, hfz25_0, hfz25_1, hfz25_2⟩ := kz3f BK3851) | ((with_reducible refine gate_callee (f := 37) rfl ?_); refine kc (some 33) Try.func37 #[.int .i64 a0_1, .int .i64 (wrap64 (a1_1 - 1))] (ints_Make.calls a0_1 (wrap64 (a1_1 - 1)) t3857 t3858 t3859 _ A17.out) ?_; intro w26 hb; replace BK3851 := kb BK3851 hb; replace BK3852 := kb BK3852 hb; replace BK3853 := kb BK3853 hb; replace HB := kh HB hb; (try clear hb); have ⟨hcz27_0, hcz27_1, hcz27_2, hfz27_0, hfz27_1, hfz27_2⟩ := kz3f BK3853))
        refine bodyPost_ret (results_cell_row rfl _ _ gb3853 23 #[.bool t3857, .int .i64 t3858, .int .i64 t3859] (0, 0) _ rfl (pK BK3853) Try.underlying23 rfl (by kernel_rfl)) rfl ?_
        exact ⟨pe, pl HB⟩
      · rw [if_neg c16] at H
        have c16b0 : (a0_2 == a1_1) = false := beq_eq_false_iff_ne.mpr c16
        have c16b1 : (a0_2 != a1_1) = true := bne_iff_ne.mpr c16
        simp only [Option.some.injEq, Prod.mk.injEq] at H
        obtain ⟨rfl, rfl, rfl⟩ := H
        go_enter Try.func79, Try.ntmps79
        go_wp2_with (first | ((with_reducible refine gate_dst (N := 2) rfl ?_); refine kx 2 #[.bool a0_0, .int .i64 a0_1, .int .i64 a0_2] 23 ?_; intro gb3851 hg w28 hbox hb; have BK3851 := Aside0.mk (hbox); have GW3851 := kg HB hg; have GE3851 := kg HB hg; replace HB := kh HB hb; clear hb hbox hg) | ((with_reducible refine gate_dst (N := 3) rfl ?_); refine kx 3 #[.bool a1_0, .int .i64 a1_1, .int .i64 a1_2] 23 ?_; intro gb3852 hg w29 hbox hb; have BK3852 := Aside0.mk (hbox); have GW3852 := kg HB hg; have GE3852 := kg HB hg; have NB3851_3852 := kn BK3851 hg; have NB3852_3851 := km BK3851 hg; replace BK3851 := kb BK3851 hb; replace HB := kh HB hb; clear hb hbox hg) | ((with_reducible refine gate_dst (N := 4) rfl ?_); refine kx 4 #[.bool false, .int .i64 0, .int .i64 0] 23 ?_; intro gb3853 hg w30 hbox hb; have BK3853 := Aside0.mk (hbox); have GW3853 := kg HB hg; have GE3853 := kg HB hg; have NB3851_3853 := kn BK3851 hg; have NB3853_3851 := km BK3851 hg; have NB3852_3853 := kn BK3852 hg; have NB3853_3852 := km BK3852 hg; replace BK3851 := kb BK3851 hb; replace BK3852 := kb BK3852 hb; replace HB := kh HB hb; clear hb hbox hg; have hnb31 := NB3852_3851.out; have hnc31 := NB3851_3852.out; have hnb32 := NB3852_3853.out; have hnc32 := NB3853_3852.out; have ⟨hcz33_0, hcz33_1, hcz33_2, hfz33_0, hfz33_1, hfz33_2⟩ := kz3f BK3852; have hnb34 := NB3851_3853.out; have hnc34 := NB3853_3851.out; have ⟨hcz35_0, hcz35_1, hcz35_2, hfz35_0, hfz35_1, hfz35_2⟩ := kz3f BK3851; have ⟨hcz36_0, hcz36_1, hcz36_2, hfz36_0, hfz36_1, hfz36_2⟩ := kz3f BK3853))
        refine bodyPost_ret (results_cell_row rfl _ _ gb3853 23 #[.bool a0_0, .int .i64 a0_1, .int .i64 a0_2] (0, 0) _ rfl (pK BK3853) Try.underlying23 rfl (by kernel_rfl)) rfl ?_
        exact ⟨pe, pl HB⟩
  · rw [if_neg c3] at H
    have c3b0 : (a1_1 == a1_2) = false := beq_eq_false_iff_ne.mpr c3
    have c3b1 : (a1_1 != a1_2) = true := bne_iff_ne.mpr c3
    simp only [Option.some.injEq, Prod.mk.injEq] at H
    obtain ⟨rfl, rfl, rfl⟩ := H
    go_enter Try.func79, Try.ntmps79
    go_wp2_with (first | ((with_reducible refine gate_dst (N := 2) rfl ?_); refine kx 2 #[.bool a0_0, .int .i64 a0_1, .int .i64 a0_2] 23 ?_; intro gb3851 hg w37 hbox hb; have BK3851 := Aside0.mk (hbox); have GW3851 := kg HB hg; have GE3851 := kg HB hg; replace HB := kh HB hb; clear hb hbox hg) | ((with_reducible refine gate_dst (N := 3) rfl ?_); refine kx 3 #[.bool a1_0, .int .i64 a1_1, .int .i64 a1_2] 23 ?_; intro gb3852 hg w38 hbox hb; have BK3852 := Aside0.mk (hbox); have GW3852 := kg HB hg; have GE3852 := kg HB hg; have NB3851_3852 := kn BK3851 hg; have NB3852_3851 := km BK3851 hg; replace BK3851 := kb BK3851 hb; replace HB := kh HB hb; clear hb hbox hg) | ((with_reducible refine gate_dst (N := 4) rfl ?_); refine kx 4 #[.bool false, .int .i64 0, .int .i64 0] 23 ?_; intro gb3853 hg w39 hbox hb; have BK3853 := Aside0.mk (hbox); have GW3853 := kg HB hg; have GE3853 := kg HB hg; have NB3851_3853 := kn BK3851 hg; have NB3853_3851 := km BK3851 hg; have NB3852_3853 := kn BK3852 hg; have NB3853_3852 := km BK3852 hg; replace BK3851 := kb BK3851 hb; replace BK3852 := kb BK3852 hb; replace HB := kh HB hb; clear hb hbox hg; have hnb40 := NB3852_3851.out; have hnc40 := NB3851_3852.out; have hnb41 := NB3852_3853.out; have hnc41 := NB3853_3852.out; have ⟨hcz42_0, hcz42_1, hcz42_2, hfz42_0, hfz42_1, hfz42_2⟩ := kz3f BK3852; have hnb43 := NB3851_3853.out; have hnc43 := NB3853_3851.out; have ⟨hcz44_0, hcz44_1, hcz44_2, hfz44_0, hfz44_1, hfz44_2⟩ := kz3f BK3851; have ⟨hcz45_0, hcz45_1, hcz45_2, hfz45_0, hfz45_1, hfz45_2⟩ := kz3f BK3853))
    refine bodyPost_ret (results_cell_row rfl _ _ gb3853 23 #[.bool a0_0, .int .i64 a0_1, .int .i64 a0_2] (0, 0) _ rfl (pK BK3853) Try.underlying23 rfl (by kernel_rfl)) rfl ?_
    exact ⟨pe, pl HB⟩
end Go.Proofs.Ytinmgnlofininaa.PAll
end
