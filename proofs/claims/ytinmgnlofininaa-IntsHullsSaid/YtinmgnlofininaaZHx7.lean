/- Functions of the print, turned to this claim. -/
import Derived.Test.YtinmgnlofininaaZHW
import Derived.Test.YtinmgnlofininaaZHx0
import Derived.Test.YtinmgnlofininaaZHx5
import Derived.Test.YtinmgnlofininaaZHx6
section
namespace Go.Proofs.Ytinmgnlofininaa.PAll
open Go.RowKit Go.Proofs.YtinmgnlofininaaW.PrintWords Go.Proofs.YtinmgnlofininaaW.PrintLast Go.Proofs.YtinmgnlofininaaW.PrintMore
attribute [local go_sem] max2_int min2_int max_two min_two max_three min_three max_four min_four   -- for this text's walks alone
set_option linter.unusedVariables false
set_option linter.unusedSimpArgs false
/-! ### ints_cornersOver: function 104 -/
mutual
def ints_cornersOver.l0 : Nat → List Int → Int → Int → List Int → Int → Int → Option (Bool × Int × Int)
  | 0, _, _, _, _, _, _ => none
  | k + 1, x1, x7, x8, x18, x19, x20 => if x20 < x19 then (if 0 ≤ x20 then (if x20 < (x18.length : Int) then (ints_cornersOver.l1 k x1 x7 x8 (rd x18 x20) x18 x19 x20 x1 (x1.length : Int) 0) else (none)) else (none)) else ((ints_hull.f x7 x8).bind fun bt3256 => (some (bt3256.1, bt3256.2.1, bt3256.2.2)))
def ints_cornersOver.l1 : Nat → List Int → Int → Int → Int → List Int → Int → Int → List Int → Int → Int → Option (Bool × Int × Int)
  | 0, _, _, _, _, _, _, _, _, _, _ => none
  | k + 1, x1, x7, x8, x10, x18, x19, x20, x24, x25, x26 => if x26 < x25 then (if 0 ≤ x26 then (if x26 < (x24.length : Int) then ((ints_over.f k x10 (rd x24 x26)).bind fun t3261 => (ints_cornersOver.l1 k x1 (mn x7 t3261) (mx x8 t3261) x10 x18 x19 x20 x24 x25 (wrap64 (x26 + 1)))) else (none)) else (none)) else (ints_cornersOver.l0 k x1 x7 x8 x18 x19 (wrap64 (x20 + 1)))
end
def ints_cornersOver.f (k : Nat) (a0_0 : Bool) (a0_1 : Int) (a0_2 : Int) (l1 : List Int) : Option (Bool × Int × Int) := (some (([a0_1, a0_2] : List Int) : List Int)).bind fun y3253 => (ints_cornersOver.l0 k l1 1099511627776 (-1099511627776) y3253 (y3253.length : Int) 0)
theorem ints_cornersOver.mono_l : ∀ k, (∀ y0 y1 y2 y3 y4 y5, LeO (ints_cornersOver.l0 k y0 y1 y2 y3 y4 y5) (ints_cornersOver.l0 (k + 1) y0 y1 y2 y3 y4 y5)) ∧ (∀ y0 y1 y2 y3 y4 y5 y6 y7 y8 y9, LeO (ints_cornersOver.l1 k y0 y1 y2 y3 y4 y5 y6 y7 y8 y9) (ints_cornersOver.l1 (k + 1) y0 y1 y2 y3 y4 y5 y6 y7 y8 y9))
  | 0 => ⟨fun _ _ _ _ _ _ r h => by simp [ints_cornersOver.l0] at h, fun _ _ _ _ _ _ _ _ _ _ r h => by simp [ints_cornersOver.l1] at h⟩
  | k + 1 => by
    obtain ⟨ih0, ih1⟩ := ints_cornersOver.mono_l k
    refine ⟨?_, ?_⟩
    · intro y0 y1 y2 y3 y4 y5
      unfold ints_cornersOver.l0
      repeat' first
      | (with_reducible exact ih0 _ _ _ _ _ _)
      | (with_reducible exact ih1 _ _ _ _ _ _ _ _ _ _)
      | (with_reducible exact ints_over.mono _ _ _)
      | (with_reducible exact LeO.refl _)
      | (with_reducible exact LeO.none _)
      | (with_reducible refine LeO.ite ?_ ?_)
      | (with_reducible refine LeO.bind ?_ (fun _ => ?_))
      | exact ih0 _ _ _ _ _ _
      | exact ih1 _ _ _ _ _ _ _ _ _ _
      | exact ints_over.mono _ _ _
      | exact LeO.none _
      | refine LeO.ite ?_ ?_
      | refine LeO.bind ?_ (fun _ => ?_)
    · intro y0 y1 y2 y3 y4 y5 y6 y7 y8 y9
      unfold ints_cornersOver.l1
      repeat' first
      | (with_reducible exact ih0 _ _ _ _ _ _)
      | (with_reducible exact ih1 _ _ _ _ _ _ _ _ _ _)
      | (with_reducible exact ints_over.mono _ _ _)
      | (with_reducible exact LeO.refl _)
      | (with_reducible exact LeO.none _)
      | (with_reducible refine LeO.ite ?_ ?_)
      | (with_reducible refine LeO.bind ?_ (fun _ => ?_))
      | exact ih0 _ _ _ _ _ _
      | exact ih1 _ _ _ _ _ _ _ _ _ _
      | exact ints_over.mono _ _ _
      | exact LeO.none _
      | refine LeO.ite ?_ ?_
      | refine LeO.bind ?_ (fun _ => ?_)
theorem ints_cornersOver.mono : ∀ a0 a1 a2 a3 k, LeO (ints_cornersOver.f k a0 a1 a2 a3) (ints_cornersOver.f (k + 1) a0 a1 a2 a3) := by
  intro a0 a1 a2 a3 k
  obtain ⟨ih0, ih1⟩ := ints_cornersOver.mono_l k
  unfold ints_cornersOver.f
  repeat' first
      | (with_reducible exact ih0 _ _ _ _ _ _)
      | (with_reducible exact ih1 _ _ _ _ _ _ _ _ _ _)
      | (with_reducible exact ints_over.mono _ _ _)
      | (with_reducible exact LeO.refl _)
      | (with_reducible exact LeO.none _)
      | (with_reducible refine LeO.ite ?_ ?_)
      | (with_reducible refine LeO.bind ?_ (fun _ => ?_))
      | exact ih0 _ _ _ _ _ _
      | exact ih1 _ _ _ _ _ _ _ _ _ _
      | exact ints_over.mono _ _ _
      | exact LeO.none _
      | refine LeO.ite ?_ ?_
      | refine LeO.bind ?_ (fun _ => ?_)
set_option maxHeartbeats 8000000 in
set_option maxRecDepth 100000 in
theorem ints_cornersOver.calls (k : Nat) (a0_0 : Bool) (a0_1 : Int) (a0_2 : Int) (A1 : Option Addr) (c1 : Nat) (l1 : List Int) (r1 : Bool) (r2 : Int) (r3 : Int) (w : World) (hr1 : Kd.C (Kd.int .i64) w A1 l1.length l1) (hc1 : l1.length ≤ c1) (h : ints_cornersOver.f k a0_0 a0_1 a0_2 l1 = some (r1, r2, r3)) :
    Calls Try.prog 74 #[.agg #[.bool a0_0, .int .i64 a0_1, .int .i64 a0_2], .slice A1 l1.length c1, .func (.func 76) #[] #[]] w fun e w' => e = .returned (.agg #[.bool r1, .int .i64 r2, .int .i64 r3]) ∧ Below w.heap.size w w' := by
  have hu23 := Try.underlying23
  have HR1 := Aside0.mk hr1
  have HC1 := Aside0.mk hc1
  clear hr1 hc1
  have HB := Aside0.mk (Below.refl w.heap.size w)
  have H := h
  clear h
  unfold ints_cornersOver.f at H
  obtain ⟨y3253, hy3253⟩ : ∃ y_ : List Int, y_ = (([a0_1, a0_2] : List Int)) := ⟨_, rfl⟩
  replace H : (ints_cornersOver.l0 k l1 1099511627776 (-1099511627776) y3253 (y3253.length : Int) 0) = some (r1, r2, r3) := by first | (rw [hy3253]; with_reducible exact H) | (have H2_ := (Option.bind_some _ _).symm.trans H; rw [hy3253]; with_reducible exact H2_) | (have H2_ := (Option.bind_some _ _).symm.trans H; with_reducible exact H2_) | with_reducible exact H | (rw [hy3253]; exact H) | exact H
  have Ny3253 := Aside0.mk hy3253
  clear hy3253
  have H' := Aside0.mk H
  clear H
  go_enter Try.func74, Try.ntmps74
  go_wp2_with (first | ((with_reducible refine gate_dst (N := 3) rfl ?_); refine kx 3 #[.bool a0_0, .int .i64 a0_1, .int .i64 a0_2] 23 ?_; intro gb3251 hg w3 hbox hb; have BK3251 := Aside0.mk (hbox); have GW3251 := kg HB hg; have GE3251 := kg HB hg; replace HB := kh HB hb; clear hb hbox hg) | ((with_reducible refine gate_dst (N := 6) rfl ?_); refine kx 6 #[.bool false, .int .i64 0, .int .i64 0] 23 ?_; intro gb3252 hg w4 hbox hb; have BK3252 := Aside0.mk (hbox); have GW3252 := kg HB hg; have GE3252 := kg HB hg; have NB3251_3252 := kn BK3251 hg; have NB3252_3251 := km BK3251 hg; replace BK3251 := kb BK3251 hb; replace HB := kh HB hb; clear hb hbox hg; have hnb5 := NB3251_3252.out; have hnc5 := NB3252_3251.out; have ⟨hcz6_0, hcz6_1, hcz6_2, hfz6_0, hfz6_1, hfz6_2⟩ := kz3f BK3251) | ((with_reducible refine gate_dst (N := 18) rfl ?_); refine Kd.R_lit (Kd.int .i64) _ 2 ?hg (N := 18) ?hd (xs := ([a0_1, a0_2] : List Int)) (inner := [.int .i64 a0_1, .int .i64 a0_2]) (ok := fun _ => True) (okp := fun _ => True) ?hr ?hp (fun _ hk => hk) trivial (Below.refl _ _) (Nat.le_refl _) (by simp) ?_; (case hd => rfl); (case hg => rfl); (case hr => first | (go_simp; done) | (go_simp; rfl)); (case hp => exact (Reps.one (show Kd.M (Kd.int .i64) _ _ _ a0_1 [.int .i64 a0_1] from rfl) (Reps.one (show Kd.M (Kd.int .i64) _ _ _ a0_2 [.int .i64 a0_2] from rfl) (Reps.none _ _)))); intro v3254 w7 ho8 hb hg_ hnew_; clear hg_ hnew_; (first | rw [← Ny3253.out] at ho8 | (simp only [Int.reduceToNat] at ho8; rw [← Ny3253.out] at ho8)); have HO3255 := Aside0.mk (Kd.R_lower ho8 (below_size (pl HB))); replace BK3251 := kb BK3251 hb; replace BK3252 := kb BK3252 hb; replace HB := kh HB hb; clear hb ho8; obtain ⟨Ao9, co9, eo9⟩ := Kd.R_slice HO3255.out; subst eo9))
  go_loopg [7, 8, 20] k (fun kq v7 v8 v20 w' => ∃ (x7_1 : Int) (x8_1 : Int) (x20_1 : Int), v7 = .int .i64 x7_1 ∧ v8 = .int .i64 x8_1 ∧ v20 = .int .i64 x20_1 ∧ Aside0 (ints_cornersOver.l0 kq l1 x7_1 x8_1 y3253 (y3253.length : Int) x20_1 = some (r1, r2, r3)) ∧ Aside0 (kq ≤ k) ∧ Aside0 (Kd.R (Kd.int .i64) 2 w' w.heap.size (fun _ => True) (.slice Ao9 y3253.length co9) y3253) ∧ Aside0 (w'.heap[gb3251]? = some (.cells #[.bool a0_0, .int .i64 a0_1, .int .i64 a0_2] 23 (0, 0))) ∧ Aside0 (w'.heap[gb3252]? = some (.cells #[.bool false, .int .i64 0, .int .i64 0] 23 (0, 0))) ∧ Aside0 (Below w.heap.size w w'))
  case atStart => exact ⟨(1099511627776), ((-1099511627776)), (0), (by first | rfl | (simp; done) | (simp [*]; done)), (by first | rfl | (simp; done) | (simp [*]; done)), (by first | rfl | (simp; done) | (simp [*]; done)), H', ⟨Nat.le_refl _⟩, ⟨by (with_reducible repeat (first | apply Kd.R_alloc | apply Kd.R_drewN | apply Kd.R_drew)); exact HO3255.out⟩, ⟨pk BK3251⟩, ⟨pk BK3252⟩, ⟨pl HB⟩⟩
  case round =>
    clear H'
    try clear c1
    try clear p2
    try clear c5
    try clear hcz6_0
    try clear hcz6_1
    try clear hcz6_2
    try clear hfz6_0
    try clear hfz6_1
    try clear hfz6_2
    obtain ⟨x7_1, x8_1, x20_1, rfl, rfl, rfl, HA, HK1, HO_18, BK3251, BK3252, HB⟩ := hrel
    cases gk with
    | zero => exact absurd HA.out (by simp [ints_cornersOver.l0])
    | succ k1 =>
      have H := HA.out
      clear HA
      simp only [ints_cornersOver.l0] at H
      by_cases c10 : x20_1 < (y3253.length : Int)
      · rw [if_pos c10] at H
        have c10b0 : decide (x20_1 < (y3253.length : Int)) = true := decide_eq_true c10
        clear c10
        by_cases c11 : 0 ≤ x20_1
        · rw [if_pos c11] at H
          have c11b0 : decide (0 ≤ x20_1) = true := decide_eq_true c11
          clear c11
          by_cases c12 : x20_1 < (y3253.length : Int)
          · rw [if_pos c12] at H
            have c12b0 : decide (x20_1 < (y3253.length : Int)) = true := decide_eq_true c12
            clear c12
            have H' := Aside0.mk H
            clear H
            have p3259 : 0 ≤ (x20_1 : Int) := of_decide_eq_true (by first | (with_reducible assumption) | assumption)
            have q3259 : x20_1 < (y3253.length : Int) := of_decide_eq_true (by first | (with_reducible assumption) | assumption)
            obtain ⟨ad3259, e3259, hx3259_0⟩ := Kd.at_int (Kd.R_reads' HO_18.out).2.2 x20_1 p3259 q3259
            cases e3259
            replace p3259 := eq_true p3259
            replace q3259 := eq_true q3259
            go_wp2
            go_loopg [7, 8, 26] k1 (fun kq v7 v8 v26 w' => ∃ (x7_2 : Int) (x8_2 : Int) (x26_2 : Int), v7 = .int .i64 x7_2 ∧ v8 = .int .i64 x8_2 ∧ v26 = .int .i64 x26_2 ∧ Aside0 (ints_cornersOver.l1 kq l1 x7_2 x8_2 (rd y3253 x20_1) y3253 (y3253.length : Int) x20_1 l1 (l1.length : Int) x26_2 = some (r1, r2, r3)) ∧ Aside0 (kq ≤ k1) ∧ Aside0 (Kd.R (Kd.int .i64) 2 w' w.heap.size (fun _ => True) (.slice (some ad3259) y3253.length co9) y3253) ∧ Aside0 (w'.heap[gb3251]? = some (.cells #[.bool a0_0, .int .i64 a0_1, .int .i64 a0_2] 23 (0, 0))) ∧ Aside0 (w'.heap[gb3252]? = some (.cells #[.bool false, .int .i64 0, .int .i64 0] 23 (0, 0))) ∧ Aside0 (Below w.heap.size w w'))
            case atStart => exact ⟨(x7_1), (x8_1), (0), (by first | rfl | (simp; done) | (simp [*]; done)), (by first | rfl | (simp; done) | (simp [*]; done)), (by first | rfl | (simp; done) | (simp [*]; done)), H', ⟨Nat.le_refl _⟩, ⟨by (with_reducible repeat (first | apply Kd.R_alloc | apply Kd.R_drewN | apply Kd.R_drew)); exact HO_18.out⟩, ⟨pk BK3251⟩, ⟨pk BK3252⟩, ⟨pl HB⟩⟩
            case round =>
              clear H'
              try clear c1
              try clear p2
              try clear p3
              try clear q3
              try clear hx3
              try clear c5
              try clear c10
              try clear c10b0
              try clear c11
              try clear c11b0
              try clear c12
              try clear c12b0
              try clear hcz6_0
              try clear hcz6_1
              try clear hcz6_2
              try clear hfz6_0
              try clear hfz6_1
              try clear hfz6_2
              try clear hx3259_0
              try clear p2
              try clear p3259
              try clear q3259
              obtain ⟨x7_2, x8_2, x26_2, rfl, rfl, rfl, HA, HK2, HO_18, BK3251, BK3252, HB⟩ := hrel
              cases gk with
              | zero => exact absurd HA.out (by simp [ints_cornersOver.l1])
              | succ k2 =>
                have H := HA.out
                clear HA
                simp only [ints_cornersOver.l1] at H
                by_cases c13 : x26_2 < (l1.length : Int)
                · rw [if_pos c13] at H
                  have c13b0 : decide (x26_2 < (l1.length : Int)) = true := decide_eq_true c13
                  clear c13
                  by_cases c14 : 0 ≤ x26_2
                  · rw [if_pos c14] at H
                    have c14b0 : decide (0 ≤ x26_2) = true := decide_eq_true c14
                    clear c14
                    by_cases c15 : x26_2 < (l1.length : Int)
                    · rw [if_pos c15] at H
                      have c15b0 : decide (x26_2 < (l1.length : Int)) = true := decide_eq_true c15
                      clear c15
                      obtain ⟨t3261, A160, H⟩ := Option.bind_eq_some_iff.mp H
                      have A16 := Aside0.mk A160
                      clear A160
                      (try dsimp only at H)
                      obtain ⟨ji17, hji17⟩ : ∃ j_ : Int, (mn x7_2 t3261) = j_ := ⟨_, rfl⟩
                      replace H : (ints_cornersOver.l1 k2 l1 ji17 (mx x8_2 t3261) (rd y3253 x20_1) y3253 (y3253.length : Int) x20_1 l1 (l1.length : Int) (wrap64 (x26_2 + 1))) = some (r1, r2, r3) := by first | (rw [hji17] at H; exact H) | (simp only [hji17] at H ⊢; exact H)
                      (try rw [hji17] at A16)
                      have hji17_ : (if t3261 < x7_2 then t3261 else x7_2) = ji17 := hji17
                      obtain ⟨ji18, hji18⟩ : ∃ j_ : Int, (mx x8_2 t3261) = j_ := ⟨_, rfl⟩
                      replace H : (ints_cornersOver.l1 k2 l1 ji17 ji18 (rd y3253 x20_1) y3253 (y3253.length : Int) x20_1 l1 (l1.length : Int) (wrap64 (x26_2 + 1))) = some (r1, r2, r3) := by first | (rw [hji18] at H; exact H) | (simp only [hji18] at H ⊢; exact H)
                      (try rw [hji18] at A16)
                      have hji18_ : (if x8_2 < t3261 then t3261 else x8_2) = ji18 := hji18
                      have H' := Aside0.mk H
                      clear H
                      have p3260 : 0 ≤ (x26_2 : Int) := of_decide_eq_true (by first | (with_reducible assumption) | assumption)
                      have q3260 : x26_2 < (l1.length : Int) := of_decide_eq_true (by first | (with_reducible assumption) | assumption)
                      obtain ⟨ad3260, e3260, hx3260_0⟩ := Kd.at_int HR1.out x26_2 p3260 q3260
                      cases e3260
                      replace hx3260_0 := (HB.out.cell (World.block_lt_of_cell? w _ hx3260_0)).trans hx3260_0
                      replace p3260 := eq_true p3260
                      replace q3260 := eq_true q3260
                      go_wp2_with (first | ((with_reducible refine gate_calleeT rfl ?_); refine goesF0_ (some 33) rfl rfl Try.func76 (by kernel_rfl) rfl (by rfl) #[.int .i64 (rd y3253 x20_1), .int .i64 (rd l1 x26_2)] rfl pa ?_; (with_reducible refine (ints_over.calls k2 (rd y3253 x20_1) (rd l1 x26_2) t3261 _ A16.out).mono ?_); rintro e w' ⟨rfl, ⟨nd, rfl⟩⟩; refine ⟨_, rfl, ?_⟩))
                      go_roundg k2
                      case measure => have := HK1.out; have := HK2.out; omega
                      case rel => exact ⟨(ji17), (ji18), (wrap64 (x26_2 + 1)), (by first | rfl | (simp; done) | (simp only [← hji17] <;> (first | rfl | simp)) | (simp [*]; done)), (by first | rfl | (simp; done) | (simp only [← hji18] <;> (first | rfl | simp)) | (simp [*]; done)), (by first | rfl | (simp; done) | (simp [*]; done)), H', ⟨by have := HK1.out; have := HK2.out; omega⟩, ⟨by (with_reducible repeat (first | apply Kd.R_alloc | apply Kd.R_drewN | apply Kd.R_drew)); exact HO_18.out⟩, ⟨pk BK3251⟩, ⟨pk BK3252⟩, ⟨pl HB⟩⟩
                    · rw [if_neg c15] at H
                      exact absurd H (by simp)
                  · rw [if_neg c14] at H
                    exact absurd H (by simp)
                · rw [if_neg c13] at H
                  have c13b0 : decide (x26_2 < (l1.length : Int)) = false := decide_eq_false c13
                  clear c13
                  have H' := Aside0.mk H
                  clear H
                  go_wp2
                  go_roundg k2
                  case measure => have := HK1.out; have := HK2.out; omega
                  case rel => exact ⟨(x7_2), (x8_2), (wrap64 (x20_1 + 1)), (by first | rfl | (simp; done) | (simp [*]; done)), (by first | rfl | (simp; done) | (simp [*]; done)), (by first | rfl | (simp; done) | (simp [*]; done)), H', ⟨by have := HK1.out; have := HK2.out; omega⟩, ⟨by (with_reducible repeat (first | apply Kd.R_alloc | apply Kd.R_drewN | apply Kd.R_drew)); exact HO_18.out⟩, ⟨pk BK3251⟩, ⟨pk BK3252⟩, ⟨pl HB⟩⟩
          · rw [if_neg c12] at H
            exact absurd H (by simp)
        · rw [if_neg c11] at H
          exact absurd H (by simp)
      · rw [if_neg c10] at H
        have c10b0 : decide (x20_1 < (y3253.length : Int)) = false := decide_eq_false c10
        clear c10
        obtain ⟨⟨t3256, t3257, t3258⟩, A190, H⟩ := Option.bind_eq_some_iff.mp H
        have A19 := Aside0.mk A190
        clear A190
        (try dsimp only at H)
        simp only [Option.some.injEq, Prod.mk.injEq] at H
        obtain ⟨rfl, rfl, rfl⟩ := H
        go_wp2_with (first | ((with_reducible refine gate_callee (f := 72) rfl ?_); refine kc (some 44) Try.func72 #[.int .i64 x7_1, .int .i64 x8_1] (ints_hull.calls x7_1 x8_1 t3256 t3257 t3258 _ A19.out) ?_; intro w20 hb; have n0_ := Aside0.mk (Kd.R_below (by (with_reducible repeat (first | apply Kd.R_alloc | apply Kd.R_drewN | apply Kd.R_drew)); exact HO_18.out) hb); have n1_ := kb BK3251 hb; have n2_ := kb BK3252 hb; have n3_ := kh HB hb; clear HO_18; clear BK3251; clear BK3252; clear HB; have HO_18 := n0_; have BK3251 := n1_; have BK3252 := n2_; have HB := n3_; clear n0_ n1_ n2_ n3_; (try clear hb); (try clear hb2); (try clear hk); (try clear hi); have hnb21 := NB3252_3251.out; have hnc21 := NB3251_3252.out; have ⟨hcz22_0, hcz22_1, hcz22_2, hfz22_0, hfz22_1, hfz22_2⟩ := kz3f BK3252))
        refine bodyPost_ret (results_cell_row rfl _ _ gb3252 23 #[.bool t3256, .int .i64 t3257, .int .i64 t3258] (0, 0) _ rfl (pK BK3252) Try.underlying23 rfl (by kernel_rfl)) rfl ?_
        exact ⟨pe, pl HB⟩
end Go.Proofs.Ytinmgnlofininaa.PAll
end
