/- Functions of the print, turned to this claim. -/
import Derived.Test.YtinmgnlofininaaZHW
import Derived.Test.YtinmgnlofininaaZHx0
import Derived.Test.YtinmgnlofininaaZHx3
import Derived.Test.YtinmgnlofininaaZHx5
section
namespace Go.Proofs.Ytinmgnlofininaa.PAll
open Go.RowKit Go.Proofs.YtinmgnlofininaaW.PrintWords Go.Proofs.YtinmgnlofininaaW.PrintLast Go.Proofs.YtinmgnlofininaaW.PrintMore
attribute [local go_sem] max2_int min2_int max_two min_two max_three min_three max_four min_four   -- for this text's walks alone
set_option linter.unusedVariables false
set_option linter.unusedSimpArgs false
/-! ### ints_cornersTimes: function 103 -/
mutual
def ints_cornersTimes.l0 : Nat → List Int → Int → Int → List Int → Int → Int → Option (Bool × Int × Int)
  | 0, _, _, _, _, _, _ => none
  | k + 1, x1, x7, x8, x18, x19, x20 => if x20 < x19 then (if 0 ≤ x20 then (if x20 < (x18.length : Int) then (ints_cornersTimes.l1 k x1 x7 x8 (rd x18 x20) x18 x19 x20 x1 (x1.length : Int) 0) else (none)) else (none)) else ((ints_hull.f x7 x8).bind fun bt2806 => (some (bt2806.1, bt2806.2.1, bt2806.2.2)))
def ints_cornersTimes.l1 : Nat → List Int → Int → Int → Int → List Int → Int → Int → List Int → Int → Int → Option (Bool × Int × Int)
  | 0, _, _, _, _, _, _, _, _, _, _ => none
  | k + 1, x1, x7, x8, x10, x18, x19, x20, x24, x25, x26 => if x26 < x25 then (if 0 ≤ x26 then (if x26 < (x24.length : Int) then ((ints_times.f k x10 (rd x24 x26)).bind fun t2811 => (ints_cornersTimes.l1 k x1 (mn x7 t2811) (mx x8 t2811) x10 x18 x19 x20 x24 x25 (wrap64 (x26 + 1)))) else (none)) else (none)) else (ints_cornersTimes.l0 k x1 x7 x8 x18 x19 (wrap64 (x20 + 1)))
end
def ints_cornersTimes.f (k : Nat) (a0_0 : Bool) (a0_1 : Int) (a0_2 : Int) (l1 : List Int) : Option (Bool × Int × Int) := (some (([a0_1, a0_2] : List Int) : List Int)).bind fun y2803 => (ints_cornersTimes.l0 k l1 1099511627776 (-1099511627776) y2803 (y2803.length : Int) 0)
theorem ints_cornersTimes.mono_l : ∀ k, (∀ y0 y1 y2 y3 y4 y5, LeO (ints_cornersTimes.l0 k y0 y1 y2 y3 y4 y5) (ints_cornersTimes.l0 (k + 1) y0 y1 y2 y3 y4 y5)) ∧ (∀ y0 y1 y2 y3 y4 y5 y6 y7 y8 y9, LeO (ints_cornersTimes.l1 k y0 y1 y2 y3 y4 y5 y6 y7 y8 y9) (ints_cornersTimes.l1 (k + 1) y0 y1 y2 y3 y4 y5 y6 y7 y8 y9))
  | 0 => ⟨fun _ _ _ _ _ _ r h => by simp [ints_cornersTimes.l0] at h, fun _ _ _ _ _ _ _ _ _ _ r h => by simp [ints_cornersTimes.l1] at h⟩
  | k + 1 => by
    obtain ⟨ih0, ih1⟩ := ints_cornersTimes.mono_l k
    refine ⟨?_, ?_⟩
    · intro y0 y1 y2 y3 y4 y5
      unfold ints_cornersTimes.l0
      repeat' first
      | (with_reducible exact ih0 _ _ _ _ _ _)
      | (with_reducible exact ih1 _ _ _ _ _ _ _ _ _ _)
      | (with_reducible exact ints_times.mono _ _ _)
      | (with_reducible exact LeO.refl _)
      | (with_reducible exact LeO.none _)
      | (with_reducible refine LeO.ite ?_ ?_)
      | (with_reducible refine LeO.bind ?_ (fun _ => ?_))
      | exact ih0 _ _ _ _ _ _
      | exact ih1 _ _ _ _ _ _ _ _ _ _
      | exact ints_times.mono _ _ _
      | exact LeO.none _
      | refine LeO.ite ?_ ?_
      | refine LeO.bind ?_ (fun _ => ?_)
    · intro y0 y1 y2 y3 y4 y5 y6 y7 y8 y9
      unfold ints_cornersTimes.l1
      repeat' first
      | (with_reducible exact ih0 _ _ _ _ _ _)
      | (with_reducible exact ih1 _ _ _ _ _ _ _ _ _ _)
      | (with_reducible exact ints_times.mono _ _ _)
      | (with_reducible exact LeO.refl _)
      | (with_reducible exact LeO.none _)
      | (with_reducible refine LeO.ite ?_ ?_)
      | (with_reducible refine LeO.bind ?_ (fun _ => ?_))
      | exact ih0 _ _ _ _ _ _
      | exact ih1 _ _ _ _ _ _ _ _ _ _
      | exact ints_times.mono _ _ _
      | exact LeO.none _
      | refine LeO.ite ?_ ?_
      | refine LeO.bind ?_ (fun _ => ?_)
theorem ints_cornersTimes.mono : ∀ a0 a1 a2 a3 k, LeO (ints_cornersTimes.f k a0 a1 a2 a3) (ints_cornersTimes.f (k + 1) a0 a1 a2 a3) := by
  intro a0 a1 a2 a3 k
  obtain ⟨ih0, ih1⟩ := ints_cornersTimes.mono_l k
  unfold ints_cornersTimes.f
  repeat' first
      | (with_reducible exact ih0 _ _ _ _ _ _)
      | (with_reducible exact ih1 _ _ _ _ _ _ _ _ _ _)
      | (with_reducible exact ints_times.mono _ _ _)
      | (with_reducible exact LeO.refl _)
      | (with_reducible exact LeO.none _)
      | (with_reducible refine LeO.ite ?_ ?_)
      | (with_reducible refine LeO.bind ?_ (fun _ => ?_))
      | exact ih0 _ _ _ _ _ _
      | exact ih1 _ _ _ _ _ _ _ _ _ _
      | exact ints_times.mono _ _ _
      | exact LeO.none _
      | refine LeO.ite ?_ ?_
      | refine LeO.bind ?_ (fun _ => ?_)
set_option maxHeartbeats 8000000 in
set_option maxRecDepth 100000 in
theorem ints_cornersTimes.calls (k : Nat) (a0_0 : Bool) (a0_1 : Int) (a0_2 : Int) (A1 : Option Addr) (c1 : Nat) (l1 : List Int) (r1 : Bool) (r2 : Int) (r3 : Int) (w : World) (hr1 : Kd.C (Kd.int .i64) w A1 l1.length l1) (hc1 : l1.length ≤ c1) (h : ints_cornersTimes.f k a0_0 a0_1 a0_2 l1 = some (r1, r2, r3)) :
    Calls Try.prog 74 #[.agg #[.bool a0_0, .int .i64 a0_1, .int .i64 a0_2], .slice A1 l1.length c1, .func (.func 75) #[] #[]] w fun e w' => e = .returned (.agg #[.bool r1, .int .i64 r2, .int .i64 r3]) ∧ Below w.heap.size w w' := by
  have hu23 := Try.underlying23
  have HR1 := Aside0.mk hr1
  have HC1 := Aside0.mk hc1
  clear hr1 hc1
  have HB := Aside0.mk (Below.refl w.heap.size w)
  have H := h
  clear h
  unfold ints_cornersTimes.f at H
  obtain ⟨y2803, hy2803⟩ : ∃ y_ : List Int, y_ = (([a0_1, a0_2] : List Int)) := ⟨_, rfl⟩
  replace H : (ints_cornersTimes.l0 k l1 1099511627776 (-1099511627776) y2803 (y2803.length : Int) 0) = some (r1, r2, r3) := by first | (rw [hy2803]; with_reducible exact H) | (have H2_ := (Option.bind_some _ _).symm.trans H; rw [hy2803]; with_reducible exact H2_) | (have H2_ := (Option.bind_some _ _).symm.trans H; with_reducible exact H2_) | with_reducible exact H | (rw [hy2803]; exact H) | exact H
  have Ny2803 := Aside0.mk hy2803
  clear hy2803
  have H' := Aside0.mk H
  clear H
  go_enter Try.func74, Try.ntmps74
  go_wp2_with (first | ((with_reducible refine gate_dst (N := 3) rfl ?_); refine kx 3 #[.bool a0_0, .int .i64 a0_1, .int .i64 a0_2] 23 ?_; intro gb2801 hg w3 hbox hb; have BK2801 := Aside0.mk (hbox); have GW2801 := kg HB hg; have GE2801 := kg HB hg; replace HB := kh HB hb; clear hb hbox hg) | ((with_reducible refine gate_dst (N := 6) rfl ?_); refine kx 6 #[.bool false, .int .i64 0, .int .i64 0] 23 ?_; intro gb2802 hg w4 hbox hb; have BK2802 := Aside0.mk (hbox); have GW2802 := kg HB hg; have GE2802 := kg HB hg; have NB2801_2802 := kn BK2801 hg; have NB2802_2801 := km BK2801 hg; replace BK2801 := kb BK2801 hb; replace HB := kh HB hb; clear hb hbox hg; have hnb5 := NB2801_2802.out; have hnc5 := NB2802_2801.out; have ⟨hcz6_0, hcz6_1, hcz6_2, hfz6_0, hfz6_1, hfz6_2⟩ := kz3f BK2801) | ((with_reducible refine gate_dst (N := 18) rfl ?_); refine Kd.R_lit (Kd.int .i64) _ 2 ?hg (N := 18) ?hd (xs := ([a0_1, a0_2] : List Int)) (inner := [.int .i64 a0_1, .int .i64 a0_2]) (ok := fun _ => True) (okp := fun _ => True) ?hr ?hp (fun _ hk => hk) trivial (Below.refl _ _) (Nat.le_refl _) (by simp) ?_; (case hd => rfl); (case hg => rfl); (case hr => first | (go_simp; done) | (go_simp; rfl)); (case hp => exact (Reps.one (show Kd.M (Kd.int .i64) _ _ _ a0_1 [.int .i64 a0_1] from rfl) (Reps.one (show Kd.M (Kd.int .i64) _ _ _ a0_2 [.int .i64 a0_2] from rfl) (Reps.none _ _)))); intro v2804 w7 ho8 hb hg_ hnew_; clear hg_ hnew_; (first | rw [← Ny2803.out] at ho8 | (simp only [Int.reduceToNat] at ho8; rw [← Ny2803.out] at ho8)); have HO2805 := Aside0.mk (Kd.R_lower ho8 (below_size (pl HB))); replace BK2801 := kb BK2801 hb; replace BK2802 := kb BK2802 hb; replace HB := kh HB hb; clear hb ho8; obtain ⟨Ao9, co9, eo9⟩ := Kd.R_slice HO2805.out; subst eo9))
  go_loopg [7, 8, 20] k (fun kq v7 v8 v20 w' => ∃ (x7_1 : Int) (x8_1 : Int) (x20_1 : Int), v7 = .int .i64 x7_1 ∧ v8 = .int .i64 x8_1 ∧ v20 = .int .i64 x20_1 ∧ Aside0 (ints_cornersTimes.l0 kq l1 x7_1 x8_1 y2803 (y2803.length : Int) x20_1 = some (r1, r2, r3)) ∧ Aside0 (kq ≤ k) ∧ Aside0 (Kd.R (Kd.int .i64) 2 w' w.heap.size (fun _ => True) (.slice Ao9 y2803.length co9) y2803) ∧ Aside0 (w'.heap[gb2801]? = some (.cells #[.bool a0_0, .int .i64 a0_1, .int .i64 a0_2] 23 (0, 0))) ∧ Aside0 (w'.heap[gb2802]? = some (.cells #[.bool false, .int .i64 0, .int .i64 0] 23 (0, 0))) ∧ Aside0 (Below w.heap.size w w'))
  case atStart => exact ⟨(1099511627776), ((-1099511627776)), (0), (by first | rfl | (simp; done) | (simp [*]; done)), (by first | rfl | (simp; done) | (simp [*]; done)), (by first | rfl | (simp; done) | (simp [*]; done)), H', ⟨Nat.le_refl _⟩, ⟨by (with_reducible repeat (first | apply Kd.R_alloc | apply Kd.R_drewN | apply Kd.R_drew)); exact HO2805.out⟩, ⟨pk BK2801⟩, ⟨pk BK2802⟩, ⟨pl HB⟩⟩
  case round =>
    clear H'
    try clear c1
    try clear p2
    try clear c5
    try clear hcz6_0
    try clear hcz6_1
    try clear hcz6_2
    try clear hfz6_0
    try clear hfz6_1
    try clear hfz6_2
    obtain ⟨x7_1, x8_1, x20_1, rfl, rfl, rfl, HA, HK1, HO_18, BK2801, BK2802, HB⟩ := hrel
    cases gk with
    | zero => exact absurd HA.out (by simp [ints_cornersTimes.l0])
    | succ k1 =>
      have H := HA.out
      clear HA
      simp only [ints_cornersTimes.l0] at H
      by_cases c10 : x20_1 < (y2803.length : Int)
      · rw [if_pos c10] at H
        have c10b0 : decide (x20_1 < (y2803.length : Int)) = true := decide_eq_true c10
        clear c10
        by_cases c11 : 0 ≤ x20_1
        · rw [if_pos c11] at H
          have c11b0 : decide (0 ≤ x20_1) = true := decide_eq_true c11
          clear c11
          by_cases c12 : x20_1 < (y2803.length : Int)
          · rw [if_pos c12] at H
            have c12b0 : decide (x20_1 < (y2803.length : Int)) = true := decide_eq_true c12
            clear c12
            have H' := Aside0.mk H
            clear H
            have p2809 : 0 ≤ (x20_1 : Int) := of_decide_eq_true (by first | (with_reducible assumption) | assumption)
            have q2809 : x20_1 < (y2803.length : Int) := of_decide_eq_true (by first | (with_reducible assumption) | assumption)
            obtain ⟨ad2809, e2809, hx2809_0⟩ := Kd.at_int (Kd.R_reads' HO_18.out).2.2 x20_1 p2809 q2809
            cases e2809
            replace p2809 := eq_true p2809
            replace q2809 := eq_true q2809
            go_wp2
            go_loopg [7, 8, 26] k1 (fun kq v7 v8 v26 w' => ∃ (x7_2 : Int) (x8_2 : Int) (x26_2 : Int), v7 = .int .i64 x7_2 ∧ v8 = .int .i64 x8_2 ∧ v26 = .int .i64 x26_2 ∧ Aside0 (ints_cornersTimes.l1 kq l1 x7_2 x8_2 (rd y2803 x20_1) y2803 (y2803.length : Int) x20_1 l1 (l1.length : Int) x26_2 = some (r1, r2, r3)) ∧ Aside0 (kq ≤ k1) ∧ Aside0 (Kd.R (Kd.int .i64) 2 w' w.heap.size (fun _ => True) (.slice (some ad2809) y2803.length co9) y2803) ∧ Aside0 (w'.heap[gb2801]? = some (.cells #[.bool a0_0, .int .i64 a0_1, .int .i64 a0_2] 23 (0, 0))) ∧ Aside0 (w'.heap[gb2802]? = some (.cells #[.bool false, .int .i64 0, .int .i64 0] 23 (0, 0))) ∧ Aside0 (Below w.heap.size w w'))
            case atStart => exact ⟨(x7_1), (x8_1), (0), (by first | rfl | (simp; done) | (simp [*]; done)), (by first | rfl | (simp; done) | (simp [*]; done)), (by first | rfl | (simp; done) | (simp [*]; done)), H', ⟨Nat.le_refl _⟩, ⟨by (with_reducible repeat (first | apply Kd.R_alloc | apply Kd.R_drewN | apply Kd.R_drew)); exact HO_18.out⟩, ⟨pk BK2801⟩, ⟨pk BK2802⟩, ⟨pl HB⟩⟩
            case round =>
              clear H'
              try clear c1
              try clear p2
              try clear q2
              try clear hx2
              try clear c5
              try clear c10
              try clear c10b0
              try clear c11
              try clear c11b0
              try clear c12
              try clear c12b0
              try clear hcz6_0
              try clear hcz6_1
              try clear hcz6_2
              try clear hfz6_0
              try clear hfz6_1
              try clear hfz6_2
              try clear hx2809_0
              try clear p2
              try clear p2809
              try clear q2809
              obtain ⟨x7_2, x8_2, x26_2, rfl, rfl, rfl, HA, HK2, HO_18, BK2801, BK2802, HB⟩ := hrel
              cases gk with
              | zero => exact absurd HA.out (by simp [ints_cornersTimes.l1])
              | succ k2 =>
                have H := HA.out
                clear HA
                simp only [ints_cornersTimes.l1] at H
                by_cases c13 : x26_2 < (l1.length : Int)
                · rw [if_pos c13] at H
                  have c13b0 : decide (x26_2 < (l1.length : Int)) = true := decide_eq_true c13
                  clear c13
                  by_cases c14 : 0 ≤ x26_2
                  · rw [if_pos c14] at H
                    have c14b0 : decide (0 ≤ x26_2) = true := decide_eq_true c14
                    clear c14
                    by_cases c15 : x26_2 < (l1.length : Int)
                    · rw [if_pos c15] at H
                      have c15b0 : decide (x26_2 < (l1.length : Int)) = true := decide_eq_true c15
                      clear c15
                      obtain ⟨t2811, A160, H⟩ := Option.bind_eq_some_iff.mp H
                      have A16 := Aside0.mk A160
                      clear A160
                      (try dsimp only at H)
                      obtain ⟨ji17, hji17⟩ : ∃ j_ : Int, (mn x7_2 t2811) = j_ := ⟨_, rfl⟩
                      replace H : (ints_cornersTimes.l1 k2 l1 ji17 (mx x8_2 t2811) (rd y2803 x20_1) y2803 (y2803.length : Int) x20_1 l1 (l1.length : Int) (wrap64 (x26_2 + 1))) = some (r1, r2, r3) := by first | (rw [hji17] at H; exact H) | (simp only [hji17] at H ⊢; exact H)
                      (try rw [hji17] at A16)
                      have hji17_ : (if t2811 < x7_2 then t2811 else x7_2) = ji17 := hji17
                      obtain ⟨ji18, hji18⟩ : ∃ j_ : Int, (mx x8_2 t2811) = j_ := ⟨_, rfl⟩
                      replace H : (ints_cornersTimes.l1 k2 l1 ji17 ji18 (rd y2803 x20_1) y2803 (y2803.length : Int) x20_1 l1 (l1.length : Int) (wrap64 (x26_2 + 1))) = some (r1, r2, r3) := by first | (rw [hji18] at H; exact H) | (simp only [hji18] at H ⊢; exact H)
                      (try rw [hji18] at A16)
                      have hji18_ : (if x8_2 < t2811 then t2811 else x8_2) = ji18 := hji18
                      have H' := Aside0.mk H
                      clear H
                      have p2810 : 0 ≤ (x26_2 : Int) := of_decide_eq_true (by first | (with_reducible assumption) | assumption)
                      have q2810 : x26_2 < (l1.length : Int) := of_decide_eq_true (by first | (with_reducible assumption) | assumption)
                      obtain ⟨ad2810, e2810, hx2810_0⟩ := Kd.at_int HR1.out x26_2 p2810 q2810
                      cases e2810
                      replace hx2810_0 := (HB.out.cell (World.block_lt_of_cell? w _ hx2810_0)).trans hx2810_0
                      replace p2810 := eq_true p2810
                      replace q2810 := eq_true q2810
                      go_wp2_with (first | ((with_reducible refine gate_calleeT rfl ?_); refine goesF0_ (some 33) rfl rfl Try.func75 (by kernel_rfl) rfl (by rfl) #[.int .i64 (rd y2803 x20_1), .int .i64 (rd l1 x26_2)] rfl pa ?_; (with_reducible refine (ints_times.calls k2 (rd y2803 x20_1) (rd l1 x26_2) t2811 _ A16.out).mono ?_); rintro e w19 ⟨rfl, hb⟩; refine ⟨_, rfl, ?_⟩; have n0_ := Aside0.mk (Kd.R_below (by (with_reducible repeat (first | apply Kd.R_alloc | apply Kd.R_drewN | apply Kd.R_drew)); exact HO_18.out) hb); have n1_ := kb BK2801 hb; have n2_ := kb BK2802 hb; have n3_ := kh HB hb; clear HO_18; clear BK2801; clear BK2802; clear HB; have HO_18 := n0_; have BK2801 := n1_; have BK2802 := n2_; have HB := n3_; clear n0_ n1_ n2_ n3_; (try clear hb); (try clear hb2); (try clear hk); (try clear hi)))
                      go_roundg k2
                      case measure => have := HK1.out; have := HK2.out; omega
                      case rel => exact ⟨(ji17), (ji18), (wrap64 (x26_2 + 1)), (by first | rfl | (simp; done) | (simp only [← hji17] <;> (first | rfl | simp)) | (simp [*]; done)), (by first | rfl | (simp; done) | (simp only [← hji18] <;> (first | rfl | simp)) | (simp [*]; done)), (by first | rfl | (simp; done) | (simp [*]; done)), H', ⟨by have := HK1.out; have := HK2.out; omega⟩, ⟨by (with_reducible repeat (first | apply Kd.R_alloc | apply Kd.R_drewN | apply Kd.R_drew)); exact HO_18.out⟩, ⟨pk BK2801⟩, ⟨pk BK2802⟩, ⟨pl HB⟩⟩
                    · rw [if_neg c15] at H
                      exact absurd H (by simp)
                  · rw [if_neg c14] at H
                    exact absurd H (by simp)
                · rw [if_neg c13] at H
                  have c13b0 : decide (x26_2 < (l1.length : Int)) = false := decide_eq_false c13
                  clear c13
                  have H' := Aside0.mk H
                  clear H
                  go_wp2
                  go_roundg k2
                  case measure => have := HK1.out; have := HK2.out; omega
                  case rel => exact ⟨(x7_2), (x8_2), (wrap64 (x20_1 + 1)), (by first | rfl | (simp; done) | (simp [*]; done)), (by first | rfl | (simp; done) | (simp [*]; done)), (by first | rfl | (simp; done) | (simp [*]; done)), H', ⟨by have := HK1.out; have := HK2.out; omega⟩, ⟨by (with_reducible repeat (first | apply Kd.R_alloc | apply Kd.R_drewN | apply Kd.R_drew)); exact HO_18.out⟩, ⟨pk BK2801⟩, ⟨pk BK2802⟩, ⟨pl HB⟩⟩
          · rw [if_neg c12] at H
            exact absurd H (by simp)
        · rw [if_neg c11] at H
          exact absurd H (by simp)
      · rw [if_neg c10] at H
        have c10b0 : decide (x20_1 < (y2803.length : Int)) = false := decide_eq_false c10
        clear c10
        obtain ⟨⟨t2806, t2807, t2808⟩, A200, H⟩ := Option.bind_eq_some_iff.mp H
        have A20 := Aside0.mk A200
        clear A200
        (try dsimp only at H)
        simp only [Option.some.injEq, Prod.mk.injEq] at H
        obtain ⟨rfl, rfl, rfl⟩ := H
        go_wp2_with (first | ((with_reducible refine gate_callee (f := 72) rfl ?_); refine kc (some 44) Try.func72 #[.int .i64 x7_1, .int .i64 x8_1] (ints_hull.calls x7_1 x8_1 t2806 t2807 t2808 _ A20.out) ?_; intro w21 hb; have n0_ := Aside0.mk (Kd.R_below (by (with_reducible repeat (first | apply Kd.R_alloc | apply Kd.R_drewN | apply Kd.R_drew)); exact HO_18.out) hb); have n1_ := kb BK2801 hb; have n2_ := kb BK2802 hb; have n3_ := kh HB hb; clear HO_18; clear BK2801; clear BK2802; clear HB; have HO_18 := n0_; have BK2801 := n1_; have BK2802 := n2_; have HB := n3_; clear n0_ n1_ n2_ n3_; (try clear hb); (try clear hb2); (try clear hk); (try clear hi); have hnb22 := NB2802_2801.out; have hnc22 := NB2801_2802.out; have ⟨hcz23_0, hcz23_1, hcz23_2, hfz23_0, hfz23_1, hfz23_2⟩ := kz3f BK2802))
        refine bodyPost_ret (results_cell_row rfl _ _ gb2802 23 #[.bool t2806, .int .i64 t2807, .int .i64 t2808] (0, 0) _ rfl (pK BK2802) Try.underlying23 rfl (by kernel_rfl)) rfl ?_
        exact ⟨pe, pl HB⟩
/-! ### ints_Mul: function 53 -/
def ints_Mul.j0 : Nat → Bool → Bool → Int → Int → Bool → Int → Int → Option (Bool × Int × Int)
  | 0, _, _, _, _, _, _, _ => none
  | k + 1, x14, x2952000, x2952001, x2952002, x2953000, x2953001, x2953002 => if x14 = true then ((ints_none.f).bind fun bt2960 => (some (bt2960.1, bt2960.2.1, bt2960.2.2))) else ((ints_cornersTimes.f k x2952000 x2952001 x2952002 (([x2953001, x2953002] : List Int))).bind fun bt2966 => (some (bt2966.1, bt2966.2.1, bt2966.2.2)))
def ints_Mul.f (k : Nat) (a0_0 : Bool) (a0_1 : Int) (a0_2 : Int) (a1_0 : Bool) (a1_1 : Int) (a1_2 : Int) : Option (Bool × Int × Int) := (ints_norm.f a0_0 a0_1 a0_2).bind fun bt2954 => ((ints_norm.f a1_0 a1_1 a1_2).bind fun bt2957 => (if bt2954.1 = true then (ints_Mul.j0 k true bt2954.1 bt2954.2.1 bt2954.2.2 bt2957.1 bt2957.2.1 bt2957.2.2) else (ints_Mul.j0 k bt2957.1 bt2954.1 bt2954.2.1 bt2954.2.2 bt2957.1 bt2957.2.1 bt2957.2.2)))
theorem ints_Mul.mono_l : ∀ k, (∀ y0 y1 y2 y3 y4 y5 y6, LeO (ints_Mul.j0 k y0 y1 y2 y3 y4 y5 y6) (ints_Mul.j0 (k + 1) y0 y1 y2 y3 y4 y5 y6))
  | 0 => fun _ _ _ _ _ _ _ r h => by simp [ints_Mul.j0] at h
  | k + 1 => by
    have ih0 := ints_Mul.mono_l k
    · intro y0 y1 y2 y3 y4 y5 y6
      unfold ints_Mul.j0
      repeat' first
      | (with_reducible exact ih0 _ _ _ _ _ _ _)
      | (with_reducible exact ints_cornersTimes.mono _ _ _ _ _)
      | (with_reducible exact LeO.refl _)
      | (with_reducible exact LeO.none _)
      | (with_reducible refine LeO.ite ?_ ?_)
      | (with_reducible refine LeO.bind ?_ (fun _ => ?_))
      | exact ih0 _ _ _ _ _ _ _
      | exact ints_cornersTimes.mono _ _ _ _ _
      | exact LeO.none _
      | refine LeO.ite ?_ ?_
      | refine LeO.bind ?_ (fun _ => ?_)
theorem ints_Mul.mono : ∀ a0 a1 a2 a3 a4 a5 k, LeO (ints_Mul.f k a0 a1 a2 a3 a4 a5) (ints_Mul.f (k + 1) a0 a1 a2 a3 a4 a5) := by
  intro a0 a1 a2 a3 a4 a5 k
  have ih0 := ints_Mul.mono_l k
  unfold ints_Mul.f
  repeat' first
      | (with_reducible exact ih0 _ _ _ _ _ _ _)
      | (with_reducible exact ints_cornersTimes.mono _ _ _ _ _)
      | (with_reducible exact LeO.refl _)
      | (with_reducible exact LeO.none _)
      | (with_reducible refine LeO.ite ?_ ?_)
      | (with_reducible refine LeO.bind ?_ (fun _ => ?_))
      | exact ih0 _ _ _ _ _ _ _
      | exact ints_cornersTimes.mono _ _ _ _ _
      | exact LeO.none _
      | refine LeO.ite ?_ ?_
      | refine LeO.bind ?_ (fun _ => ?_)
set_option maxHeartbeats 8000000 in
set_option maxRecDepth 100000 in
theorem ints_Mul.calls (k : Nat) (a0_0 : Bool) (a0_1 : Int) (a0_2 : Int) (a1_0 : Bool) (a1_1 : Int) (a1_2 : Int) (r1 : Bool) (r2 : Int) (r3 : Int) (w : World) (h : ints_Mul.f k a0_0 a0_1 a0_2 a1_0 a1_1 a1_2 = some (r1, r2, r3)) :
    Calls Try.prog 53 #[.agg #[.bool a0_0, .int .i64 a0_1, .int .i64 a0_2], .agg #[.bool a1_0, .int .i64 a1_1, .int .i64 a1_2]] w fun e w' => e = .returned (.agg #[.bool r1, .int .i64 r2, .int .i64 r3]) ∧ Below w.heap.size w w' := by
  have hu23 := Try.underlying23
  have HB := Aside0.mk (Below.refl w.heap.size w)
  have H := h
  clear h
  unfold ints_Mul.f at H
  obtain ⟨⟨t2954, t2955, t2956⟩, A30, H⟩ := Option.bind_eq_some_iff.mp H
  have A3 := Aside0.mk A30
  clear A30
  (try dsimp only at H)
  obtain ⟨⟨t2957, t2958, t2959⟩, A40, H⟩ := Option.bind_eq_some_iff.mp H
  have A4 := Aside0.mk A40
  clear A40
  (try dsimp only at H)
  have HC5 := Aside0.mk H
  clear H
  go_enter Try.func53, Try.ntmps53
  try go_wp2_with (first | ((with_reducible refine gate_dst (N := 2) rfl ?_); refine kx 2 #[.bool a0_0, .int .i64 a0_1, .int .i64 a0_2] 23 ?_; intro gb2951 hg w6 hbox hb; have BK2951 := Aside0.mk (hbox); have GW2951 := kg HB hg; have GE2951 := kg HB hg; replace HB := kh HB hb; clear hb hbox hg) | ((with_reducible refine gate_dst (N := 3) rfl ?_); refine kx 3 #[.bool a1_0, .int .i64 a1_1, .int .i64 a1_2] 23 ?_; intro gb2952 hg w7 hbox hb; have BK2952 := Aside0.mk (hbox); have GW2952 := kg HB hg; have GE2952 := kg HB hg; have NB2951_2952 := kn BK2951 hg; have NB2952_2951 := km BK2951 hg; replace BK2951 := kb BK2951 hb; replace HB := kh HB hb; clear hb hbox hg) | ((with_reducible refine gate_dst (N := 4) rfl ?_); refine kx 4 #[.bool false, .int .i64 0, .int .i64 0] 23 ?_; intro gb2953 hg w8 hbox hb; have BK2953 := Aside0.mk (hbox); have GW2953 := kg HB hg; have GE2953 := kg HB hg; have NB2951_2953 := kn BK2951 hg; have NB2953_2951 := km BK2951 hg; have NB2952_2953 := kn BK2952 hg; have NB2953_2952 := km BK2952 hg; replace BK2951 := kb BK2951 hb; replace BK2952 := kb BK2952 hb; replace HB := kh HB hb; clear hb hbox hg))
  replace BK2951 := Aside0.mk (blk_drew BK2951.out)
  replace BK2952 := Aside0.mk (blk_drew BK2952.out)
  replace BK2953 := Aside0.mk (blk_drew BK2953.out)
  replace HB := Aside0.mk (below_drew1 HB.out)
  refine start_ (n := 6) (S := fun w' => w'.cell? ⟨gb2951, 0, none⟩ = some (.bool a0_0) ∧ w'.cell? ⟨gb2951, 1, none⟩ = some (.int .i64 a0_1) ∧ w'.cell? ⟨gb2951, 2, none⟩ = some (.int .i64 a0_2) ∧ w'.cell? ⟨gb2952, 0, none⟩ = some (.bool a1_0) ∧ w'.cell? ⟨gb2952, 1, none⟩ = some (.int .i64 a1_1) ∧ w'.cell? ⟨gb2952, 2, none⟩ = some (.int .i64 a1_2)) (ds := [4, 5]) #[false, false, false, false, false, false] (by kernel_rfl) rfl rfl ⟨bc BK2951 0, bc BK2951 1, bc BK2951 2, bc BK2952 0, bc BK2952 1, bc BK2952 2⟩ (fun hHeld => ?_)
  generalize w8.drew = w9 at BK2951 BK2952 BK2953 HB hHeld ⊢
  refine tak 0 (some 5) #[true, false, false, false, false, false] (by kernel_rfl) hHeld ?_
  refine tak 2 (some 7) #[true, false, true, false, false, false] (by kernel_rfl) hHeld ?_
  refine one_ (i := 1) (N := some 6) #[true, true, true, false, false, false] rfl rfl (by kernel_rfl) (by decide) (fun K hK => ?_)
  refine gc Try.func68 #[.agg #[.bool a0_0, .int .i64 a0_1, .int .i64 a0_2]] (ints_norm.calls a0_0 a0_1 a0_2 t2954 t2955 t2956 _ A3.out) ?_
  intro w10 hb
  replace BK2951 := kb BK2951 hb
  replace BK2952 := kb BK2952 hb
  replace BK2953 := kb BK2953 hb
  replace HB := kh HB hb
  (try clear hb)
  (try clear hb2)
  (try clear hk)
  (try clear hi)
  refine hK.out _ _ ⟨bc BK2951 0, bc BK2951 1, bc BK2951 2, bc BK2952 0, bc BK2952 1, bc BK2952 2⟩ (fun hHeld => ?_)
  clear hK K
  refine nrm (some 6) ?_
  refine one_ (i := 3) (N := some 8) #[true, true, true, true, false, false] rfl rfl (by kernel_rfl) (by decide) (fun K hK => ?_)
  refine gc Try.func68 #[.agg #[.bool a1_0, .int .i64 a1_1, .int .i64 a1_2]] (ints_norm.calls a1_0 a1_1 a1_2 t2957 t2958 t2959 _ A4.out) ?_
  intro w11 hb
  replace BK2951 := kb BK2951 hb
  replace BK2952 := kb BK2952 hb
  replace BK2953 := kb BK2953 hb
  replace HB := kh HB hb
  (try clear hb)
  (try clear hb2)
  (try clear hk)
  (try clear hi)
  refine hK.out _ _ ⟨bc BK2951 0, bc BK2951 1, bc BK2951 2, bc BK2952 0, bc BK2952 1, bc BK2952 2⟩ (fun hHeld => ?_)
  clear hK K
  refine nrm (some 8) ?_
  refine last_ (i := 4) (N := none) #[true, true, true, true, true, false] rfl rfl (by kernel_rfl) (by decide) (fun K hK => ?_)
  have hs12 : w11.cell? ⟨gb2951, 0, none⟩ = some (.bool a0_0) := bc BK2951 0
  have hfs12 := blk_frozen BK2951.out 0
  have hns12_1 := NB2952_2951.out
  have hns12_2 := NB2953_2951.out
  have hms12_1 := NB2951_2952.out
  have hms12_2 := NB2951_2953.out
  have hs13 : w11.cell? ⟨gb2951, 1, none⟩ = some (.int .i64 a0_1) := bc BK2951 1
  have hfs13 := blk_frozen BK2951.out 1
  have hs14 : w11.cell? ⟨gb2951, 2, none⟩ = some (.int .i64 a0_2) := bc BK2951 2
  have hfs14 := blk_frozen BK2951.out 2
  refine skip_ (w1 := ?_) (by rfl) rfl ?_ ?_
  rotate_left
  · go_simp
    rfl
  refine hK.out _ _ ?_
  clear hK K
  refine last_ (i := 5) (N := none) #[true, true, true, true, true, true] rfl rfl (by kernel_rfl) (by decide) (fun K hK => ?_)
  have hs15 : w11.cell? ⟨gb2952, 0, none⟩ = some (.bool a1_0) := bc BK2952 0
  have hfs15 := blk_frozen BK2952.out 0
  have hns15_0 := NB2951_2952.out
  have hns15_2 := NB2953_2952.out
  have hms15_0 := NB2952_2951.out
  have hms15_2 := NB2952_2953.out
  have hs16 : w11.cell? ⟨gb2952, 1, none⟩ = some (.int .i64 a1_1) := bc BK2952 1
  have hfs16 := blk_frozen BK2952.out 1
  have hs17 : w11.cell? ⟨gb2952, 2, none⟩ = some (.int .i64 a1_2) := bc BK2952 2
  have hfs17 := blk_frozen BK2952.out 2
  refine skip_ (w1 := ?_) (by rfl) rfl ?_ ?_
  rotate_left
  · go_simp
    rfl
  refine hK.out _ _ ?_
  clear hK K
  refine done_ (by kernel_rfl) ?_
  go_upto_region 2 with (fail)
  go_cut [14] (fun v14 wc => ∃ (kq : Nat) (x14_4 : Bool), v14 = .bool x14_4 ∧ Aside0 (ints_Mul.j0 kq x14_4 t2954 t2955 t2956 t2957 t2958 t2959 = some (r1, r2, r3)) ∧ Aside0 (kq ≤ k) ∧ Aside0 (wc.heap[gb2951]? = some (.cells #[.bool t2954, .int .i64 t2955, .int .i64 t2956] 23 (0, 0))) ∧ Aside0 (wc.heap[gb2952]? = some (.cells #[.bool t2957, .int .i64 t2958, .int .i64 t2959] 23 (0, 0))) ∧ Aside0 (wc.heap[gb2953]? = some (.cells #[.bool false, .int .i64 0, .int .i64 0] 23 (0, 0))) ∧ Aside0 (Below w.heap.size w wc))
  case first =>
    have H := HC5.out
    clear HC5
    by_cases c18 : t2954 = true
    · subst c18
      rw [if_pos rfl] at H
      have H' := Aside0.mk H
      clear H
      have hnb19 := NB2951_2952.out
      have hnc19 := NB2952_2951.out
      have hnb20 := NB2951_2953.out
      have hnc20 := NB2953_2951.out
      have ⟨hcz21_0, hcz21_1, hcz21_2, hfz21_0, hfz21_1, hfz21_2⟩ := kz3f BK2951
      go_wp2
      go_meet
      case rel => exact ⟨_, (true), (by first | rfl | (simp; done) | (simp [*]; done)), H', ⟨by first | omega | exact Nat.le_refl _⟩, ⟨pK BK2951⟩, ⟨pK BK2952⟩, ⟨pk BK2953⟩, ⟨pl HB⟩⟩
    · replace c18 := Bool.eq_false_iff.mpr c18
      subst c18
      rw [if_neg (show ¬ (false = true) by decide)] at H
      have H' := Aside0.mk H
      clear H
      have hnb22 := NB2951_2952.out
      have hnc22 := NB2952_2951.out
      have hnb23 := NB2951_2953.out
      have hnc23 := NB2953_2951.out
      have ⟨hcz24_0, hcz24_1, hcz24_2, hfz24_0, hfz24_1, hfz24_2⟩ := kz3f BK2951
      have hnb25 := NB2952_2953.out
      have hnc25 := NB2953_2952.out
      have ⟨hcz26_0, hcz26_1, hcz26_2, hfz26_0, hfz26_1, hfz26_2⟩ := kz3f BK2952
      go_wp2
      go_meet
      case rel => exact ⟨_, (t2957), (by first | rfl | (simp; done) | (simp [*]; done)), H', ⟨by first | omega | exact Nat.le_refl _⟩, ⟨pK BK2951⟩, ⟨pK BK2952⟩, ⟨pk BK2953⟩, ⟨pl HB⟩⟩
  case rest =>
    clear HC5
    try clear c1
    try clear c2
    try clear p2
    try clear c5
    try clear c6
    try clear c18
    try clear c19
    try clear c20
    try clear c22
    try clear c23
    try clear c25
    try clear hcz21_0
    try clear hcz21_1
    try clear hcz21_2
    try clear hcz24_0
    try clear hcz24_1
    try clear hcz24_2
    try clear hcz26_0
    try clear hcz26_1
    try clear hcz26_2
    try clear hfz21_0
    try clear hfz21_1
    try clear hfz21_2
    try clear hfz24_0
    try clear hfz24_1
    try clear hfz24_2
    try clear hfz26_0
    try clear hfz26_1
    try clear hfz26_2
    obtain ⟨kq, x14_4, rfl, HA, HJ4, BK2951, BK2952, BK2953, HB⟩ := hcut
    cases kq with
    | zero => exact absurd HA.out (by simp [ints_Mul.j0])
    | succ kj4 =>
      have H := HA.out
      clear HA
      simp only [ints_Mul.j0] at H
      by_cases c27 : x14_4 = true
      · subst c27
        rw [if_pos rfl] at H
        obtain ⟨⟨t2960, t2961, t2962⟩, A280, H⟩ := Option.bind_eq_some_iff.mp H
        have A28 := Aside0.mk A280
        clear A280
        (try dsimp only at H)
        simp only [Option.some.injEq, Prod.mk.injEq] at H
        obtain ⟨rfl, rfl, rfl⟩ := H
        go_wp2_with (first | ((with_reducible refine gate_callee (f := 70) rfl ?_); refine kc (some 15) Try.func70 #[] (ints_none.calls  t2960 t2961 t2962 _ A28.out) ?_; intro w29 hb; replace BK2951 := kb BK2951 hb; replace BK2952 := kb BK2952 hb; replace BK2953 := kb BK2953 hb; replace HB := kh HB hb; (try clear hb); (try clear hb2); (try clear hk); (try clear hi); have hnb30 := NB2953_2951.out; have hnc30 := NB2951_2953.out; have hnb31 := NB2953_2952.out; have hnc31 := NB2952_2953.out; have ⟨hcz32_0, hcz32_1, hcz32_2, hfz32_0, hfz32_1, hfz32_2⟩ := kz3f BK2953))
        refine bodyPost_ret (results_cell_row rfl _ _ gb2953 23 #[.bool t2960, .int .i64 t2961, .int .i64 t2962] (0, 0) _ rfl (pK BK2953) Try.underlying23 rfl (by kernel_rfl)) rfl ?_
        exact ⟨pe, pl HB⟩
      · replace c27 := Bool.eq_false_iff.mpr c27
        subst c27
        rw [if_neg (show ¬ (false = true) by decide)] at H
        obtain ⟨y2963, hy2963⟩ : ∃ y_ : List Int, y_ = (([t2958, t2959] : List Int)) := ⟨_, rfl⟩
        replace H : ((ints_cornersTimes.f kj4 t2954 t2955 t2956 y2963).bind fun bt2966 => (some (bt2966.1, bt2966.2.1, bt2966.2.2))) = some (r1, r2, r3) := by first | (rw [hy2963]; with_reducible exact H) | (have H2_ := (Option.bind_some _ _).symm.trans H; rw [hy2963]; with_reducible exact H2_) | (have H2_ := (Option.bind_some _ _).symm.trans H; with_reducible exact H2_) | with_reducible exact H | (rw [hy2963]; exact H) | exact H
        have Ny2963 := Aside0.mk hy2963
        clear hy2963
        obtain ⟨⟨t2966, t2967, t2968⟩, A330, H⟩ := Option.bind_eq_some_iff.mp H
        have A33 := Aside0.mk A330
        clear A330
        (try dsimp only at H)
        simp only [Option.some.injEq, Prod.mk.injEq] at H
        obtain ⟨rfl, rfl, rfl⟩ := H
        have hnb34 := NB2951_2952.out
        have hnc34 := NB2952_2951.out
        have hnb35 := NB2951_2953.out
        have hnc35 := NB2953_2951.out
        have hcz36_0 : wc.cell? ⟨gb2951, 0, none⟩ = some (.bool t2954) := bc BK2951 0
        have hcz36_1 : wc.cell? ⟨gb2951, 1, none⟩ = some (.int .i64 t2955) := bc BK2951 1
        have hcz36_2 : wc.cell? ⟨gb2951, 2, none⟩ = some (.int .i64 t2956) := bc BK2951 2
        have hfz36_0 := blk_frozen BK2951.out 0
        have hfz36_1 := blk_frozen BK2951.out 1
        have hfz36_2 := blk_frozen BK2951.out 2
        have hnb37 := NB2952_2953.out
        have hnc37 := NB2953_2952.out
        have hcz38_0 : wc.cell? ⟨gb2952, 0, none⟩ = some (.bool t2957) := bc BK2952 0
        have hcz38_1 : wc.cell? ⟨gb2952, 1, none⟩ = some (.int .i64 t2958) := bc BK2952 1
        have hcz38_2 : wc.cell? ⟨gb2952, 2, none⟩ = some (.int .i64 t2959) := bc BK2952 2
        have hfz38_0 := blk_frozen BK2952.out 0
        have hfz38_1 := blk_frozen BK2952.out 1
        have hfz38_2 := blk_frozen BK2952.out 2
        go_wp2_with (first | ((with_reducible refine gate_dst (N := 21) rfl ?_); refine Kd.R_lit (Kd.int .i64) _ 2 ?hg (N := 21) ?hd (xs := ([t2958, t2959] : List Int)) (inner := [.int .i64 t2958, .int .i64 t2959]) (ok := fun _ => True) (okp := fun _ => True) ?hr ?hp (fun _ hk => hk) trivial (Below.refl _ _) (Nat.le_refl _) (by simp) ?_; (case hd => rfl); (case hg => rfl); (case hr => first | (go_simp; done) | (go_simp; rfl)); (case hp => exact (Reps.one (show Kd.M (Kd.int .i64) _ _ _ t2958 [.int .i64 t2958] from rfl) (Reps.one (show Kd.M (Kd.int .i64) _ _ _ t2959 [.int .i64 t2959] from rfl) (Reps.none _ _)))); intro v2964 w39 ho40 hb hg_ hnew_; clear hg_ hnew_; (first | rw [← Ny2963.out] at ho40 | (simp only [Int.reduceToNat] at ho40; rw [← Ny2963.out] at ho40)); have HO2965 := Aside0.mk (Kd.R_lower ho40 (below_size (pl HB))); replace BK2951 := kb BK2951 hb; replace BK2952 := kb BK2952 hb; replace BK2953 := kb BK2953 hb; replace HB := kh HB hb; clear hb ho40; obtain ⟨Ao41, co41, eo41⟩ := Kd.R_slice HO2965.out; subst eo41) | ((with_reducible refine gate_callee (f := 74) rfl ?_); refine goesL_ (some 22) rfl rfl Try.func74 (by kernel_rfl) rfl #[.agg #[.bool t2954, .int .i64 t2955, .int .i64 t2956], .slice Ao41 y2963.length co41, .func (.func 75) #[] #[]] rfl pa ?_; (with_reducible refine (ints_cornersTimes.calls kj4 t2954 t2955 t2956 _ _ y2963 t2966 t2967 t2968 _ ?side1 ?side2 A33.out).mono ?_); (case side1 => repeat (first | exact (Kd.R_reads' HO2965.out).2.2 | (with_reducible refine Kd.C_alloc ?_ _) | (with_reducible refine Kd.C_drewN ?_ _) | (with_reducible refine Kd.C_drew ?_))); (case side2 => exact (Kd.R_reads' HO2965.out).2.1); rintro e w42 ⟨rfl, hb⟩; refine ⟨_, rfl, ?_⟩; have n0_ := Aside0.mk (Kd.R_below (by (with_reducible repeat (first | apply Kd.R_alloc | apply Kd.R_drewN | apply Kd.R_drew)); exact HO2965.out) hb); have n1_ := kb BK2951 hb; have n2_ := kb BK2952 hb; have n3_ := kb BK2953 hb; have n4_ := kh HB hb; clear HO2965; clear BK2951; clear BK2952; clear BK2953; clear HB; have HO2965 := n0_; have BK2951 := n1_; have BK2952 := n2_; have BK2953 := n3_; have HB := n4_; clear n0_ n1_ n2_ n3_ n4_; (try clear hb); (try clear hb2); (try clear hk); (try clear hi); have ⟨hcz43_0, hcz43_1, hcz43_2, hfz43_0, hfz43_1, hfz43_2⟩ := kz3f BK2953))
        refine bodyPost_ret (results_cell_row rfl _ _ gb2953 23 #[.bool t2966, .int .i64 t2967, .int .i64 t2968] (0, 0) _ rfl (pK BK2953) Try.underlying23 rfl (by kernel_rfl)) rfl ?_
        exact ⟨pe, pl HB⟩
/-! ### ints_over: function 76 -/
mutual
def ints_over.j0 : Nat → Int → Int → Bool → Option (Int)
  | 0, _, _, _ => none
  | k + 1, x0, x1, x5 => if x5 = true then (ints_over.j1 k x0 x1 x5) else ((ints_far.f x0).bind fun t3103 => (ints_over.j1 k x0 x1 t3103))
def ints_over.j1 : Nat → Int → Int → Bool → Option (Int)
  | 0, _, _, _ => none
  | k + 1, x0, x1, x5 => if x5 = true then (if ((decide (x0 < 0)) != (decide (x1 < 0))) = true then (some (-1099511627776)) else (some 1099511627776)) else ((ints_far.f x1).bind fun t3104 => (if t3104 = true then (some 0) else (if x1 = 0 then (none) else (some (wrap64 (Int.tdiv x0 x1))))))
end
def ints_over.f (k : Nat) (a0 : Int) (a1 : Int) : Option (Int) := (ints_far.f a0).bind fun t3101 => (if t3101 = true then ((ints_far.f a1).bind fun t3102 => (ints_over.j0 k a0 a1 t3102)) else (ints_over.j0 k a0 a1 false))
theorem ints_over.mono_l : ∀ k, (∀ y0 y1 y2, LeO (ints_over.j0 k y0 y1 y2) (ints_over.j0 (k + 1) y0 y1 y2)) ∧ (∀ y0 y1 y2, LeO (ints_over.j1 k y0 y1 y2) (ints_over.j1 (k + 1) y0 y1 y2))
  | 0 => ⟨fun _ _ _ r h => by simp [ints_over.j0] at h, fun _ _ _ r h => by simp [ints_over.j1] at h⟩
  | k + 1 => by
    obtain ⟨ih0, ih1⟩ := ints_over.mono_l k
    refine ⟨?_, ?_⟩
    · intro y0 y1 y2
      unfold ints_over.j0
      repeat' first
      | (with_reducible exact ih0 _ _ _)
      | (with_reducible exact ih1 _ _ _)
      | (with_reducible exact LeO.refl _)
      | (with_reducible exact LeO.none _)
      | (with_reducible refine LeO.ite ?_ ?_)
      | (with_reducible refine LeO.bind ?_ (fun _ => ?_))
      | exact ih0 _ _ _
      | exact ih1 _ _ _
      | exact LeO.none _
      | refine LeO.ite ?_ ?_
      | refine LeO.bind ?_ (fun _ => ?_)
    · intro y0 y1 y2
      unfold ints_over.j1
      repeat' first
      | (with_reducible exact ih0 _ _ _)
      | (with_reducible exact ih1 _ _ _)
      | (with_reducible exact LeO.refl _)
      | (with_reducible exact LeO.none _)
      | (with_reducible refine LeO.ite ?_ ?_)
      | (with_reducible refine LeO.bind ?_ (fun _ => ?_))
      | exact ih0 _ _ _
      | exact ih1 _ _ _
      | exact LeO.none _
      | refine LeO.ite ?_ ?_
      | refine LeO.bind ?_ (fun _ => ?_)
theorem ints_over.mono : ∀ a0 a1 k, LeO (ints_over.f k a0 a1) (ints_over.f (k + 1) a0 a1) := by
  intro a0 a1 k
  obtain ⟨ih0, ih1⟩ := ints_over.mono_l k
  unfold ints_over.f
  repeat' first
      | (with_reducible exact ih0 _ _ _)
      | (with_reducible exact ih1 _ _ _)
      | (with_reducible exact LeO.refl _)
      | (with_reducible exact LeO.none _)
      | (with_reducible refine LeO.ite ?_ ?_)
      | (with_reducible refine LeO.bind ?_ (fun _ => ?_))
      | exact ih0 _ _ _
      | exact ih1 _ _ _
      | exact LeO.none _
      | refine LeO.ite ?_ ?_
      | refine LeO.bind ?_ (fun _ => ?_)
set_option maxHeartbeats 8000000 in
set_option maxRecDepth 100000 in
theorem ints_over.calls (k : Nat) (a0 : Int) (a1 : Int) (r : Int) (w : World) (h : ints_over.f k a0 a1 = some r) :
    Calls Try.prog 76 #[.int .i64 a0, .int .i64 a1] w fun e w' => e = .returned (.int .i64 r) ∧ Drawn0 w w' := by
  have H := h
  clear h
  unfold ints_over.f at H
  have HC3 := Aside0.mk H
  clear H
  go_enter Try.func76, Try.ntmps76
  go_upto_region 1 with (fail)
  go_cut [5] (fun v5 wc => ∃ (kq : Nat) (x5_2 : Bool), v5 = .bool x5_2 ∧ Aside0 (ints_over.j0 kq a0 a1 x5_2 = some r) ∧ Aside0 (kq ≤ k) ∧ Drawn0 w wc)
  case first =>
    have H := HC3.out
    clear HC3
    obtain ⟨t3101, A40, H⟩ := Option.bind_eq_some_iff.mp H
    have A4 := Aside0.mk A40
    clear A40
    (try dsimp only at H)
    by_cases c5 : t3101 = true
    · subst c5
      rw [if_pos rfl] at H
      obtain ⟨t3102, A60, H⟩ := Option.bind_eq_some_iff.mp H
      have A6 := Aside0.mk A60
      clear A60
      (try dsimp only at H)
      have H' := Aside0.mk H
      clear H
      go_wp2_with (first | ((with_reducible refine gate_callee (f := 81) rfl ?_); refine goesL_ (some 7) rfl rfl Try.func81 (by kernel_rfl) rfl #[.int .i64 a0] rfl pa ?_; (with_reducible refine (ints_far.calls a0 true _ A4.out).mono ?_); rintro e w' ⟨rfl, ⟨nd, rfl⟩⟩; refine ⟨_, rfl, ?_⟩) | (go_at_call 81; (with_reducible refine (ints_far.calls a1 t3102 _ A6.out).mono ?_); rintro e w' ⟨rfl, ⟨nd, rfl⟩⟩))
      go_meet
      case rel => exact ⟨_, (t3102), (by first | rfl | (simp; done) | (simp [*]; done)), H', ⟨by first | omega | exact Nat.le_refl _⟩, by repeat (first | exact Drawn0.refl _ | apply Drawn0.step)⟩
    · replace c5 := Bool.eq_false_iff.mpr c5
      subst c5
      rw [if_neg (show ¬ (false = true) by decide)] at H
      have H' := Aside0.mk H
      clear H
      go_wp2_with (first | ((with_reducible refine gate_callee (f := 81) rfl ?_); refine goesL_ (some 7) rfl rfl Try.func81 (by kernel_rfl) rfl #[.int .i64 a0] rfl pa ?_; (with_reducible refine (ints_far.calls a0 false _ A4.out).mono ?_); rintro e w' ⟨rfl, ⟨nd, rfl⟩⟩; refine ⟨_, rfl, ?_⟩))
      go_meet
      case rel => exact ⟨_, (false), (by first | rfl | (simp; done) | (simp [*]; done)), H', ⟨by first | omega | exact Nat.le_refl _⟩, by repeat (first | exact Drawn0.refl _ | apply Drawn0.step)⟩
  case rest =>
    clear HC3
    try clear p2
    try clear c5
    obtain ⟨kq, x5_2, rfl, HA, HJ2, ⟨mc2, rfl⟩⟩ := hcut
    cases kq with
    | zero => exact absurd HA.out (by simp [ints_over.j0])
    | succ kj2 =>
      have H := HA.out
      clear HA
      simp only [ints_over.j0] at H
      have HC7 := Aside0.mk H
      clear H
      go_upto_if 5 with (fail)
      go_cut [5] (fun v5 wc => ∃ (kq : Nat) (x5_6 : Bool), v5 = .bool x5_6 ∧ Aside0 (ints_over.j1 kq a0 a1 x5_6 = some r) ∧ Aside0 (kq ≤ kj2) ∧ Drawn0 w wc)
      case first =>
        have H := HC7.out
        clear HC7
        by_cases c8 : x5_2 = true
        · subst c8
          rw [if_pos rfl] at H
          have H' := Aside0.mk H
          clear H
          go_wp2
          go_meet
          case rel => exact ⟨_, (true), (by first | rfl | (simp; done) | (simp [*]; done)), H', ⟨by have := HJ2.out; first | omega | exact Nat.le_refl _⟩, by repeat (first | exact Drawn0.refl _ | apply Drawn0.step)⟩
        · replace c8 := Bool.eq_false_iff.mpr c8
          subst c8
          rw [if_neg (show ¬ (false = true) by decide)] at H
          obtain ⟨t3103, A90, H⟩ := Option.bind_eq_some_iff.mp H
          have A9 := Aside0.mk A90
          clear A90
          (try dsimp only at H)
          have H' := Aside0.mk H
          clear H
          go_wp2_with (first | ((with_reducible refine gate_callee (f := 81) rfl ?_); refine goesL_ (some 13) rfl rfl Try.func81 (by kernel_rfl) rfl #[.int .i64 a0] rfl pa ?_; (with_reducible refine (ints_far.calls a0 t3103 _ A9.out).mono ?_); rintro e w' ⟨rfl, ⟨nd, rfl⟩⟩; refine ⟨_, rfl, ?_⟩))
          go_meet
          case rel => exact ⟨_, (t3103), (by first | rfl | (simp; done) | (simp [*]; done)), H', ⟨by have := HJ2.out; first | omega | exact Nat.le_refl _⟩, by repeat (first | exact Drawn0.refl _ | apply Drawn0.step)⟩
      case rest =>
        clear HC7
        try clear c2
        try clear p2
        try clear c5
        try clear c7
        try clear c8
        try clear p2
        obtain ⟨kq, x5_6, rfl, HA, HJ6, ⟨mc6, rfl⟩⟩ := hcut
        cases kq with
        | zero => exact absurd HA.out (by simp [ints_over.j1])
        | succ kj6 =>
          have H := HA.out
          clear HA
          simp only [ints_over.j1] at H
          by_cases c10 : x5_6 = true
          · subst c10
            rw [if_pos rfl] at H
            by_cases c11 : ((decide (a0 < 0)) != (decide (a1 < 0))) = true
            · rw [if_pos c11] at H
              have c11b0 : ((decide (a0 < 0)) != (decide (a1 < 0))) = true := c11
              (try (have c11b1 : decide ((decide (a0 < 0)) = (decide (a1 < 0))) = false := by simpa using c11))
              (try (have c11b2 : ((decide (a0 < 0)) == (decide (a1 < 0))) = false := by simpa using c11))
              (try (have c11b3 : ¬ ((decide (a0 < 0)) = (decide (a1 < 0))) := by simpa using c11))
              clear c11
              obtain rfl := Option.some.inj H
              go_wp2
              go_ret
              exact ⟨by first | rfl | (simp; done) | (simp [*]; done), by repeat (first | exact Drawn0.refl _ | apply Drawn0.step)⟩
            · rw [if_neg c11] at H
              have c11b0 : ((decide (a0 < 0)) != (decide (a1 < 0))) = false := by simpa using c11
              (try (have c11b1 : decide ((decide (a0 < 0)) = (decide (a1 < 0))) = true := by simpa using c11))
              (try (have c11b2 : ((decide (a0 < 0)) == (decide (a1 < 0))) = true := by simpa using c11))
              clear c11
              obtain rfl := Option.some.inj H
              go_wp2
              go_ret
              exact ⟨by first | rfl | (simp; done) | (simp [*]; done), by repeat (first | exact Drawn0.refl _ | apply Drawn0.step)⟩
          · replace c10 := Bool.eq_false_iff.mpr c10
            subst c10
            rw [if_neg (show ¬ (false = true) by decide)] at H
            obtain ⟨t3104, A120, H⟩ := Option.bind_eq_some_iff.mp H
            have A12 := Aside0.mk A120
            clear A120
            (try dsimp only at H)
            by_cases c13 : t3104 = true
            · subst c13
              rw [if_pos rfl] at H
              obtain rfl := Option.some.inj H
              go_wp2_with (first | ((with_reducible refine gate_callee (f := 81) rfl ?_); refine goesL_ (some 21) rfl rfl Try.func81 (by kernel_rfl) rfl #[.int .i64 a1] rfl pa ?_; (with_reducible refine (ints_far.calls a1 true _ A12.out).mono ?_); rintro e w' ⟨rfl, ⟨nd, rfl⟩⟩; refine ⟨_, rfl, ?_⟩))
              go_ret
              exact ⟨by first | rfl | (simp; done) | (simp [*]; done), by repeat (first | exact Drawn0.refl _ | apply Drawn0.step)⟩
            · replace c13 := Bool.eq_false_iff.mpr c13
              subst c13
              rw [if_neg (show ¬ (false = true) by decide)] at H
              by_cases c14 : a1 = 0
              · rw [if_pos c14] at H
                exact absurd H (by simp)
              · rw [if_neg c14] at H
                have c14b0 : (a1 == 0) = false := beq_eq_false_iff_ne.mpr c14
                have c14b1 : (a1 != 0) = true := bne_iff_ne.mpr c14
                obtain rfl := Option.some.inj H
                go_wp2_with (first | ((with_reducible refine gate_callee (f := 81) rfl ?_); refine goesL_ (some 21) rfl rfl Try.func81 (by kernel_rfl) rfl #[.int .i64 a1] rfl pa ?_; (with_reducible refine (ints_far.calls a1 false _ A12.out).mono ?_); rintro e w' ⟨rfl, ⟨nd, rfl⟩⟩; refine ⟨_, rfl, ?_⟩))
                go_ret
                exact ⟨by first | rfl | (simp; done) | (simp [*]; done), by repeat (first | exact Drawn0.refl _ | apply Drawn0.step)⟩
end Go.Proofs.Ytinmgnlofininaa.PAll
end
