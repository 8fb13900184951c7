/- Functions of the print, turned to this claim. -/
import Derived.Test.YtinmgnlofininaaZHW
import Derived.Test.YtinmgnlofininaaZHx0
import Derived.Test.YtinmgnlofininaaZHx3
section
namespace Go.Proofs.Ytinmgnlofininaa.PAll
open Go.RowKit Go.Proofs.YtinmgnlofininaaW.PrintWords Go.Proofs.YtinmgnlofininaaW.PrintLast Go.Proofs.YtinmgnlofininaaW.PrintMore
attribute [local go_sem] max2_int min2_int max_two min_two max_three min_three max_four min_four   -- for this text's walks alone
set_option linter.unusedVariables false
set_option linter.unusedSimpArgs false
/-! ### ints_Join: function 43 -/
def ints_Join.l0 : Nat → List (S23) → Int → Int → Bool → Int → Int → Option (Bool × Int × Int)
  | 0, _, _, _, _, _, _ => none
  | k + 1, x7, x8, x9, x1006000, x1006001, x1006002 => if x9 < x8 then (if 0 ≤ x9 then (if x9 < (x7.length : Int) then ((ints_norm.f ((rd_T23 x7 x9).f0) ((rd_T23 x7 x9).f1) ((rd_T23 x7 x9).f2)).bind fun bt1008 => (if bt1008.1 = true then (ints_Join.l0 k x7 x8 (wrap64 (x9 + 1)) x1006000 x1006001 x1006002) else (if x1006000 = true then (ints_Join.l0 k x7 x8 (wrap64 (x9 + 1)) bt1008.1 bt1008.2.1 bt1008.2.2) else (ints_Join.l0 k x7 x8 (wrap64 (x9 + 1)) false (mn x1006001 bt1008.2.1) (mx x1006002 bt1008.2.2))))) else (none)) else (none)) else (some (x1006000, x1006001, x1006002))
def ints_Join.f (k : Nat) (l0 : List (S23)) : Option (Bool × Int × Int) := (ints_none.f).bind fun bt1002 => (ints_Join.l0 k l0 (l0.length : Int) 0 bt1002.1 bt1002.2.1 bt1002.2.2)
theorem ints_Join.mono_l : ∀ k, (∀ y0 y1 y2 y3 y4 y5, LeO (ints_Join.l0 k y0 y1 y2 y3 y4 y5) (ints_Join.l0 (k + 1) y0 y1 y2 y3 y4 y5))
  | 0 => fun _ _ _ _ _ _ r h => by simp [ints_Join.l0] at h
  | k + 1 => by
    have ih0 := ints_Join.mono_l k
    · intro y0 y1 y2 y3 y4 y5
      unfold ints_Join.l0
      repeat' first
      | (with_reducible exact ih0 _ _ _ _ _ _)
      | (with_reducible exact LeO.refl _)
      | (with_reducible exact LeO.none _)
      | (with_reducible refine LeO.ite ?_ ?_)
      | (with_reducible refine LeO.bind ?_ (fun _ => ?_))
      | exact ih0 _ _ _ _ _ _
      | exact LeO.none _
      | refine LeO.ite ?_ ?_
      | refine LeO.bind ?_ (fun _ => ?_)
theorem ints_Join.mono : ∀ a0 k, LeO (ints_Join.f k a0) (ints_Join.f (k + 1) a0) := by
  intro a0 k
  have ih0 := ints_Join.mono_l k
  unfold ints_Join.f
  repeat' first
      | (with_reducible exact ih0 _ _ _ _ _ _)
      | (with_reducible exact LeO.refl _)
      | (with_reducible exact LeO.none _)
      | (with_reducible refine LeO.ite ?_ ?_)
      | (with_reducible refine LeO.bind ?_ (fun _ => ?_))
      | exact ih0 _ _ _ _ _ _
      | exact LeO.none _
      | refine LeO.ite ?_ ?_
      | refine LeO.bind ?_ (fun _ => ?_)
set_option maxHeartbeats 8000000 in
set_option maxRecDepth 100000 in
theorem ints_Join.calls (k : Nat) (A0 : Option Addr) (c0 : Nat) (l0 : List (S23)) (r1 : Bool) (r2 : Int) (r3 : Int) (w : World) (hr0 : Kd.C k23 w A0 l0.length l0) (hc0 : l0.length ≤ c0) (h : ints_Join.f k l0 = some (r1, r2, r3)) :
    Calls Try.prog 43 #[.slice A0 l0.length c0] w fun e w' => e = .returned (.agg #[.bool r1, .int .i64 r2, .int .i64 r3]) ∧ Below w.heap.size w w' := by
  have hu23 := Try.underlying23
  have HR0 := Aside0.mk hr0
  have HC0 := Aside0.mk hc0
  clear hr0 hc0
  have HB := Aside0.mk (Below.refl w.heap.size w)
  have H := h
  clear h
  unfold ints_Join.f at H
  obtain ⟨⟨t1002, t1003, t1004⟩, A20, H⟩ := Option.bind_eq_some_iff.mp H
  have A2 := Aside0.mk A20
  clear A20
  (try dsimp only at H)
  have H' := Aside0.mk H
  clear H
  go_enter Try.func43, Try.ntmps43
  go_wp2_with (first | ((with_reducible refine gate_dst (N := 2) rfl ?_); refine kx 2 #[.bool false, .int .i64 0, .int .i64 0] 23 ?_; intro gb1001 hg w3 hbox hb; have BK1001 := Aside0.mk (hbox); have GW1001 := kg HB hg; have GE1001 := kg HB hg; replace HB := kh HB hb; clear hb hbox hg) | ((with_reducible refine gate_callee (f := 70) rfl ?_); refine kc (some 6) Try.func70 #[] (ints_none.calls  t1002 t1003 t1004 _ A2.out) ?_; intro w4 hb; replace BK1001 := kb BK1001 hb; replace HB := kh HB hb; (try clear hb)) | ((with_reducible refine gate_dst (N := 3) rfl ?_); refine kx 3 #[.bool false, .int .i64 0, .int .i64 0] 23 ?_; intro gb1005 hg w5 hbox hb; have BK1005 := Aside0.mk (hbox); have GW1005 := kg HB hg; have GE1005 := kg HB hg; have NB1001_1005 := kn BK1001 hg; have NB1005_1001 := km BK1001 hg; replace BK1001 := kb BK1001 hb; replace HB := kh HB hb; clear hb hbox hg; have hnb6 := NB1005_1001.out; have hnc6 := NB1001_1005.out; have ⟨hcz7_0, hcz7_1, hcz7_2, hfz7_0, hfz7_1, hfz7_2⟩ := kz3f BK1005))
  go_loopg [9] k (fun kq v9 w' => ∃ (x9_1 : Int) (x1006000_1 : Bool) (x1006001_1 : Int) (x1006002_1 : Int), v9 = .int .i64 x9_1 ∧ Aside0 (ints_Join.l0 kq l0 (l0.length : Int) x9_1 x1006000_1 x1006001_1 x1006002_1 = some (r1, r2, r3)) ∧ Aside0 (kq ≤ k) ∧ Aside0 (w'.heap[gb1001]? = some (.cells #[.bool false, .int .i64 0, .int .i64 0] 23 (0, 0))) ∧ Aside0 (w'.heap[gb1005]? = some (.cells #[.bool x1006000_1, .int .i64 x1006001_1, .int .i64 x1006002_1] 23 (0, 0))) ∧ Aside0 (Below w.heap.size w w'))
  case atStart => exact ⟨(0), (t1002), (t1003), (t1004), (by first | rfl | (simp; done) | (simp [*]; done)), H', ⟨Nat.le_refl _⟩, ⟨pk BK1001⟩, ⟨pK BK1005⟩, ⟨pl HB⟩⟩
  case round =>
    clear H'
    try clear p2
    try clear c4
    try clear c6
    try clear c7
    try clear hcz7_0
    try clear hcz7_1
    try clear hcz7_2
    try clear hfz7_0
    try clear hfz7_1
    try clear hfz7_2
    obtain ⟨x9_1, x1006000_1, x1006001_1, x1006002_1, rfl, HA, HK1, BK1001, BK1005, HB⟩ := hrel
    cases gk with
    | zero => exact absurd HA.out (by simp [ints_Join.l0])
    | succ k1 =>
      have H := HA.out
      clear HA
      simp only [ints_Join.l0] at H
      by_cases c8 : x9_1 < (l0.length : Int)
      · rw [if_pos c8] at H
        have c8b0 : decide (x9_1 < (l0.length : Int)) = true := decide_eq_true c8
        clear c8
        by_cases c9 : 0 ≤ x9_1
        · rw [if_pos c9] at H
          have c9b0 : decide (0 ≤ x9_1) = true := decide_eq_true c9
          clear c9
          by_cases c10 : x9_1 < (l0.length : Int)
          · rw [if_pos c10] at H
            have c10b0 : decide (x9_1 < (l0.length : Int)) = true := decide_eq_true c10
            clear c10
            obtain ⟨⟨t1008, t1009, t1010⟩, A110, H⟩ := Option.bind_eq_some_iff.mp H
            have A11 := Aside0.mk A110
            clear A110
            (try dsimp only at H)
            by_cases c12 : t1008 = true
            · subst c12
              rw [if_pos rfl] at H
              have H' := Aside0.mk H
              clear H
              have p1006 : 0 ≤ (x9_1 : Int) := of_decide_eq_true (by first | (with_reducible assumption) | assumption)
              have q1006 : x9_1 < (l0.length : Int) := of_decide_eq_true (by first | (with_reducible assumption) | assumption)
              obtain ⟨ad1006, e1006, hx1006_0, hx1006_1, hx1006_2⟩ := at_T23 HR0.out x9_1 p1006 q1006
              cases e1006
              replace hx1006_0 := (HB.out.cell (World.block_lt_of_cell? w _ hx1006_0)).trans hx1006_0
              replace hx1006_1 := (HB.out.cell (World.block_lt_of_cell? w _ hx1006_1)).trans hx1006_1
              replace hx1006_2 := (HB.out.cell (World.block_lt_of_cell? w _ hx1006_2)).trans hx1006_2
              replace p1006 := eq_true p1006
              replace q1006 := eq_true q1006
              go_wp2_with (first | ((with_reducible refine gate_dst (N := 5) rfl ?_); refine kx 5 #[.bool false, .int .i64 0, .int .i64 0] 23 ?_; intro gb1007 hg w13 hbox hb; have BK1007 := Aside0.mk (hbox); have GW1007 := kg HB hg; have GE1007 := kg HB hg; have NB1001_1007 := kn BK1001 hg; have NB1007_1001 := km BK1001 hg; have NB1005_1007 := kn BK1005 hg; have NB1007_1005 := km BK1005 hg; replace BK1001 := kb BK1001 hb; replace BK1005 := kb BK1005 hb; replace HB := kh HB hb; clear hb hbox hg; have hnb14 := NB1007_1001.out; have hnc14 := NB1001_1007.out; have hnb15 := NB1007_1005.out; have hnc15 := NB1005_1007.out; have ⟨hcz16_0, hcz16_1, hcz16_2, hfz16_0, hfz16_1, hfz16_2⟩ := kz3f BK1007) | ((with_reducible refine gate_callee (f := 68) rfl ?_); refine kc (some 14) Try.func68 #[.agg #[.bool ((rd_T23 l0 x9_1).f0), .int .i64 ((rd_T23 l0 x9_1).f1), .int .i64 ((rd_T23 l0 x9_1).f2)]] (ints_norm.calls ((rd_T23 l0 x9_1).f0) ((rd_T23 l0 x9_1).f1) ((rd_T23 l0 x9_1).f2) true t1009 t1010 _ A11.out) ?_; intro w17 hb; replace BK1001 := kb BK1001 hb; replace BK1005 := kb BK1005 hb; replace BK1007 := kb (o' := .cells #[.bool ((rd_T23 l0 x9_1).f0), .int .i64 ((rd_T23 l0 x9_1).f1), .int .i64 ((rd_T23 l0 x9_1).f2)] 23 (0, 0)) BK1007 hb; replace HB := kh HB hb; (try clear hb); have ⟨hcz18_0, hcz18_1, hcz18_2, hfz18_0, hfz18_1, hfz18_2⟩ := kz3f BK1007))
              go_roundg k1
              case measure => have := HK1.out; omega
              case rel => exact ⟨(wrap64 (x9_1 + 1)), (x1006000_1), (x1006001_1), (x1006002_1), (by first | rfl | (simp; done) | (simp [*]; done)), H', ⟨by have := HK1.out; omega⟩, ⟨pk BK1001⟩, ⟨pk BK1005⟩, ⟨pl HB⟩⟩
            · replace c12 := Bool.eq_false_iff.mpr c12
              subst c12
              rw [if_neg (show ¬ (false = true) by decide)] at H
              by_cases c19 : x1006000_1 = true
              · subst c19
                rw [if_pos rfl] at H
                have H' := Aside0.mk H
                clear H
                have p1006 : 0 ≤ (x9_1 : Int) := of_decide_eq_true (by first | (with_reducible assumption) | assumption)
                have q1006 : x9_1 < (l0.length : Int) := of_decide_eq_true (by first | (with_reducible assumption) | assumption)
                obtain ⟨ad1006, e1006, hx1006_0, hx1006_1, hx1006_2⟩ := at_T23 HR0.out x9_1 p1006 q1006
                cases e1006
                replace hx1006_0 := (HB.out.cell (World.block_lt_of_cell? w _ hx1006_0)).trans hx1006_0
                replace hx1006_1 := (HB.out.cell (World.block_lt_of_cell? w _ hx1006_1)).trans hx1006_1
                replace hx1006_2 := (HB.out.cell (World.block_lt_of_cell? w _ hx1006_2)).trans hx1006_2
                replace p1006 := eq_true p1006
                replace q1006 := eq_true q1006
                go_wp2_with (first | ((with_reducible refine gate_dst (N := 5) rfl ?_); refine kx 5 #[.bool false, .int .i64 0, .int .i64 0] 23 ?_; intro gb1007 hg w20 hbox hb; have BK1007 := Aside0.mk (hbox); have GW1007 := kg HB hg; have GE1007 := kg HB hg; have NB1001_1007 := kn BK1001 hg; have NB1007_1001 := km BK1001 hg; have NB1005_1007 := kn BK1005 hg; have NB1007_1005 := km BK1005 hg; replace BK1001 := kb BK1001 hb; replace BK1005 := kb BK1005 hb; replace HB := kh HB hb; clear hb hbox hg; have hnb21 := NB1007_1001.out; have hnc21 := NB1001_1007.out; have hnb22 := NB1007_1005.out; have hnc22 := NB1005_1007.out; have ⟨hcz23_0, hcz23_1, hcz23_2, hfz23_0, hfz23_1, hfz23_2⟩ := kz3f BK1007) | ((with_reducible refine gate_callee (f := 68) rfl ?_); refine kc (some 14) Try.func68 #[.agg #[.bool ((rd_T23 l0 x9_1).f0), .int .i64 ((rd_T23 l0 x9_1).f1), .int .i64 ((rd_T23 l0 x9_1).f2)]] (ints_norm.calls ((rd_T23 l0 x9_1).f0) ((rd_T23 l0 x9_1).f1) ((rd_T23 l0 x9_1).f2) false t1009 t1010 _ A11.out) ?_; intro w24 hb; replace BK1001 := kb BK1001 hb; replace BK1005 := kb BK1005 hb; replace BK1007 := kb (o' := .cells #[.bool ((rd_T23 l0 x9_1).f0), .int .i64 ((rd_T23 l0 x9_1).f1), .int .i64 ((rd_T23 l0 x9_1).f2)] 23 (0, 0)) BK1007 hb; replace HB := kh HB hb; (try clear hb); have ⟨hcz25_0, hcz25_1, hcz25_2, hfz25_0, hfz25_1, hfz25_2⟩ := kz3f BK1007; have hnb26 := NB1005_1001.out; have hnc26 := NB1001_1005.out; have ⟨hcz27_0, hcz27_1, hcz27_2, hfz27_0, hfz27_1, hfz27_2⟩ := kz3f BK1005))
                go_roundg k1
                case measure => have := HK1.out; omega
                case rel => exact ⟨(wrap64 (x9_1 + 1)), (false), (t1009), (t1010), (by first | rfl | (simp; done) | (simp [*]; done)), H', ⟨by have := HK1.out; omega⟩, ⟨pk BK1001⟩, ⟨pK BK1005⟩, ⟨pl HB⟩⟩
              · replace c19 := Bool.eq_false_iff.mpr c19
                subst c19
                rw [if_neg (show ¬ (false = true) by decide)] at H
                obtain ⟨ji28, hji28⟩ : ∃ j_ : Int, (mn x1006001_1 t1009) = j_ := ⟨_, rfl⟩
                replace H : (ints_Join.l0 k1 l0 (l0.length : Int) (wrap64 (x9_1 + 1)) false ji28 (mx x1006002_1 t1010)) = some (r1, r2, r3) := by first | (rw [hji28] at H; exact H) | (simp only [hji28] at H ⊢; exact H)
                (try rw [hji28] at A11)
                have hji28_ : (if t1009 < x1006001_1 then t1009 else x1006001_1) = ji28 := hji28
                obtain ⟨ji29, hji29⟩ : ∃ j_ : Int, (mx x1006002_1 t1010) = j_ := ⟨_, rfl⟩
                replace H : (ints_Join.l0 k1 l0 (l0.length : Int) (wrap64 (x9_1 + 1)) false ji28 ji29) = some (r1, r2, r3) := by first | (rw [hji29] at H; exact H) | (simp only [hji29] at H ⊢; exact H)
                (try rw [hji29] at A11)
                have hji29_ : (if x1006002_1 < t1010 then t1010 else x1006002_1) = ji29 := hji29
                have H' := Aside0.mk H
                clear H
                have p1006 : 0 ≤ (x9_1 : Int) := of_decide_eq_true (by first | (with_reducible assumption) | assumption)
                have q1006 : x9_1 < (l0.length : Int) := of_decide_eq_true (by first | (with_reducible assumption) | assumption)
                obtain ⟨ad1006, e1006, hx1006_0, hx1006_1, hx1006_2⟩ := at_T23 HR0.out x9_1 p1006 q1006
                cases e1006
                replace hx1006_0 := (HB.out.cell (World.block_lt_of_cell? w _ hx1006_0)).trans hx1006_0
                replace hx1006_1 := (HB.out.cell (World.block_lt_of_cell? w _ hx1006_1)).trans hx1006_1
                replace hx1006_2 := (HB.out.cell (World.block_lt_of_cell? w _ hx1006_2)).trans hx1006_2
                replace p1006 := eq_true p1006
                replace q1006 := eq_true q1006
                go_wp2_with (first | ((with_reducible refine gate_dst (N := 5) rfl ?_); refine kx 5 #[.bool false, .int .i64 0, .int .i64 0] 23 ?_; intro gb1007 hg w30 hbox hb; have BK1007 := Aside0.mk (hbox); have GW1007 := kg HB hg; have GE1007 := kg HB hg; have NB1001_1007 := kn BK1001 hg; have NB1007_1001 := km BK1001 hg; have NB1005_1007 := kn BK1005 hg; have NB1007_1005 := km BK1005 hg; replace BK1001 := kb BK1001 hb; replace BK1005 := kb BK1005 hb; replace HB := kh HB hb; clear hb hbox hg; have hnb31 := NB1007_1001.out; have hnc31 := NB1001_1007.out; have hnb32 := NB1007_1005.out; have hnc32 := NB1005_1007.out; have ⟨hcz33_0, hcz33_1, hcz33_2, hfz33_0, hfz33_1, hfz33_2⟩ := kz3f BK1007) | ((with_reducible refine gate_callee (f := 68) rfl ?_); refine kc (some 14) Try.func68 #[.agg #[.bool ((rd_T23 l0 x9_1).f0), .int .i64 ((rd_T23 l0 x9_1).f1), .int .i64 ((rd_T23 l0 x9_1).f2)]] (ints_norm.calls ((rd_T23 l0 x9_1).f0) ((rd_T23 l0 x9_1).f1) ((rd_T23 l0 x9_1).f2) false t1009 t1010 _ A11.out) ?_; intro w34 hb; replace BK1001 := kb BK1001 hb; replace BK1005 := kb BK1005 hb; replace BK1007 := kb (o' := .cells #[.bool ((rd_T23 l0 x9_1).f0), .int .i64 ((rd_T23 l0 x9_1).f1), .int .i64 ((rd_T23 l0 x9_1).f2)] 23 (0, 0)) BK1007 hb; replace HB := kh HB hb; (try clear hb); have ⟨hcz35_0, hcz35_1, hcz35_2, hfz35_0, hfz35_1, hfz35_2⟩ := kz3f BK1007; have hnb36 := NB1005_1001.out; have hnc36 := NB1001_1005.out; have ⟨hcz37_0, hcz37_1, hcz37_2, hfz37_0, hfz37_1, hfz37_2⟩ := kz3f BK1005))
                go_roundg k1
                case measure => have := HK1.out; omega
                case rel => exact ⟨(wrap64 (x9_1 + 1)), (false), (ji28), (ji29), (by first | rfl | (simp; done) | (simp [*]; done)), H', ⟨by have := HK1.out; omega⟩, ⟨pk BK1001⟩, ⟨pK BK1005⟩, ⟨pl HB⟩⟩
          · rw [if_neg c10] at H
            exact absurd H (by simp)
        · rw [if_neg c9] at H
          exact absurd H (by simp)
      · rw [if_neg c8] at H
        have c8b0 : decide (x9_1 < (l0.length : Int)) = false := decide_eq_false c8
        clear c8
        simp only [Option.some.injEq, Prod.mk.injEq] at H
        obtain ⟨rfl, rfl, rfl⟩ := H
        have hnb38 := NB1005_1001.out
        have hnc38 := NB1001_1005.out
        have hcz39_0 : wr.cell? ⟨gb1005, 0, none⟩ = some (.bool x1006000_1) := bc BK1005 0
        have hcz39_1 : wr.cell? ⟨gb1005, 1, none⟩ = some (.int .i64 x1006001_1) := bc BK1005 1
        have hcz39_2 : wr.cell? ⟨gb1005, 2, none⟩ = some (.int .i64 x1006002_1) := bc BK1005 2
        have hfz39_0 := blk_frozen BK1005.out 0
        have hfz39_1 := blk_frozen BK1005.out 1
        have hfz39_2 := blk_frozen BK1005.out 2
        have hcz40_0 : wr.cell? ⟨gb1001, 0, none⟩ = some (.bool false) := bc BK1001 0
        have hcz40_1 : wr.cell? ⟨gb1001, 1, none⟩ = some (.int .i64 0) := bc BK1001 1
        have hcz40_2 : wr.cell? ⟨gb1001, 2, none⟩ = some (.int .i64 0) := bc BK1001 2
        have hfz40_0 := blk_frozen BK1001.out 0
        have hfz40_1 := blk_frozen BK1001.out 1
        have hfz40_2 := blk_frozen BK1001.out 2
        go_wp2
        refine bodyPost_ret (results_cell_row rfl _ _ gb1001 23 #[.bool x1006000_1, .int .i64 x1006001_1, .int .i64 x1006002_1] (0, 0) _ rfl (pK BK1001) Try.underlying23 rfl (by kernel_rfl)) rfl ?_
        exact ⟨pe, pl HB⟩
/-! ### ints_Meet: function 45 -/
def ints_Meet.j0 : Nat → Bool → Bool → Int → Int → Bool → Int → Int → Option (Bool × Int × Int)
  | 0, _, _, _, _, _, _, _ => none
  | k + 1, x14, x1152000, x1152001, x1152002, x1153000, x1153001, x1153002 => if x14 = true then ((ints_none.f).bind fun bt1160 => (some (bt1160.1, bt1160.2.1, bt1160.2.2))) else ((ints_Make.f (mx x1152001 x1153001) (mn x1152002 x1153002)).bind fun bt1163 => (some (bt1163.1, bt1163.2.1, bt1163.2.2)))
def ints_Meet.f (k : Nat) (a0_0 : Bool) (a0_1 : Int) (a0_2 : Int) (a1_0 : Bool) (a1_1 : Int) (a1_2 : Int) : Option (Bool × Int × Int) := (ints_norm.f a0_0 a0_1 a0_2).bind fun bt1154 => ((ints_norm.f a1_0 a1_1 a1_2).bind fun bt1157 => (if bt1154.1 = true then (ints_Meet.j0 k true bt1154.1 bt1154.2.1 bt1154.2.2 bt1157.1 bt1157.2.1 bt1157.2.2) else (ints_Meet.j0 k bt1157.1 bt1154.1 bt1154.2.1 bt1154.2.2 bt1157.1 bt1157.2.1 bt1157.2.2)))
theorem ints_Meet.mono_l : ∀ k, (∀ y0 y1 y2 y3 y4 y5 y6, LeO (ints_Meet.j0 k y0 y1 y2 y3 y4 y5 y6) (ints_Meet.j0 (k + 1) y0 y1 y2 y3 y4 y5 y6))
  | 0 => fun _ _ _ _ _ _ _ r h => by simp [ints_Meet.j0] at h
  | k + 1 => by
    have ih0 := ints_Meet.mono_l k
    · intro y0 y1 y2 y3 y4 y5 y6
      unfold ints_Meet.j0
      repeat' first
      | (with_reducible exact ih0 _ _ _ _ _ _ _)
      | (with_reducible exact LeO.refl _)
      | (with_reducible exact LeO.none _)
      | (with_reducible refine LeO.ite ?_ ?_)
      | (with_reducible refine LeO.bind ?_ (fun _ => ?_))
      | exact ih0 _ _ _ _ _ _ _
      | exact LeO.none _
      | refine LeO.ite ?_ ?_
      | refine LeO.bind ?_ (fun _ => ?_)
theorem ints_Meet.mono : ∀ a0 a1 a2 a3 a4 a5 k, LeO (ints_Meet.f k a0 a1 a2 a3 a4 a5) (ints_Meet.f (k + 1) a0 a1 a2 a3 a4 a5) := by
  intro a0 a1 a2 a3 a4 a5 k
  have ih0 := ints_Meet.mono_l k
  unfold ints_Meet.f
  repeat' first
      | (with_reducible exact ih0 _ _ _ _ _ _ _)
      | (with_reducible exact LeO.refl _)
      | (with_reducible exact LeO.none _)
      | (with_reducible refine LeO.ite ?_ ?_)
      | (with_reducible refine LeO.bind ?_ (fun _ => ?_))
      | exact ih0 _ _ _ _ _ _ _
      | exact LeO.none _
      | refine LeO.ite ?_ ?_
      | refine LeO.bind ?_ (fun _ => ?_)
set_option maxHeartbeats 8000000 in
set_option maxRecDepth 100000 in
theorem ints_Meet.calls (k : Nat) (a0_0 : Bool) (a0_1 : Int) (a0_2 : Int) (a1_0 : Bool) (a1_1 : Int) (a1_2 : Int) (r1 : Bool) (r2 : Int) (r3 : Int) (w : World) (h : ints_Meet.f k a0_0 a0_1 a0_2 a1_0 a1_1 a1_2 = some (r1, r2, r3)) :
    Calls Try.prog 45 #[.agg #[.bool a0_0, .int .i64 a0_1, .int .i64 a0_2], .agg #[.bool a1_0, .int .i64 a1_1, .int .i64 a1_2]] w fun e w' => e = .returned (.agg #[.bool r1, .int .i64 r2, .int .i64 r3]) ∧ Below w.heap.size w w' := by
  have hu23 := Try.underlying23
  have HB := Aside0.mk (Below.refl w.heap.size w)
  have H := h
  clear h
  unfold ints_Meet.f at H
  obtain ⟨⟨t1154, t1155, t1156⟩, A30, H⟩ := Option.bind_eq_some_iff.mp H
  have A3 := Aside0.mk A30
  clear A30
  (try dsimp only at H)
  obtain ⟨⟨t1157, t1158, t1159⟩, A40, H⟩ := Option.bind_eq_some_iff.mp H
  have A4 := Aside0.mk A40
  clear A40
  (try dsimp only at H)
  have HC5 := Aside0.mk H
  clear H
  go_enter Try.func45, Try.ntmps45
  try go_wp2_with (first | ((with_reducible refine gate_dst (N := 2) rfl ?_); refine kx 2 #[.bool a0_0, .int .i64 a0_1, .int .i64 a0_2] 23 ?_; intro gb1151 hg w6 hbox hb; have BK1151 := Aside0.mk (hbox); have GW1151 := kg HB hg; have GE1151 := kg HB hg; replace HB := kh HB hb; clear hb hbox hg) | ((with_reducible refine gate_dst (N := 3) rfl ?_); refine kx 3 #[.bool a1_0, .int .i64 a1_1, .int .i64 a1_2] 23 ?_; intro gb1152 hg w7 hbox hb; have BK1152 := Aside0.mk (hbox); have GW1152 := kg HB hg; have GE1152 := kg HB hg; have NB1151_1152 := kn BK1151 hg; have NB1152_1151 := km BK1151 hg; replace BK1151 := kb BK1151 hb; replace HB := kh HB hb; clear hb hbox hg) | ((with_reducible refine gate_dst (N := 4) rfl ?_); refine kx 4 #[.bool false, .int .i64 0, .int .i64 0] 23 ?_; intro gb1153 hg w8 hbox hb; have BK1153 := Aside0.mk (hbox); have GW1153 := kg HB hg; have GE1153 := kg HB hg; have NB1151_1153 := kn BK1151 hg; have NB1153_1151 := km BK1151 hg; have NB1152_1153 := kn BK1152 hg; have NB1153_1152 := km BK1152 hg; replace BK1151 := kb BK1151 hb; replace BK1152 := kb BK1152 hb; replace HB := kh HB hb; clear hb hbox hg))
  replace BK1151 := Aside0.mk (blk_drew BK1151.out)
  replace BK1152 := Aside0.mk (blk_drew BK1152.out)
  replace BK1153 := Aside0.mk (blk_drew BK1153.out)
  replace HB := Aside0.mk (below_drew1 HB.out)
  refine start_ (n := 6) (S := fun w' => w'.cell? ⟨gb1151, 0, none⟩ = some (.bool a0_0) ∧ w'.cell? ⟨gb1151, 1, none⟩ = some (.int .i64 a0_1) ∧ w'.cell? ⟨gb1151, 2, none⟩ = some (.int .i64 a0_2) ∧ w'.cell? ⟨gb1152, 0, none⟩ = some (.bool a1_0) ∧ w'.cell? ⟨gb1152, 1, none⟩ = some (.int .i64 a1_1) ∧ w'.cell? ⟨gb1152, 2, none⟩ = some (.int .i64 a1_2)) (ds := [4, 5]) #[false, false, false, false, false, false] (by kernel_rfl) rfl rfl ⟨bc BK1151 0, bc BK1151 1, bc BK1151 2, bc BK1152 0, bc BK1152 1, bc BK1152 2⟩ (fun hHeld => ?_)
  generalize w8.drew = w9 at BK1151 BK1152 BK1153 HB hHeld ⊢
  refine tak 0 (some 5) #[true, false, false, false, false, false] (by kernel_rfl) hHeld ?_
  refine tak 2 (some 7) #[true, false, true, false, false, false] (by kernel_rfl) hHeld ?_
  refine one_ (i := 1) (N := some 6) #[true, true, true, false, false, false] rfl rfl (by kernel_rfl) (by decide) (fun K hK => ?_)
  refine gc Try.func68 #[.agg #[.bool a0_0, .int .i64 a0_1, .int .i64 a0_2]] (ints_norm.calls a0_0 a0_1 a0_2 t1154 t1155 t1156 _ A3.out) ?_
  intro w10 hb
  replace BK1151 := kb BK1151 hb
  replace BK1152 := kb BK1152 hb
  replace BK1153 := kb BK1153 hb
  replace HB := kh HB hb
  (try clear hb)
  refine hK.out _ _ ⟨bc BK1151 0, bc BK1151 1, bc BK1151 2, bc BK1152 0, bc BK1152 1, bc BK1152 2⟩ (fun hHeld => ?_)
  clear hK K
  refine nrm (some 6) ?_
  refine one_ (i := 3) (N := some 8) #[true, true, true, true, false, false] rfl rfl (by kernel_rfl) (by decide) (fun K hK => ?_)
  refine gc Try.func68 #[.agg #[.bool a1_0, .int .i64 a1_1, .int .i64 a1_2]] (ints_norm.calls a1_0 a1_1 a1_2 t1157 t1158 t1159 _ A4.out) ?_
  intro w11 hb
  replace BK1151 := kb BK1151 hb
  replace BK1152 := kb BK1152 hb
  replace BK1153 := kb BK1153 hb
  replace HB := kh HB hb
  (try clear hb)
  refine hK.out _ _ ⟨bc BK1151 0, bc BK1151 1, bc BK1151 2, bc BK1152 0, bc BK1152 1, bc BK1152 2⟩ (fun hHeld => ?_)
  clear hK K
  refine nrm (some 8) ?_
  refine last_ (i := 4) (N := none) #[true, true, true, true, true, false] rfl rfl (by kernel_rfl) (by decide) (fun K hK => ?_)
  have hs12 : w11.cell? ⟨gb1151, 0, none⟩ = some (.bool a0_0) := bc BK1151 0
  have hfs12 := blk_frozen BK1151.out 0
  have hns12_1 := NB1152_1151.out
  have hns12_2 := NB1153_1151.out
  have hms12_1 := NB1151_1152.out
  have hms12_2 := NB1151_1153.out
  have hs13 : w11.cell? ⟨gb1151, 1, none⟩ = some (.int .i64 a0_1) := bc BK1151 1
  have hfs13 := blk_frozen BK1151.out 1
  have hs14 : w11.cell? ⟨gb1151, 2, none⟩ = some (.int .i64 a0_2) := bc BK1151 2
  have hfs14 := blk_frozen BK1151.out 2
  refine skip_ (w1 := ?_) (by rfl) rfl ?_ ?_
  rotate_left
  · go_simp
    rfl
  refine hK.out _ _ ?_
  clear hK K
  refine last_ (i := 5) (N := none) #[true, true, true, true, true, true] rfl rfl (by kernel_rfl) (by decide) (fun K hK => ?_)
  have hs15 : w11.cell? ⟨gb1152, 0, none⟩ = some (.bool a1_0) := bc BK1152 0
  have hfs15 := blk_frozen BK1152.out 0
  have hns15_0 := NB1151_1152.out
  have hns15_2 := NB1153_1152.out
  have hms15_0 := NB1152_1151.out
  have hms15_2 := NB1152_1153.out
  have hs16 : w11.cell? ⟨gb1152, 1, none⟩ = some (.int .i64 a1_1) := bc BK1152 1
  have hfs16 := blk_frozen BK1152.out 1
  have hs17 : w11.cell? ⟨gb1152, 2, none⟩ = some (.int .i64 a1_2) := bc BK1152 2
  have hfs17 := blk_frozen BK1152.out 2
  refine skip_ (w1 := ?_) (by rfl) rfl ?_ ?_
  rotate_left
  · go_simp
    rfl
  refine hK.out _ _ ?_
  clear hK K
  refine done_ (by kernel_rfl) ?_
  go_upto_region 2 with (fail)
  go_cut [14] (fun v14 wc => ∃ (kq : Nat) (x14_4 : Bool), v14 = .bool x14_4 ∧ Aside0 (ints_Meet.j0 kq x14_4 t1154 t1155 t1156 t1157 t1158 t1159 = some (r1, r2, r3)) ∧ Aside0 (kq ≤ k) ∧ Aside0 (wc.heap[gb1151]? = some (.cells #[.bool t1154, .int .i64 t1155, .int .i64 t1156] 23 (0, 0))) ∧ Aside0 (wc.heap[gb1152]? = some (.cells #[.bool t1157, .int .i64 t1158, .int .i64 t1159] 23 (0, 0))) ∧ Aside0 (wc.heap[gb1153]? = some (.cells #[.bool false, .int .i64 0, .int .i64 0] 23 (0, 0))) ∧ Aside0 (Below w.heap.size w wc))
  case first =>
    have H := HC5.out
    clear HC5
    by_cases c18 : t1154 = true
    · subst c18
      rw [if_pos rfl] at H
      have H' := Aside0.mk H
      clear H
      have hnb19 := NB1151_1152.out
      have hnc19 := NB1152_1151.out
      have hnb20 := NB1151_1153.out
      have hnc20 := NB1153_1151.out
      have ⟨hcz21_0, hcz21_1, hcz21_2, hfz21_0, hfz21_1, hfz21_2⟩ := kz3f BK1151
      go_wp2
      go_meet
      case rel => exact ⟨_, (true), (by first | rfl | (simp; done) | (simp [*]; done)), H', ⟨by first | omega | exact Nat.le_refl _⟩, ⟨pK BK1151⟩, ⟨pK BK1152⟩, ⟨pk BK1153⟩, ⟨pl HB⟩⟩
    · replace c18 := Bool.eq_false_iff.mpr c18
      subst c18
      rw [if_neg (show ¬ (false = true) by decide)] at H
      have H' := Aside0.mk H
      clear H
      have hnb22 := NB1151_1152.out
      have hnc22 := NB1152_1151.out
      have hnb23 := NB1151_1153.out
      have hnc23 := NB1153_1151.out
      have ⟨hcz24_0, hcz24_1, hcz24_2, hfz24_0, hfz24_1, hfz24_2⟩ := kz3f BK1151
      have hnb25 := NB1152_1153.out
      have hnc25 := NB1153_1152.out
      have ⟨hcz26_0, hcz26_1, hcz26_2, hfz26_0, hfz26_1, hfz26_2⟩ := kz3f BK1152
      go_wp2
      go_meet
      case rel => exact ⟨_, (t1157), (by first | rfl | (simp; done) | (simp [*]; done)), H', ⟨by first | omega | exact Nat.le_refl _⟩, ⟨pK BK1151⟩, ⟨pK BK1152⟩, ⟨pk BK1153⟩, ⟨pl HB⟩⟩
  case rest =>
    clear HC5
    try clear c1
    try clear c2
    try clear p2
    try clear c4
    try clear c6
    try clear c18
    try clear c19
    try clear c20
    try clear c22
    try clear c23
    try clear c25
    try clear hcz21_0
    try clear hcz21_1
    try clear hcz21_2
    try clear hcz24_0
    try clear hcz24_1
    try clear hcz24_2
    try clear hcz26_0
    try clear hcz26_1
    try clear hcz26_2
    try clear hfz21_0
    try clear hfz21_1
    try clear hfz21_2
    try clear hfz24_0
    try clear hfz24_1
    try clear hfz24_2
    try clear hfz26_0
    try clear hfz26_1
    try clear hfz26_2
    obtain ⟨kq, x14_4, rfl, HA, HJ4, BK1151, BK1152, BK1153, HB⟩ := hcut
    cases kq with
    | zero => exact absurd HA.out (by simp [ints_Meet.j0])
    | succ kj4 =>
      have H := HA.out
      clear HA
      simp only [ints_Meet.j0] at H
      by_cases c27 : x14_4 = true
      · subst c27
        rw [if_pos rfl] at H
        obtain ⟨⟨t1160, t1161, t1162⟩, A280, H⟩ := Option.bind_eq_some_iff.mp H
        have A28 := Aside0.mk A280
        clear A280
        (try dsimp only at H)
        simp only [Option.some.injEq, Prod.mk.injEq] at H
        obtain ⟨rfl, rfl, rfl⟩ := H
        go_wp2_with (first | ((with_reducible refine gate_callee (f := 70) rfl ?_); refine kc (some 15) Try.func70 #[] (ints_none.calls  t1160 t1161 t1162 _ A28.out) ?_; intro w29 hb; replace BK1151 := kb BK1151 hb; replace BK1152 := kb BK1152 hb; replace BK1153 := kb BK1153 hb; replace HB := kh HB hb; (try clear hb); have hnb30 := NB1153_1151.out; have hnc30 := NB1151_1153.out; have hnb31 := NB1153_1152.out; have hnc31 := NB1152_1153.out; have ⟨hcz32_0, hcz32_1, hcz32_2, hfz32_0, hfz32_1, hfz32_2⟩ := kz3f BK1153))
        refine bodyPost_ret (results_cell_row rfl _ _ gb1153 23 #[.bool t1160, .int .i64 t1161, .int .i64 t1162] (0, 0) _ rfl (pK BK1153) Try.underlying23 rfl (by kernel_rfl)) rfl ?_
        exact ⟨pe, pl HB⟩
      · replace c27 := Bool.eq_false_iff.mpr c27
        subst c27
        rw [if_neg (show ¬ (false = true) by decide)] at H
        obtain ⟨ji33, hji33⟩ : ∃ j_ : Int, (mx t1155 t1158) = j_ := ⟨_, rfl⟩
        replace H : ((ints_Make.f (ji33) (mn t1156 t1159)).bind fun bt1163 => (some (bt1163.1, bt1163.2.1, bt1163.2.2))) = some (r1, r2, r3) := by first | (rw [hji33] at H; exact H) | (simp only [hji33] at H ⊢; exact H)
        have hji33_ : (if t1155 < t1158 then t1158 else t1155) = ji33 := hji33
        obtain ⟨ji34, hji34⟩ : ∃ j_ : Int, (mn t1156 t1159) = j_ := ⟨_, rfl⟩
        replace H : ((ints_Make.f (ji33) (ji34)).bind fun bt1163 => (some (bt1163.1, bt1163.2.1, bt1163.2.2))) = some (r1, r2, r3) := by first | (rw [hji34] at H; exact H) | (simp only [hji34] at H ⊢; exact H)
        have hji34_ : (if t1159 < t1156 then t1159 else t1156) = ji34 := hji34
        obtain ⟨⟨t1163, t1164, t1165⟩, A350, H⟩ := Option.bind_eq_some_iff.mp H
        have A35 := Aside0.mk A350
        clear A350
        (try dsimp only at H)
        simp only [Option.some.injEq, Prod.mk.injEq] at H
        obtain ⟨rfl, rfl, rfl⟩ := H
        have hnb36 := NB1151_1152.out
        have hnc36 := NB1152_1151.out
        have hnb37 := NB1151_1153.out
        have hnc37 := NB1153_1151.out
        have hcz38_0 : wc.cell? ⟨gb1151, 0, none⟩ = some (.bool t1154) := bc BK1151 0
        have hcz38_1 : wc.cell? ⟨gb1151, 1, none⟩ = some (.int .i64 t1155) := bc BK1151 1
        have hcz38_2 : wc.cell? ⟨gb1151, 2, none⟩ = some (.int .i64 t1156) := bc BK1151 2
        have hfz38_0 := blk_frozen BK1151.out 0
        have hfz38_1 := blk_frozen BK1151.out 1
        have hfz38_2 := blk_frozen BK1151.out 2
        have hnb39 := NB1152_1153.out
        have hnc39 := NB1153_1152.out
        have hcz40_0 : wc.cell? ⟨gb1152, 0, none⟩ = some (.bool t1157) := bc BK1152 0
        have hcz40_1 : wc.cell? ⟨gb1152, 1, none⟩ = some (.int .i64 t1158) := bc BK1152 1
        have hcz40_2 : wc.cell? ⟨gb1152, 2, none⟩ = some (.int .i64 t1159) := bc BK1152 2
        have hfz40_0 := blk_frozen BK1152.out 0
        have hfz40_1 := blk_frozen BK1152.out 1
        have hfz40_2 := blk_frozen BK1152.out 2
        go_wp2_with (first | ((with_reducible refine gate_callee (f := 37) rfl ?_); refine goesL_ (some 26) rfl rfl Try.func37 (by kernel_rfl) rfl #[.int .i64 ji33, .int .i64 ji34] rfl (by (try simp only [List.map_toArray, List.map_cons, List.map_nil]); first | done | (simp only [hji33, hji34]; rfl) | rfl | (simp only [List.length_drop, List.length_take]; rfl)) ?_; (with_reducible refine (ints_Make.calls ji33 ji34 t1163 t1164 t1165 _ A35.out).mono ?_); rintro e w41 ⟨rfl, hb⟩; refine ⟨_, rfl, ?_⟩; replace BK1151 := kb BK1151 hb; replace BK1152 := kb BK1152 hb; replace BK1153 := kb BK1153 hb; replace HB := kh HB hb; (try clear hb); have ⟨hcz42_0, hcz42_1, hcz42_2, hfz42_0, hfz42_1, hfz42_2⟩ := kz3f BK1153))
        refine bodyPost_ret (results_cell_row rfl _ _ gb1153 23 #[.bool t1163, .int .i64 t1164, .int .i64 t1165] (0, 0) _ rfl (pK BK1153) Try.underlying23 rfl (by kernel_rfl)) rfl ?_
        exact ⟨by first | rfl | (simp [errW_none, errW_some] <;> rfl) | (simp only [← hji33, ← hji34]; first | rfl | (simp [errW_none, errW_some] <;> rfl)) | (simp [*, errW_none, errW_some] <;> rfl), pl HB⟩
/-! ### ints_Neg: function 48 -/
def ints_Neg.f (a0_0 : Bool) (a0_1 : Int) (a0_2 : Int) : Option (Bool × Int × Int) := (ints_norm.f a0_0 a0_1 a0_2).bind fun bt1303 => (if bt1303.1 = true then (some (bt1303.1, bt1303.2.1, bt1303.2.2)) else ((ints_Make.f (wrap64 (-bt1303.2.2)) (wrap64 (-bt1303.2.1))).bind fun bt1306 => (some (bt1306.1, bt1306.2.1, bt1306.2.2))))
set_option maxHeartbeats 8000000 in
set_option maxRecDepth 100000 in
theorem ints_Neg.calls (a0_0 : Bool) (a0_1 : Int) (a0_2 : Int) (r1 : Bool) (r2 : Int) (r3 : Int) (w : World) (h : ints_Neg.f a0_0 a0_1 a0_2 = some (r1, r2, r3)) :
    Calls Try.prog 48 #[.agg #[.bool a0_0, .int .i64 a0_1, .int .i64 a0_2]] w fun e w' => e = .returned (.agg #[.bool r1, .int .i64 r2, .int .i64 r3]) ∧ Below w.heap.size w w' := by
  have hu23 := Try.underlying23
  have HB := Aside0.mk (Below.refl w.heap.size w)
  have H := h
  clear h
  unfold ints_Neg.f at H
  obtain ⟨⟨t1303, t1304, t1305⟩, A20, H⟩ := Option.bind_eq_some_iff.mp H
  have A2 := Aside0.mk A20
  clear A20
  (try dsimp only at H)
  by_cases c3 : t1303 = true
  · subst c3
    rw [if_pos rfl] at H
    simp only [Option.some.injEq, Prod.mk.injEq] at H
    obtain ⟨rfl, rfl, rfl⟩ := H
    go_enter Try.func48, Try.ntmps48
    go_wp2_with (first | ((with_reducible refine gate_dst (N := 1) rfl ?_); refine kx 1 #[.bool a0_0, .int .i64 a0_1, .int .i64 a0_2] 23 ?_; intro gb1301 hg w4 hbox hb; have BK1301 := Aside0.mk (hbox); have GW1301 := kg HB hg; have GE1301 := kg HB hg; replace HB := kh HB hb; clear hb hbox hg) | ((with_reducible refine gate_dst (N := 2) rfl ?_); refine kx 2 #[.bool false, .int .i64 0, .int .i64 0] 23 ?_; intro gb1302 hg w5 hbox hb; have BK1302 := Aside0.mk (hbox); have GW1302 := kg HB hg; have GE1302 := kg HB hg; have NB1301_1302 := kn BK1301 hg; have NB1302_1301 := km BK1301 hg; replace BK1301 := kb BK1301 hb; replace HB := kh HB hb; clear hb hbox hg; have hnb6 := NB1301_1302.out; have hnc6 := NB1302_1301.out; have ⟨hcz7_0, hcz7_1, hcz7_2, hfz7_0, hfz7_1, hfz7_2⟩ := kz3f BK1301) | ((with_reducible refine gate_callee (f := 68) rfl ?_); refine kc (some 4) Try.func68 #[.agg #[.bool a0_0, .int .i64 a0_1, .int .i64 a0_2]] (ints_norm.calls a0_0 a0_1 a0_2 true t1304 t1305 _ A2.out) ?_; intro w8 hb; replace BK1301 := kb BK1301 hb; replace BK1302 := kb BK1302 hb; replace HB := kh HB hb; (try clear hb); have ⟨hcz9_0, hcz9_1, hcz9_2, hfz9_0, hfz9_1, hfz9_2⟩ := kz3f BK1301; have ⟨hcz10_0, hcz10_1, hcz10_2, hfz10_0, hfz10_1, hfz10_2⟩ := kz3f BK1302))
    refine bodyPost_ret (results_cell_row rfl _ _ gb1302 23 #[.bool true, .int .i64 t1304, .int .i64 t1305] (0, 0) _ rfl (pK BK1302) Try.underlying23 rfl (by kernel_rfl)) rfl ?_
    exact ⟨pe, pl HB⟩
  · replace c3 := Bool.eq_false_iff.mpr c3
    subst c3
    rw [if_neg (show ¬ (false = true) by decide)] at H
    obtain ⟨⟨t1306, t1307, t1308⟩, A110, H⟩ := Option.bind_eq_some_iff.mp H
    have A11 := Aside0.mk A110
    clear A110
    (try dsimp only at H)
    simp only [Option.some.injEq, Prod.mk.injEq] at H
    obtain ⟨rfl, rfl, rfl⟩ := H
    go_enter Try.func48, Try.ntmps48
    go_wp2_with (first | ((with_reducible refine gate_dst (N := 1) rfl ?_); refine kx 1 #[.bool a0_0, .int .i64 a0_1, .int .i64 a0_2] 23 ?_; intro gb1301 hg w12 hbox hb; have BK1301 := Aside0.mk (hbox); have GW1301 := kg HB hg; have GE1301 := kg HB hg; replace HB := kh HB hb; clear hb hbox hg) | ((with_reducible refine gate_dst (N := 2) rfl ?_); refine kx 2 #[.bool false, .int .i64 0, .int .i64 0] 23 ?_; intro gb1302 hg w13 hbox hb; have BK1302 := Aside0.mk (hbox); have GW1302 := kg HB hg; have GE1302 := kg HB hg; have NB1301_1302 := kn BK1301 hg; have NB1302_1301 := km BK1301 hg; replace BK1301 := kb BK1301 hb; replace HB := kh HB hb; clear hb hbox hg; have hnb14 := NB1301_1302.out; have hnc14 := NB1302_1301.out; have ⟨hcz15_0, hcz15_1, hcz15_2, hfz15_0, hfz15_1, hfz15_2⟩ := kz3f BK1301) | ((with_reducible refine gate_callee (f := 68) rfl ?_); refine kc (some 4) Try.func68 #[.agg #[.bool a0_0, .int .i64 a0_1, .int .i64 a0_2]] (ints_norm.calls a0_0 a0_1 a0_2 false t1304 t1305 _ A2.out) ?_; intro w16 hb; replace BK1301 := kb BK1301 hb; replace BK1302 := kb BK1302 hb; replace HB := kh HB hb; (try clear hb); have ⟨hcz17_0, hcz17_1, hcz17_2, hfz17_0, hfz17_1, hfz17_2⟩ := kz3f BK1301) | ((with_reducible refine gate_callee (f := 37) rfl ?_); refine kc (some 14) Try.func37 #[.int .i64 (wrap64 (-t1305)), .int .i64 (wrap64 (-t1304))] (ints_Make.calls (wrap64 (-t1305)) (wrap64 (-t1304)) t1306 t1307 t1308 _ A11.out) ?_; intro w18 hb; replace BK1301 := kb (o' := .cells #[.bool false, .int .i64 t1304, .int .i64 t1305] 23 (0, 0)) BK1301 hb; replace BK1302 := kb BK1302 hb; replace HB := kh HB hb; (try clear hb); have ⟨hcz19_0, hcz19_1, hcz19_2, hfz19_0, hfz19_1, hfz19_2⟩ := kz3f BK1302))
    refine bodyPost_ret (results_cell_row rfl _ _ gb1302 23 #[.bool t1306, .int .i64 t1307, .int .i64 t1308] (0, 0) _ rfl (pK BK1302) Try.underlying23 rfl (by kernel_rfl)) rfl ?_
    exact ⟨pe, pl HB⟩
/-! ### ints_Abs: function 50 -/
def ints_Abs.f (k : Nat) (a0_0 : Bool) (a0_1 : Int) (a0_2 : Int) : Option (Bool × Int × Int) := (ints_Make.f 0 1099511627776).bind fun bt1453 => ((ints_Meet.f k a0_0 a0_1 a0_2 bt1453.1 bt1453.2.1 bt1453.2.2).bind fun bt1457 => ((ints_Neg.f a0_0 a0_1 a0_2).bind fun bt1460 => ((ints_Meet.f k bt1460.1 bt1460.2.1 bt1460.2.2 bt1453.1 bt1453.2.1 bt1453.2.2).bind fun bt1463 => ((ints_Join.f k (([(⟨bt1457.1, bt1457.2.1, bt1457.2.2⟩ : S23), (⟨bt1463.1, bt1463.2.1, bt1463.2.2⟩ : S23)] : List (S23)))).bind fun bt1469 => (some (bt1469.1, bt1469.2.1, bt1469.2.2))))))
theorem ints_Abs.mono : ∀ a0 a1 a2 k, LeO (ints_Abs.f k a0 a1 a2) (ints_Abs.f (k + 1) a0 a1 a2) := by
  intro a0 a1 a2 k
  unfold ints_Abs.f
  repeat' first
      | (with_reducible exact ints_Join.mono _ _)
      | (with_reducible exact ints_Meet.mono _ _ _ _ _ _ _)
      | (with_reducible exact LeO.refl _)
      | (with_reducible exact LeO.none _)
      | (with_reducible refine LeO.ite ?_ ?_)
      | (with_reducible refine LeO.bind ?_ (fun _ => ?_))
      | exact ints_Join.mono _ _
      | exact ints_Meet.mono _ _ _ _ _ _ _
      | exact LeO.none _
      | refine LeO.ite ?_ ?_
      | refine LeO.bind ?_ (fun _ => ?_)
def ints_Abs.T2 : Bool × List (List Nat × List Nat) := (true, [([], []), ([], []), ([0, 1], [0, 1]), ([], []), ([3, 2], [3]), ([], []), ([4, 5, 4], [4, 5]), ([2, 6], [2, 6]), ([7, 6], [7]), ([8, 8, 0, 1, 2, 3, 4, 5, 6, 7, 8], [8])])
def ints_Abs.B2 : List Nat := [0, 0, 3, 0, 15, 0, 63, 127, 255, 511]
theorem ints_Abs.tab2 : rtab .any (opsOf Try.f50 2) = ints_Abs.T2 := by kernel_rfl
theorem ints_Abs.bits2 : waitsOk ints_Abs.T2.2 ints_Abs.B2 = true := by kernel_rfl
set_option maxHeartbeats 8000000 in
set_option maxRecDepth 100000 in
theorem ints_Abs.calls (k : Nat) (a0_0 : Bool) (a0_1 : Int) (a0_2 : Int) (r1 : Bool) (r2 : Int) (r3 : Int) (w : World) (h : ints_Abs.f k a0_0 a0_1 a0_2 = some (r1, r2, r3)) :
    Calls Try.prog 50 #[.agg #[.bool a0_0, .int .i64 a0_1, .int .i64 a0_2]] w fun e w' => e = .returned (.agg #[.bool r1, .int .i64 r2, .int .i64 r3]) ∧ Below w.heap.size w w' := by
  have hu23 := Try.underlying23
  have HB := Aside0.mk (Below.refl w.heap.size w)
  have H := h
  clear h
  unfold ints_Abs.f at H
  obtain ⟨⟨t1453, t1454, t1455⟩, A20, H⟩ := Option.bind_eq_some_iff.mp H
  have A2 := Aside0.mk A20
  clear A20
  (try dsimp only at H)
  obtain ⟨⟨t1457, t1458, t1459⟩, A30, H⟩ := Option.bind_eq_some_iff.mp H
  have A3 := Aside0.mk A30
  clear A30
  (try dsimp only at H)
  obtain ⟨⟨t1460, t1461, t1462⟩, A40, H⟩ := Option.bind_eq_some_iff.mp H
  have A4 := Aside0.mk A40
  clear A40
  (try dsimp only at H)
  obtain ⟨⟨t1463, t1464, t1465⟩, A50, H⟩ := Option.bind_eq_some_iff.mp H
  have A5 := Aside0.mk A50
  clear A50
  (try dsimp only at H)
  obtain ⟨y1466, hy1466⟩ : ∃ y_ : List (S23), y_ = (([(⟨t1457, t1458, t1459⟩ : S23), (⟨t1463, t1464, t1465⟩ : S23)] : List (S23))) := ⟨_, rfl⟩
  replace H : ((ints_Join.f k y1466).bind fun bt1469 => (some (bt1469.1, bt1469.2.1, bt1469.2.2))) = some (r1, r2, r3) := by first | (rw [hy1466]; with_reducible exact H) | (have H2_ := (Option.bind_some _ _).symm.trans H; rw [hy1466]; with_reducible exact H2_) | (have H2_ := (Option.bind_some _ _).symm.trans H; with_reducible exact H2_) | with_reducible exact H | (rw [hy1466]; exact H) | exact H
  have Ny1466 := Aside0.mk hy1466
  clear hy1466
  obtain ⟨⟨t1469, t1470, t1471⟩, A60, H⟩ := Option.bind_eq_some_iff.mp H
  have A6 := Aside0.mk A60
  clear A60
  (try dsimp only at H)
  simp only [Option.some.injEq, Prod.mk.injEq] at H
  obtain ⟨rfl, rfl, rfl⟩ := H
  go_enter Try.func50, Try.ntmps50
  try go_wp2_with (first | ((with_reducible refine gate_dst (N := 1) rfl ?_); refine kx 1 #[.bool a0_0, .int .i64 a0_1, .int .i64 a0_2] 23 ?_; intro gb1451 hg w7 hbox hb; have BK1451 := Aside0.mk (hbox); have GW1451 := kg HB hg; have GE1451 := kg HB hg; replace HB := kh HB hb; clear hb hbox hg) | ((with_reducible refine gate_dst (N := 2) rfl ?_); refine kx 2 #[.bool false, .int .i64 0, .int .i64 0] 23 ?_; intro gb1452 hg w8 hbox hb; have BK1452 := Aside0.mk (hbox); have GW1452 := kg HB hg; have GE1452 := kg HB hg; have NB1451_1452 := kn BK1451 hg; have NB1452_1451 := km BK1451 hg; replace BK1451 := kb BK1451 hb; replace HB := kh HB hb; clear hb hbox hg) | ((with_reducible refine gate_callee (f := 37) rfl ?_); refine kc (some 4) Try.func37 #[.int .i64 0, .int .i64 1099511627776] (ints_Make.calls 0 1099511627776 t1453 t1454 t1455 _ A2.out) ?_; intro w9 hb; replace BK1451 := kb BK1451 hb; replace BK1452 := kb BK1452 hb; replace HB := kh HB hb; (try clear hb); (try clear hb2); (try clear hk); (try clear hi)) | ((with_reducible refine gate_dst (N := 3) rfl ?_); refine kx 3 #[.bool false, .int .i64 0, .int .i64 0] 23 ?_; intro gb1456 hg w10 hbox hb; have BK1456 := Aside0.mk (hbox); have GW1456 := kg HB hg; have GE1456 := kg HB hg; have NB1451_1456 := kn BK1451 hg; have NB1456_1451 := km BK1451 hg; have NB1452_1456 := kn BK1452 hg; have NB1456_1452 := km BK1452 hg; replace BK1451 := kb BK1451 hb; replace BK1452 := kb BK1452 hb; replace HB := kh HB hb; clear hb hbox hg; have hnb11 := NB1456_1451.out; have hnc11 := NB1451_1456.out; have hnb12 := NB1456_1452.out; have hnc12 := NB1452_1456.out; have ⟨hcz13_0, hcz13_1, hcz13_2, hfz13_0, hfz13_1, hfz13_2⟩ := kz3f BK1456))
  generalize hW_ : (((w10.setCell ⟨gb1456, 0, none⟩ (.bool t1453)).setCell ⟨gb1456, 1, none⟩ (.int .i64 t1454)).setCell ⟨gb1456, 2, none⟩ (.int .i64 t1455)) = w14
  replace BK1451 := kr BK1451 hW_
  replace BK1452 := kr BK1452 hW_
  replace BK1456 := kr (o' := .cells #[.bool t1453, .int .i64 t1454, .int .i64 t1455] 23 (0, 0)) BK1456 hW_
  replace HB := kq HB hW_
  clear hW_
  replace BK1451 := Aside0.mk (blk_drew BK1451.out)
  replace BK1452 := Aside0.mk (blk_drew BK1452.out)
  replace BK1456 := Aside0.mk (blk_drew BK1456.out)
  replace HB := Aside0.mk (below_drew1 HB.out)
  refine start_ (n := 10) (S := fun w' => w'.cell? ⟨gb1451, 0, none⟩ = some (.bool a0_0) ∧ w'.cell? ⟨gb1451, 1, none⟩ = some (.int .i64 a0_1) ∧ w'.cell? ⟨gb1451, 2, none⟩ = some (.int .i64 a0_2) ∧ w'.cell? ⟨gb1456, 0, none⟩ = some (.bool t1453) ∧ w'.cell? ⟨gb1456, 1, none⟩ = some (.int .i64 t1454) ∧ w'.cell? ⟨gb1456, 2, none⟩ = some (.int .i64 t1455)) (ds := []) #[false, false, false, false, false, false, false, false, false, false] (by kernel_rfl) rfl rfl ⟨bc BK1451 0, bc BK1451 1, bc BK1451 2, bc BK1456 0, bc BK1456 1, bc BK1456 2⟩ (fun hHeld => ?_); refine with_tabW ints_Abs.tab2 ints_Abs.bits2 (fun HT_ HW_ => ?_)
  generalize w14.drew = w15 at BK1451 BK1452 BK1456 HB hHeld ⊢
  refine tak 0 (some 5) #[true, false, false, false, false, false, false, false, false, false] (take_ofW HT_.out HW_.out (by kernel_rfl)) hHeld ?_
  refine tak 1 (some 6) #[true, true, false, false, false, false, false, false, false, false] (take_ofW HT_.out HW_.out (by kernel_rfl)) hHeld ?_
  refine tak 3 (some 8) #[true, true, false, true, false, false, false, false, false, false] (take_ofW HT_.out HW_.out (by kernel_rfl)) hHeld ?_
  refine tak 5 (some 10) #[true, true, false, true, false, true, false, false, false, false] (take_ofW HT_.out HW_.out (by kernel_rfl)) hHeld ?_
  refine one_ (i := 2) (N := some 7) #[true, true, true, true, false, true, false, false, false, false] rfl rfl (one_of HT_.out (by kernel_rfl)) (by decide) (fun K hK => ?_)
  refine gc Try.func45 #[.agg #[.bool a0_0, .int .i64 a0_1, .int .i64 a0_2], .agg #[.bool t1453, .int .i64 t1454, .int .i64 t1455]] (ints_Meet.calls k a0_0 a0_1 a0_2 t1453 t1454 t1455 t1457 t1458 t1459 _ A3.out) ?_
  intro w16 hb
  replace BK1451 := kb BK1451 hb
  replace BK1452 := kb BK1452 hb
  replace BK1456 := kb BK1456 hb
  replace HB := kh HB hb
  (try clear hb)
  (try clear hb2)
  (try clear hk)
  (try clear hi)
  refine hK.out _ _ ⟨bc BK1451 0, bc BK1451 1, bc BK1451 2, bc BK1456 0, bc BK1456 1, bc BK1456 2⟩ (fun hHeld => ?_)
  clear hK K
  refine nrm (some 7) ?_
  refine one_ (i := 4) (N := some 9) #[true, true, true, true, true, true, false, false, false, false] rfl rfl (one_of HT_.out (by kernel_rfl)) (by decide) (fun K hK => ?_)
  refine gc Try.func48 #[.agg #[.bool a0_0, .int .i64 a0_1, .int .i64 a0_2]] (ints_Neg.calls a0_0 a0_1 a0_2 t1460 t1461 t1462 _ A4.out) ?_
  intro w17 hb
  replace BK1451 := kb BK1451 hb
  replace BK1452 := kb BK1452 hb
  replace BK1456 := kb BK1456 hb
  replace HB := kh HB hb
  (try clear hb)
  (try clear hb2)
  (try clear hk)
  (try clear hi)
  refine hK.out _ _ ⟨bc BK1451 0, bc BK1451 1, bc BK1451 2, bc BK1456 0, bc BK1456 1, bc BK1456 2⟩ (fun hHeld => ?_)
  clear hK K
  refine nrm (some 9) ?_
  refine one_ (i := 6) (N := some 11) #[true, true, true, true, true, true, true, false, false, false] rfl rfl (one_of HT_.out (by kernel_rfl)) (by decide) (fun K hK => ?_)
  refine gc Try.func45 #[.agg #[.bool t1460, .int .i64 t1461, .int .i64 t1462], .agg #[.bool t1453, .int .i64 t1454, .int .i64 t1455]] (ints_Meet.calls k t1460 t1461 t1462 t1453 t1454 t1455 t1463 t1464 t1465 _ A5.out) ?_
  intro w18 hb
  replace BK1451 := kb BK1451 hb
  replace BK1452 := kb BK1452 hb
  replace BK1456 := kb BK1456 hb
  replace HB := kh HB hb
  (try clear hb)
  (try clear hb2)
  (try clear hk)
  (try clear hi)
  refine hK.out _ _ ⟨bc BK1451 0, bc BK1451 1, bc BK1451 2, bc BK1456 0, bc BK1456 1, bc BK1456 2⟩ (fun hHeld => ?_)
  clear hK K
  refine nrm (some 11) ?_
  refine one_ (i := 7) (N := some 12) #[true, true, true, true, true, true, true, true, false, false] rfl rfl (one_of HT_.out (by kernel_rfl)) (by decide) (fun K hK => ?_)
  refine Kd.R_lit_step k23 _ 23 ?hg (N := 12) ?hd (xs := ([(⟨t1457, t1458, t1459⟩ : S23), (⟨t1463, t1464, t1465⟩ : S23)] : List (S23))) (inner := [.bool t1457, .int .i64 t1458, .int .i64 t1459, .bool t1463, .int .i64 t1464, .int .i64 t1465]) (ok := fun _ => True) (okp := fun _ => True) ?hr ?hp (fun _ hk => hk) trivial (Below.refl _ _) (Nat.le_refl _) (by simp) ?_; (case hd => rfl); (case hg => rfl); (case hr => first | (go_simp; done) | (go_simp; rfl)); (case hp => exact (Reps.c3 (show Kd.M k23 _ _ _ (⟨t1457, t1458, t1459⟩ : S23) [.bool t1457, .int .i64 t1458, .int .i64 t1459] from (k23_mkM _ _ _ (⟨t1457, t1458, t1459⟩ : S23) )) (Reps.c3 (show Kd.M k23 _ _ _ (⟨t1463, t1464, t1465⟩ : S23) [.bool t1463, .int .i64 t1464, .int .i64 t1465] from (k23_mkM _ _ _ (⟨t1463, t1464, t1465⟩ : S23) )) (Reps.none _ _))))
  intro v1467 w19 ho20 hb hg_ hnew_
  clear hg_ hnew_
  (first | rw [← Ny1466.out] at ho20 | (simp only [Int.reduceToNat] at ho20; rw [← Ny1466.out] at ho20))
  have HO1468 := Aside0.mk (Kd.R_lower (Kd.R_newB (Kd.R_newB (Kd.R_newB ho20 (g := gb1451) (o := .cells #[.bool a0_0, .int .i64 a0_1, .int .i64 a0_2] 23 (0, 0)) (pk BK1451)) (g := gb1452) (o := .cells #[.bool false, .int .i64 0, .int .i64 0] 23 (0, 0)) (pk BK1452)) (g := gb1456) (o := .cells #[.bool t1453, .int .i64 t1454, .int .i64 t1455] 23 (0, 0)) (pk BK1456)) (below_size (pl HB)))
  replace BK1451 := kb BK1451 hb
  replace BK1452 := kb BK1452 hb
  replace BK1456 := kb BK1456 hb
  replace HB := kh HB hb
  clear hb ho20
  obtain ⟨Ao21, co21, eo21⟩ := Kd.R_slice HO1468.out
  (first | subst eo21 | (injection eo21 with f1_ f2_ f3_; have f4_ := f1_.symm; have f5_ := f3_.symm; clear f1_ f2_ f3_; subst f4_; subst f5_))
  refine hK.out _ _ ⟨bc BK1451 0, bc BK1451 1, bc BK1451 2, bc BK1456 0, bc BK1456 1, bc BK1456 2⟩ (fun hHeld => ?_)
  clear hK K
  refine nrm (some 12) ?_
  refine one_ (i := 8) (N := some 13) #[true, true, true, true, true, true, true, true, true, false] rfl rfl (one_of HT_.out (by kernel_rfl)) (by decide) (fun K hK => ?_)
  refine goes_ Try.func43 (by kernel_rfl) rfl #[.slice Ao21 y1466.length co21] (by rfl) rfl rfl pa ?_
  with_reducible refine (ints_Join.calls k _ _ y1466 t1469 t1470 t1471 _ ?side1 ?side2 A6.out).mono ?_
  (case side1 => repeat (first | exact (Kd.R_reads' HO1468.out).2.2 | (with_reducible refine Kd.C_alloc ?_ _) | (with_reducible refine Kd.C_drewN ?_ _) | (with_reducible refine Kd.C_drew ?_)))
  (case side2 => exact (Kd.R_reads' HO1468.out).2.1)
  rintro e w22 ⟨rfl, hb⟩
  refine ⟨_, rfl, ?_⟩
  have n0_ := Aside0.mk (Kd.R_below (by (with_reducible repeat (first | apply Kd.R_alloc | apply Kd.R_drewN | apply Kd.R_drew)); exact HO1468.out) hb)
  have n1_ := kb BK1451 hb
  have n2_ := kb BK1452 hb
  have n3_ := kb BK1456 hb
  have n4_ := kh HB hb
  clear HO1468
  clear BK1451
  clear BK1452
  clear BK1456
  clear HB
  have HO1468 := n0_
  have BK1451 := n1_
  have BK1452 := n2_
  have BK1456 := n3_
  have HB := n4_
  clear n0_ n1_ n2_ n3_ n4_
  (try clear hb)
  (try clear hb2)
  (try clear hk)
  (try clear hi)
  refine hK.out _ _ ⟨bc BK1451 0, bc BK1451 1, bc BK1451 2, bc BK1456 0, bc BK1456 1, bc BK1456 2⟩ (fun hHeld => ?_)
  clear hK K
  refine nrm (some 13) ?_
  refine one_ (i := 9) (N := none) #[true, true, true, true, true, true, true, true, true, true] rfl rfl (one_of HT_.out (by kernel_rfl)) (by decide) (fun K hK => ?_)
  have hs23 : w22.cell? ⟨gb1452, 0, none⟩ = some (.bool false) := bc BK1452 0
  have hfs23 := blk_frozen BK1452.out 0
  have hns23_0 := NB1451_1452.out
  have hns23_2 := NB1456_1452.out
  have hms23_0 := NB1452_1451.out
  have hms23_2 := NB1452_1456.out
  have hs24 : w22.cell? ⟨gb1452, 1, none⟩ = some (.int .i64 0) := bc BK1452 1
  have hfs24 := blk_frozen BK1452.out 1
  have hs25 : w22.cell? ⟨gb1452, 2, none⟩ = some (.int .i64 0) := bc BK1452 2
  have hfs25 := blk_frozen BK1452.out 2
  refine skip_ (w1 := ?_) (by rfl) rfl ?_ ?_
  rotate_left
  · go_simp
    rfl
  refine hK.out _ _ ⟨cf hHeld.1, cf hHeld.2.1, cf hHeld.2.2.1, cf hHeld.2.2.2.1, cf hHeld.2.2.2.2.1, cf hHeld.2.2.2.2.2⟩ (fun hHeld => ?_)
  clear hK K
  refine done_ (done_of HT_.out (by kernel_rfl)) ?_
  try go_wp2
  refine bodyPost_ret (results_cell_row rfl _ _ gb1452 23 #[.bool t1469, .int .i64 t1470, .int .i64 t1471] (0, 0) _ rfl (pK BK1452) Try.underlying23 rfl (by kernel_rfl)) rfl ?_
  exact ⟨pe, pl HB⟩
/-! ### ints_clip: function 80 -/
def ints_clip.f (a0 : Int) : Option (Int) := some (mx (mn a0 1099511627776) (-1099511627776))
set_option maxHeartbeats 8000000 in
set_option maxRecDepth 100000 in
theorem ints_clip.calls (a0 : Int) (r : Int) (w : World) (h : ints_clip.f a0 = some r) :
    Calls Try.prog 80 #[.int .i64 a0] w fun e w' => e = .returned (.int .i64 r) ∧ Below w.heap.size w w' := by
  have HB := Aside0.mk (Below.refl w.heap.size w)
  have H := h
  clear h
  unfold ints_clip.f at H
  obtain ⟨ji2, hji2⟩ : ∃ j_ : Int, (mn a0 1099511627776) = j_ := ⟨_, rfl⟩
  replace H : (some (mx (ji2) (-1099511627776))) = some r := by first | (rw [hji2] at H; exact H) | (simp only [hji2] at H ⊢; exact H)
  (try (have hji2h : ji2 ≤ 1099511627776 := by (rw [← hji2]; unfold mn; (repeat' split) <;> omega)))
  (try (have hji2g : ji2 ≤ 64 := by omega))
  have hji2_ : (if 1099511627776 < a0 then 1099511627776 else a0) = ji2 := hji2
  obtain ⟨ji3, hji3⟩ : ∃ j_ : Int, (mx (ji2) (-1099511627776)) = j_ := ⟨_, rfl⟩
  replace H : (some ji3) = some r := by first | (rw [hji3] at H; exact H) | (simp only [hji3] at H ⊢; exact H)
  have hji3_ : (if (ji2) < (-1099511627776) then (-1099511627776) else (ji2)) = ji3 := hji3
  obtain rfl := Option.some.inj H
  go_enter Try.func80, Try.ntmps80
  go_wp2
  go_ret
  exact ⟨by first | rfl | (simp [errW_none, errW_some] <;> rfl) | (simp only [← hji2, ← hji3]; first | rfl | (simp [errW_none, errW_some] <;> rfl)) | (simp [*, errW_none, errW_some] <;> rfl), pl HB⟩
end Go.Proofs.Ytinmgnlofininaa.PAll
end
