/- Functions of the print, turned to this claim. -/
import Derived.Test.YtdchdapllehppaaZSW
import Derived.Test.YtdchdapllehppaaZSx0
import Derived.Test.YtdchdapllehppaaZSx2
import Derived.Test.YtdchdapllehppaaZSx7
import Derived.Test.YtdchdapllehppaaZSx9
section
namespace Go.Proofs.Ytdchdapllehppaa.PAll
open Go.RowKit Go.Proofs.YtdchdapllehppaaW.PrintWords Go.Proofs.YtdchdapllehppaaW.PrintLast Go.Proofs.YtdchdapllehppaaW.PrintMore
attribute [local go_sem] max2_int min2_int max_two min_two max_three min_three max_four min_four   -- for this text's walks alone
set_option linter.unusedVariables false
set_option linter.unusedSimpArgs false
attribute [local go_sem high] eqA26
/-! ### wide_U192_Shr: function 41 -/
def wide_U192_Shr.l0 : Nat → Int → Bool → Int → Int → Int → Option (Int × Int × Int × Bool)
  | 0, _, _, _, _, _ => none
  | k + 1, x1, x6, x3402000, x3402001, x3402002 => if x1 ≥ 64 then (if x6 = true then (if (x3402000 == 0 && (x3402001 == 0)) = true then (some (0, x3402000, x3402001, true)) else (wide_U192_Shr.l0 k (wrap64 (x1 - 64)) true 0 x3402000 x3402001)) else (if (x3402000 == 0 && (x3402001 == 0)) = true then (some (0, x3402000, x3402001, (x3402002 != 0))) else (wide_U192_Shr.l0 k (wrap64 (x1 - 64)) (x3402002 != 0) 0 x3402000 x3402001))) else (if x1 ≤ 0 then (some (x3402000, x3402001, x3402002, x6)) else ((wide_U192_top.f x3402000 x3402001 x3402002).bind fun bt3403 => ((wide_U128_Shr.f k bt3403.1 bt3403.2 x1).bind fun bt3405 => (if 0 ≤ x1 then (if 0 ≤ (wrap64 (64 - x1)) then (if x6 = true then (some (bt3405.1, bt3405.2.1, Go.bits .or .u64 (shr .u64 x3402002 x1) (shl .u64 x3402001 (wrap64 (64 - x1))), true)) else (some (bt3405.1, bt3405.2.1, Go.bits .or .u64 (shr .u64 x3402002 x1) (shl .u64 x3402001 (wrap64 (64 - x1))), ((shl .u64 x3402002 (wrap64 (64 - x1))) != 0)))) else (none)) else (none)))))
def wide_U192_Shr.f (k : Nat) (a0_0 : Int) (a0_1 : Int) (a0_2 : Int) (a1 : Int) : Option (Int × Int × Int × Bool) := wide_U192_Shr.l0 k a1 false a0_0 a0_1 a0_2
theorem wide_U192_Shr.mono_l : ∀ k, (∀ y0 y1 y2 y3 y4, LeO (wide_U192_Shr.l0 k y0 y1 y2 y3 y4) (wide_U192_Shr.l0 (k + 1) y0 y1 y2 y3 y4))
  | 0 => fun _ _ _ _ _ r h => by simp [wide_U192_Shr.l0] at h
  | k + 1 => by
    have ih0 := wide_U192_Shr.mono_l k
    · intro y0 y1 y2 y3 y4
      unfold wide_U192_Shr.l0
      repeat' first
      | (with_reducible exact ih0 _ _ _ _ _)
      | (with_reducible exact wide_U128_Shr.mono _ _ _ _)
      | (with_reducible exact LeO.refl _)
      | (with_reducible exact LeO.none _)
      | (with_reducible refine LeO.ite ?_ ?_)
      | (with_reducible refine LeO.bind ?_ (fun _ => ?_))
      | exact ih0 _ _ _ _ _
      | exact wide_U128_Shr.mono _ _ _ _
      | exact LeO.none _
      | refine LeO.ite ?_ ?_
      | refine LeO.bind ?_ (fun _ => ?_)
theorem wide_U192_Shr.mono : ∀ a0 a1 a2 a3 k, LeO (wide_U192_Shr.f k a0 a1 a2 a3) (wide_U192_Shr.f (k + 1) a0 a1 a2 a3) := by
  intro a0 a1 a2 a3 k
  have ih0 := wide_U192_Shr.mono_l k
  unfold wide_U192_Shr.f
  repeat' first
      | (with_reducible exact ih0 _ _ _ _ _)
      | (with_reducible exact wide_U128_Shr.mono _ _ _ _)
      | (with_reducible exact LeO.refl _)
      | (with_reducible exact LeO.none _)
      | (with_reducible refine LeO.ite ?_ ?_)
      | (with_reducible refine LeO.bind ?_ (fun _ => ?_))
      | exact ih0 _ _ _ _ _
      | exact wide_U128_Shr.mono _ _ _ _
      | exact LeO.none _
      | refine LeO.ite ?_ ?_
      | refine LeO.bind ?_ (fun _ => ?_)
def wide_U192_Shr.T11 : Bool × List (List Nat × List Nat) := (true, [([], []), ([0], [0]), ([], []), ([2], [2]), ([], []), ([4], [4]), ([], []), ([5, 6], [5, 6]), ([], []), ([8], [8]), ([], []), ([10], [10]), ([9, 11], [9, 11]), ([7, 12], [7, 12]), ([1, 3, 13], [1, 3, 13]), ([], []), ([15], [15]), ([16], [16]), ([17, 16], [16, 17]), ([16], [16]), ([19, 16], [16, 19]), ([18, 20, 16], [16, 18, 20]), ([21, 16], [16, 21]), ([16, 22], [16, 22]), ([14, 16, 0, 1, 2, 3, 4, 5, 6, 7, 8, 9, 10, 11, 12, 13, 14], [14]), ([23, 24, 0, 1, 2, 3, 4, 5, 6, 7, 8, 9, 10, 11, 12, 13, 14, 15, 16, 17, 18, 19, 20, 21, 22, 23, 24], [23])])
def wide_U192_Shr.B11 : List Nat := [0, 1, 0, 4, 0, 16, 0, 112, 0, 256, 0, 1024, 3840, 8176, 16383, 0, 32768, 98304, 229376, 98304, 622592, 2064384, 4161536, 8355840, 131071, 33554431]
theorem wide_U192_Shr.tab11 : rtab .any (opsOf Try.f41 11) = wide_U192_Shr.T11 := by kernel_rfl
theorem wide_U192_Shr.bits11 : waitsOk wide_U192_Shr.T11.2 wide_U192_Shr.B11 = true := by kernel_rfl
set_option maxHeartbeats 8000000 in
set_option maxRecDepth 100000 in
theorem wide_U192_Shr.calls (k : Nat) (a0_0 : Int) (a0_1 : Int) (a0_2 : Int) (a1 : Int) (r1 : Int) (r2 : Int) (r3 : Int) (r4 : Bool) (w : World) (h : wide_U192_Shr.f k a0_0 a0_1 a0_2 a1 = some (r1, r2, r3, r4)) :
    Calls Try.prog 41 #[.agg #[.int .u64 a0_0, .int .u64 a0_1, .int .u64 a0_2], .int .i64 a1] w fun e w' => e = .returned (.tuple #[.agg #[.int .u64 r1, .int .u64 r2, .int .u64 r3], .bool r4]) ∧ Below w.heap.size w w' := by
  have hu26 := Try.underlying26
  have hu24 := Try.underlying24
  have HB := Aside0.mk (Below.refl w.heap.size w)
  have H := h
  clear h
  unfold wide_U192_Shr.f at H
  have H' := Aside0.mk H
  clear H
  go_enter Try.func41, Try.ntmps41
  go_wp2_with (first | ((with_reducible refine gate_dst (N := 2) rfl ?_); refine kx 2 #[.int .u64 a0_0, .int .u64 a0_1, .int .u64 a0_2] 26 ?_; intro gb3401 hg w3 hbox hb; have BK3401 := Aside0.mk (hbox); have GW3401 := kg HB hg; have GE3401 := kg HB hg; replace HB := kh HB hb; clear hb hbox hg) | ((with_reducible refine gate_dst (N := 4) rfl ?_); refine kx 4 #[.int .u64 0, .int .u64 0, .int .u64 0] 26 ?_; intro gb3402 hg w4 hbox hb; have BK3402 := Aside0.mk (hbox); have GW3402 := kg HB hg; have GE3402 := kg HB hg; have NB3401_3402 := kn BK3401 hg; have NB3402_3401 := km BK3401 hg; replace BK3401 := kb BK3401 hb; replace HB := kh HB hb; clear hb hbox hg))
  go_loopg [1, 6] k (fun kq v1 v6 w' => ∃ (x1_1 : Int) (x6_1 : Bool) (x3402000_1 : Int) (x3402001_1 : Int) (x3402002_1 : Int) (x3403000_1 : Int) (x3403001_1 : Int) (x3403002_1 : Int), v1 = .int .i64 x1_1 ∧ v6 = .bool x6_1 ∧ Aside0 (wide_U192_Shr.l0 kq x1_1 x6_1 x3402000_1 x3402001_1 x3402002_1 = some (r1, r2, r3, r4)) ∧ Aside0 (kq ≤ k) ∧ Aside0 (w'.heap[gb3401]? = some (.cells #[.int .u64 x3402000_1, .int .u64 x3402001_1, .int .u64 x3402002_1] 26 (0, 0))) ∧ Aside0 (w'.heap[gb3402]? = some (.cells #[.int .u64 x3403000_1, .int .u64 x3403001_1, .int .u64 x3403002_1] 26 (0, 0))) ∧ Aside0 (Below w.heap.size w w'))
  case atStart => exact ⟨(a1), (false), (a0_0), (a0_1), (a0_2), (0), (0), (0), (by first | rfl | (simp; done) | (simp [*]; done)), (by first | rfl | (simp; done) | (simp [*]; done)), H', ⟨Nat.le_refl _⟩, ⟨pk BK3401⟩, ⟨pk BK3402⟩, ⟨pl HB⟩⟩
  case round =>
    clear H'
    try clear p2
    try clear c4
    obtain ⟨x1_1, x6_1, x3402000_1, x3402001_1, x3402002_1, x3403000_1, x3403001_1, x3403002_1, rfl, rfl, HA, HK1, BK3401, BK3402, HB⟩ := hrel
    cases gk with
    | zero => exact absurd HA.out (by simp [wide_U192_Shr.l0])
    | succ k1 =>
      have H := HA.out
      clear HA
      simp only [wide_U192_Shr.l0] at H
      by_cases c5 : x1_1 ≥ 64
      · rw [if_pos c5] at H
        have c5b0 : decide (64 ≤ x1_1) = true := decide_eq_true c5
        clear c5
        by_cases c6 : x6_1 = true
        · subst c6
          rw [if_pos rfl] at H
          by_cases c7 : (x3402000_1 == 0 && (x3402001_1 == 0)) = true
          · rw [if_pos c7] at H
            have c7b0 : (x3402000_1 == 0 && (x3402001_1 == 0)) = true := c7
            (try (have c7b1 : decide (x3402000_1 = 0 && (x3402001_1 == 0)) = true := by simpa using c7))
            (try (have c7b2 : (x3402000_1 == 0 && (x3402001_1 == 0)) = true := by simpa using c7))
            clear c7
            simp only [Option.some.injEq, Prod.mk.injEq] at H
            obtain ⟨rfl, rfl, rfl, rfl⟩ := H
            have hnb8 := NB3401_3402.out
            have hnc8 := NB3402_3401.out
            have hcz9_0 : wr.cell? ⟨gb3401, 0, none⟩ = some (.int .u64 x3402000_1) := bc BK3401 0
            have hcz9_1 : wr.cell? ⟨gb3401, 1, none⟩ = some (.int .u64 x3402001_1) := bc BK3401 1
            have hcz9_2 : wr.cell? ⟨gb3401, 2, none⟩ = some (.int .u64 x3402002_1) := bc BK3401 2
            have hfz9_0 := blk_frozen BK3401.out 0
            have hfz9_1 := blk_frozen BK3401.out 1
            have hfz9_2 := blk_frozen BK3401.out 2
            have hcz10_0 : wr.cell? ⟨gb3402, 0, none⟩ = some (.int .u64 x3403000_1) := bc BK3402 0
            have hcz10_1 : wr.cell? ⟨gb3402, 1, none⟩ = some (.int .u64 x3403001_1) := bc BK3402 1
            have hcz10_2 : wr.cell? ⟨gb3402, 2, none⟩ = some (.int .u64 x3403002_1) := bc BK3402 2
            have hfz10_0 := blk_frozen BK3402.out 0
            have hfz10_1 := blk_frozen BK3402.out 1
            have hfz10_2 := blk_frozen BK3402.out 2
            go_wp2
            refine bodyPost_ret (results_ct rfl _ _ gb3402 26 #[.int .u64 0, .int .u64 x3402000_1, .int .u64 x3402001_1] (0, 0) _ rfl (pK BK3402) Try.underlying26 rfl (by kernel_rfl)) rfl ?_
            exact ⟨pe, pl HB⟩
          · rw [if_neg c7] at H
            have c7b0 : (x3402000_1 == 0 && (x3402001_1 == 0)) = false := by simpa using c7
            (try (have c7b1 : decide (x3402000_1 = 0 && (x3402001_1 == 0)) = false := by simpa using c7))
            (try (have c7b2 : (x3402000_1 == 0 && (x3402001_1 == 0)) = false := by simpa using c7))
            (try (have c7b3 : ¬ (x3402000_1 = 0 && (x3402001_1 == 0)) := by simpa using c7))
            clear c7
            have H' := Aside0.mk H
            clear H
            have hnb11 := NB3401_3402.out
            have hnc11 := NB3402_3401.out
            have hcz12_0 : wr.cell? ⟨gb3401, 0, none⟩ = some (.int .u64 x3402000_1) := bc BK3401 0
            have hcz12_1 : wr.cell? ⟨gb3401, 1, none⟩ = some (.int .u64 x3402001_1) := bc BK3401 1
            have hcz12_2 : wr.cell? ⟨gb3401, 2, none⟩ = some (.int .u64 x3402002_1) := bc BK3401 2
            have hfz12_0 := blk_frozen BK3401.out 0
            have hfz12_1 := blk_frozen BK3401.out 1
            have hfz12_2 := blk_frozen BK3401.out 2
            go_wp2
            go_roundg k1
            case measure => have := HK1.out; omega
            case rel => exact ⟨(wrap64 (x1_1 - 64)), (true), (0), (x3402000_1), (x3402001_1), (x3403000_1), (x3403001_1), (x3403002_1), (by first | rfl | (simp; done) | (simp [*]; done)), (by first | rfl | (simp; done) | (simp [*]; done)), H', ⟨by have := HK1.out; omega⟩, ⟨pK BK3401⟩, ⟨pk BK3402⟩, ⟨pl HB⟩⟩
        · replace c6 := Bool.eq_false_iff.mpr c6
          subst c6
          rw [if_neg (show ¬ (false = true) by decide)] at H
          by_cases c13 : (x3402000_1 == 0 && (x3402001_1 == 0)) = true
          · rw [if_pos c13] at H
            have c13b0 : (x3402000_1 == 0 && (x3402001_1 == 0)) = true := c13
            (try (have c13b1 : decide (x3402000_1 = 0 && (x3402001_1 == 0)) = true := by simpa using c13))
            (try (have c13b2 : (x3402000_1 == 0 && (x3402001_1 == 0)) = true := by simpa using c13))
            clear c13
            simp only [Option.some.injEq, Prod.mk.injEq] at H
            obtain ⟨rfl, rfl, rfl, rfl⟩ := H
            have hnb14 := NB3401_3402.out
            have hnc14 := NB3402_3401.out
            have hcz15_0 : wr.cell? ⟨gb3401, 0, none⟩ = some (.int .u64 x3402000_1) := bc BK3401 0
            have hcz15_1 : wr.cell? ⟨gb3401, 1, none⟩ = some (.int .u64 x3402001_1) := bc BK3401 1
            have hcz15_2 : wr.cell? ⟨gb3401, 2, none⟩ = some (.int .u64 x3402002_1) := bc BK3401 2
            have hfz15_0 := blk_frozen BK3401.out 0
            have hfz15_1 := blk_frozen BK3401.out 1
            have hfz15_2 := blk_frozen BK3401.out 2
            have hcz16_0 : wr.cell? ⟨gb3402, 0, none⟩ = some (.int .u64 x3403000_1) := bc BK3402 0
            have hcz16_1 : wr.cell? ⟨gb3402, 1, none⟩ = some (.int .u64 x3403001_1) := bc BK3402 1
            have hcz16_2 : wr.cell? ⟨gb3402, 2, none⟩ = some (.int .u64 x3403002_1) := bc BK3402 2
            have hfz16_0 := blk_frozen BK3402.out 0
            have hfz16_1 := blk_frozen BK3402.out 1
            have hfz16_2 := blk_frozen BK3402.out 2
            go_wp2
            refine bodyPost_ret (results_ct rfl _ _ gb3402 26 #[.int .u64 0, .int .u64 x3402000_1, .int .u64 x3402001_1] (0, 0) _ rfl (pK BK3402) Try.underlying26 rfl (by kernel_rfl)) rfl ?_
            exact ⟨pe, pl HB⟩
          · rw [if_neg c13] at H
            have c13b0 : (x3402000_1 == 0 && (x3402001_1 == 0)) = false := by simpa using c13
            (try (have c13b1 : decide (x3402000_1 = 0 && (x3402001_1 == 0)) = false := by simpa using c13))
            (try (have c13b2 : (x3402000_1 == 0 && (x3402001_1 == 0)) = false := by simpa using c13))
            (try (have c13b3 : ¬ (x3402000_1 = 0 && (x3402001_1 == 0)) := by simpa using c13))
            clear c13
            have H' := Aside0.mk H
            clear H
            have hnb17 := NB3401_3402.out
            have hnc17 := NB3402_3401.out
            have hcz18_0 : wr.cell? ⟨gb3401, 0, none⟩ = some (.int .u64 x3402000_1) := bc BK3401 0
            have hcz18_1 : wr.cell? ⟨gb3401, 1, none⟩ = some (.int .u64 x3402001_1) := bc BK3401 1
            have hcz18_2 : wr.cell? ⟨gb3401, 2, none⟩ = some (.int .u64 x3402002_1) := bc BK3401 2
            have hfz18_0 := blk_frozen BK3401.out 0
            have hfz18_1 := blk_frozen BK3401.out 1
            have hfz18_2 := blk_frozen BK3401.out 2
            go_wp2
            go_roundg k1
            case measure => have := HK1.out; omega
            case rel => exact ⟨(wrap64 (x1_1 - 64)), ((x3402002_1 != 0)), (0), (x3402000_1), (x3402001_1), (x3403000_1), (x3403001_1), (x3403002_1), (by first | rfl | (simp; done) | (simp [*]; done)), (by first | rfl | (simp; done) | (simp [*]; done)), H', ⟨by have := HK1.out; omega⟩, ⟨pK BK3401⟩, ⟨pk BK3402⟩, ⟨pl HB⟩⟩
      · rw [if_neg c5] at H
        have c5b0 : decide (64 ≤ x1_1) = false := decide_eq_false c5
        clear c5
        by_cases c19 : x1_1 ≤ 0
        · rw [if_pos c19] at H
          have c19b0 : decide (x1_1 ≤ 0) = true := decide_eq_true c19
          clear c19
          simp only [Option.some.injEq, Prod.mk.injEq] at H
          obtain ⟨rfl, rfl, rfl, rfl⟩ := H
          have hnb20 := NB3401_3402.out
          have hnc20 := NB3402_3401.out
          have hcz21_0 : wr.cell? ⟨gb3401, 0, none⟩ = some (.int .u64 x3402000_1) := bc BK3401 0
          have hcz21_1 : wr.cell? ⟨gb3401, 1, none⟩ = some (.int .u64 x3402001_1) := bc BK3401 1
          have hcz21_2 : wr.cell? ⟨gb3401, 2, none⟩ = some (.int .u64 x3402002_1) := bc BK3401 2
          have hfz21_0 := blk_frozen BK3401.out 0
          have hfz21_1 := blk_frozen BK3401.out 1
          have hfz21_2 := blk_frozen BK3401.out 2
          have hcz22_0 : wr.cell? ⟨gb3402, 0, none⟩ = some (.int .u64 x3403000_1) := bc BK3402 0
          have hcz22_1 : wr.cell? ⟨gb3402, 1, none⟩ = some (.int .u64 x3403001_1) := bc BK3402 1
          have hcz22_2 : wr.cell? ⟨gb3402, 2, none⟩ = some (.int .u64 x3403002_1) := bc BK3402 2
          have hfz22_0 := blk_frozen BK3402.out 0
          have hfz22_1 := blk_frozen BK3402.out 1
          have hfz22_2 := blk_frozen BK3402.out 2
          go_wp2
          refine bodyPost_ret (results_ct rfl _ _ gb3402 26 #[.int .u64 x3402000_1, .int .u64 x3402001_1, .int .u64 x3402002_1] (0, 0) _ rfl (pK BK3402) Try.underlying26 rfl (by kernel_rfl)) rfl ?_
          exact ⟨pe, pl HB⟩
        · rw [if_neg c19] at H
          have c19b0 : decide (x1_1 ≤ 0) = false := decide_eq_false c19
          clear c19
          obtain ⟨⟨t3403, t3404⟩, A230, H⟩ := Option.bind_eq_some_iff.mp H
          have A23 := Aside0.mk A230
          clear A230
          (try dsimp only at H)
          obtain ⟨⟨t3405, t3406, t3407⟩, A240, H⟩ := Option.bind_eq_some_iff.mp H
          have A24 := Aside0.mk A240
          clear A240
          (try dsimp only at H)
          by_cases c25 : 0 ≤ x1_1
          · rw [if_pos c25] at H
            have c25b0 := eq_true c25
            have c25b1 : decide (0 ≤ x1_1) = true := decide_eq_true c25
            clear c25
            obtain ⟨ji26, hji26⟩ : ∃ j_ : Int, (shr .u64 x3402002_1 x1_1) = j_ := ⟨_, rfl⟩
            replace H : (if 0 ≤ (wrap64 (64 - x1_1)) then (if x6_1 = true then (some (t3405, t3406, Go.bits .or .u64 (ji26) (shl .u64 x3402001_1 (wrap64 (64 - x1_1))), true)) else (some (t3405, t3406, Go.bits .or .u64 (ji26) (shl .u64 x3402001_1 (wrap64 (64 - x1_1))), ((shl .u64 x3402002_1 (wrap64 (64 - x1_1))) != 0)))) else (none)) = some (r1, r2, r3, r4) := by first | (rw [hji26] at H; exact H) | (simp only [hji26] at H ⊢; exact H)
            (try rw [hji26] at A23)
            (try rw [hji26] at A24)
            have hji26_ : (x3402002_1 / 2 ^ min x1_1.toNat 64) = ji26 := hji26
            have hji26z : x1_1 ≤ 64 → (x3402002_1 / 2 ^ x1_1.toNat) = ji26 := shr_small hji26
            obtain ⟨ji27, hji27⟩ : ∃ j_ : Int, (wrap64 (64 - x1_1)) = j_ := ⟨_, rfl⟩
            replace H : (if 0 ≤ (ji27) then (if x6_1 = true then (some (t3405, t3406, Go.bits .or .u64 (ji26) (shl .u64 x3402001_1 (ji27)), true)) else (some (t3405, t3406, Go.bits .or .u64 (ji26) (shl .u64 x3402001_1 (ji27)), ((shl .u64 x3402002_1 (ji27)) != 0)))) else (none)) = some (r1, r2, r3, r4) := by first | (rw [hji27] at H; exact H) | (simp only [hji27] at H ⊢; exact H)
            (try rw [hji27] at A23)
            (try rw [hji27] at A24)
            have hji27w : (IntKind.i64.wrap (64 - x1_1)) = ji27 := (i64_w _).trans hji27
            by_cases c28 : 0 ≤ (ji27)
            · rw [if_pos c28] at H
              have c28b0 := eq_true c28
              have c28b1 : decide (0 ≤ (ji27)) = true := decide_eq_true c28
              clear c28
              obtain ⟨ji29, hji29⟩ : ∃ j_ : Int, (shl .u64 x3402001_1 (ji27)) = j_ := ⟨_, rfl⟩
              replace H : (if x6_1 = true then (some (t3405, t3406, Go.bits .or .u64 (ji26) (ji29), true)) else (some (t3405, t3406, Go.bits .or .u64 (ji26) (ji29), ((shl .u64 x3402002_1 (ji27)) != 0)))) = some (r1, r2, r3, r4) := by first | (rw [hji29] at H; exact H) | (simp only [hji29] at H ⊢; exact H)
              (try rw [hji29] at A23)
              (try rw [hji29] at A24)
              have hji29_ : (IntKind.u64.wrap (x3402001_1 * 2 ^ min (ji27).toNat 64)) = ji29 := hji29
              have hji29z : (ji27) ≤ 64 → (IntKind.u64.wrap (x3402001_1 * 2 ^ (ji27).toNat)) = ji29 := shl_small hji29
              by_cases c30 : x6_1 = true
              · subst c30
                rw [if_pos rfl] at H
                simp only [Option.some.injEq, Prod.mk.injEq] at H
                obtain ⟨rfl, rfl, rfl, rfl⟩ := H
                have hnb31 := NB3401_3402.out
                have hnc31 := NB3402_3401.out
                have hcz32_0 : wr.cell? ⟨gb3401, 0, none⟩ = some (.int .u64 x3402000_1) := bc BK3401 0
                have hcz32_1 : wr.cell? ⟨gb3401, 1, none⟩ = some (.int .u64 x3402001_1) := bc BK3401 1
                have hcz32_2 : wr.cell? ⟨gb3401, 2, none⟩ = some (.int .u64 x3402002_1) := bc BK3401 2
                have hfz32_0 := blk_frozen BK3401.out 0
                have hfz32_1 := blk_frozen BK3401.out 1
                have hfz32_2 := blk_frozen BK3401.out 2
                try go_wp2_with (first | ((with_reducible refine gate_callee (f := 53) rfl ?_); refine kc (some 35) Try.func53 #[.agg #[.int .u64 x3402000_1, .int .u64 x3402001_1, .int .u64 x3402002_1]] (wide_U192_top.calls x3402000_1 x3402001_1 x3402002_1 t3403 t3404 _ A23.out) ?_; intro w33 hb; replace BK3401 := kb BK3401 hb; replace BK3402 := kb BK3402 hb; replace HB := kh HB hb; (try clear hb)) | ((with_reducible refine gate_callee (f := 26) rfl ?_); refine kc (some 37) Try.func26 #[.agg #[.int .u64 t3403, .int .u64 t3404], .int .i64 x1_1] (wide_U128_Shr.calls k1 t3403 t3404 x1_1 t3405 t3406 t3407 _ A24.out) ?_; intro w34 hb; replace BK3401 := kb BK3401 hb; replace BK3402 := kb BK3402 hb; replace HB := kh HB hb; (try clear hb)) | ((with_reducible refine gate_dst (N := 7) rfl ?_); refine kx 7 #[.int .u64 0, .int .u64 0] 24 ?_; intro gb3408 hg w35 hbox hb; have BK3408 := Aside0.mk (hbox); have GW3408 := kg HB hg; have GE3408 := kg HB hg; have NB3401_3408 := kn BK3401 hg; have NB3408_3401 := km BK3401 hg; have NB3402_3408 := kn BK3402 hg; have NB3408_3402 := km BK3402 hg; replace BK3401 := kb BK3401 hb; replace BK3402 := kb BK3402 hb; replace HB := kh HB hb; clear hb hbox hg; have hnb36 := NB3408_3401.out; have hnc36 := NB3401_3408.out; have hnb37 := NB3408_3402.out; have hnc37 := NB3402_3408.out; have hcz38_0 : w35.cell? ⟨gb3408, 0, none⟩ = some (.int .u64 0) := bc BK3408 0; have hcz38_1 : w35.cell? ⟨gb3408, 1, none⟩ = some (.int .u64 0) := bc BK3408 1; have hfz38_0 := blk_frozen BK3408.out 0; have hfz38_1 := blk_frozen BK3408.out 1))
                generalize hW_ : ((w35.setCell ⟨gb3408, 0, none⟩ (.int .u64 t3405)).setCell ⟨gb3408, 1, none⟩ (.int .u64 t3406)) = w39
                replace BK3401 := kr BK3401 hW_
                replace BK3402 := kr BK3402 hW_
                replace BK3408 := kr (o' := .cells #[.int .u64 t3405, .int .u64 t3406] 24 (0, 0)) BK3408 hW_
                replace HB := kq HB hW_
                clear hW_
                replace BK3401 := Aside0.mk (blk_drew BK3401.out)
                replace BK3402 := Aside0.mk (blk_drew BK3402.out)
                replace BK3408 := Aside0.mk (blk_drew BK3408.out)
                replace HB := Aside0.mk (below_drew1 HB.out)
                refine start_ (n := 26) (S := fun w' => w'.cell? ⟨gb3408, 0, none⟩ = some (.int .u64 t3405) ∧ w'.cell? ⟨gb3408, 1, none⟩ = some (.int .u64 t3406) ∧ w'.cell? ⟨gb3401, 0, none⟩ = some (.int .u64 x3402000_1) ∧ w'.cell? ⟨gb3401, 1, none⟩ = some (.int .u64 x3402001_1) ∧ w'.cell? ⟨gb3401, 2, none⟩ = some (.int .u64 x3402002_1)) (ds := []) #[false, false, false, false, false, false, false, false, false, false, false, false, false, false, false, false, false, false, false, false, false, false, false, false, false, false] (by kernel_rfl) rfl rfl ⟨bc BK3408 0, bc BK3408 1, bc BK3401 0, bc BK3401 1, bc BK3401 2⟩ (fun hHeld => ?_); refine with_tabW wide_U192_Shr.tab11 wide_U192_Shr.bits11 (fun HT_ HW_ => ?_)
                generalize w39.drew = w40 at BK3401 BK3402 BK3408 HB hHeld ⊢
                refine pur 0 (some 40) #[true, false, false, false, false, false, false, false, false, false, false, false, false, false, false, false, false, false, false, false, false, false, false, false, false, false] (any_of HT_.out (by kernel_rfl)) ?_
                refine pur 2 (some 42) #[true, false, true, false, false, false, false, false, false, false, false, false, false, false, false, false, false, false, false, false, false, false, false, false, false, false] (any_of HT_.out (by kernel_rfl)) ?_
                refine pur 4 (some 44) #[true, false, true, false, true, false, false, false, false, false, false, false, false, false, false, false, false, false, false, false, false, false, false, false, false, false] (any_of HT_.out (by kernel_rfl)) ?_
                refine pur 6 (some 46) #[true, false, true, false, true, false, true, false, false, false, false, false, false, false, false, false, false, false, false, false, false, false, false, false, false, false] (any_of HT_.out (by kernel_rfl)) ?_
                refine pur 8 (some 48) #[true, false, true, false, true, false, true, false, true, false, false, false, false, false, false, false, false, false, false, false, false, false, false, false, false, false] (any_of HT_.out (by kernel_rfl)) ?_
                refine pur 10 (some 50) #[true, false, true, false, true, false, true, false, true, false, true, false, false, false, false, false, false, false, false, false, false, false, false, false, false, false] (any_of HT_.out (by kernel_rfl)) ?_
                refine pur 11 (some 51) #[true, false, true, false, true, false, true, false, true, false, true, true, false, false, false, false, false, false, false, false, false, false, false, false, false, false] (any_of HT_.out (by kernel_rfl)) ?_
                refine pur 15 (some 55) #[true, false, true, false, true, false, true, false, true, false, true, true, false, false, false, true, false, false, false, false, false, false, false, false, false, false] (any_of HT_.out (by kernel_rfl)) ?_
                refine pur 16 (some 56) #[true, false, true, false, true, false, true, false, true, false, true, true, false, false, false, true, true, false, false, false, false, false, false, false, false, false] (any_of HT_.out (by kernel_rfl)) ?_
                refine pure_ (i := 17) (N := some 57) (v := undef) (a' := ?_) #[true, false, true, false, true, false, true, false, true, false, true, true, false, false, false, true, true, true, false, false, false, false, false, false, false, false] rfl rfl (any_of HT_.out (by kernel_rfl)) (fun _ _ _ h => h) (Or.inr ⟨by rfl, rfl⟩) ?_ ?_
                rotate_left
                · simp only [Act.put, List.setIfInBounds_toArray, List.set_cons_zero, List.set_cons_succ, i64_w, i32_w]
                  rfl
                refine pure_ (i := 18) (N := some 58) (v := undef) (a' := ?_) #[true, false, true, false, true, false, true, false, true, false, true, true, false, false, false, true, true, true, true, false, false, false, false, false, false, false] rfl rfl (any_of HT_.out (by kernel_rfl)) (fun _ _ _ h => h) (Or.inr ⟨by rfl, rfl⟩) ?_ ?_
                rotate_left
                · simp only [Act.put, List.setIfInBounds_toArray, List.set_cons_zero, List.set_cons_succ, i64_w, i32_w]
                  rfl
                refine pure_ (i := 19) (N := some 59) (v := undef) (a' := ?_) #[true, false, true, false, true, false, true, false, true, false, true, true, false, false, false, true, true, true, true, true, false, false, false, false, false, false] rfl rfl (any_of HT_.out (by kernel_rfl)) (fun _ _ _ h => h) (Or.inr ⟨by rfl, rfl⟩) ?_ ?_
                rotate_left
                · simp only [Act.put, List.setIfInBounds_toArray, List.set_cons_zero, List.set_cons_succ, i64_w, i32_w]
                  rfl
                refine pure_ (i := 20) (N := some 60) (v := undef) (a' := ?_) #[true, false, true, false, true, false, true, false, true, false, true, true, false, false, false, true, true, true, true, true, true, false, false, false, false, false] rfl rfl (any_of HT_.out (by kernel_rfl)) (fun _ _ _ h => h) (Or.inr ⟨by rfl, rfl⟩) ?_ ?_
                rotate_left
                · simp only [Act.put, List.setIfInBounds_toArray, List.set_cons_zero, List.set_cons_succ, i64_w, i32_w]
                  rfl
                refine pure_ (i := 21) (N := some 61) (v := undef) (a' := ?_) #[true, false, true, false, true, false, true, false, true, false, true, true, false, false, false, true, true, true, true, true, true, true, false, false, false, false] rfl rfl (any_of HT_.out (by kernel_rfl)) (fun _ _ _ h => h) (Or.inr ⟨by rfl, rfl⟩) ?_ ?_
                rotate_left
                · simp only [Act.put, List.setIfInBounds_toArray, List.set_cons_zero, List.set_cons_succ, i64_w, i32_w]
                  rfl
                refine pure_ (i := 22) (N := some 62) (v := undef) (a' := ?_) #[true, false, true, false, true, false, true, false, true, false, true, true, false, false, false, true, true, true, true, true, true, true, true, false, false, false] rfl rfl (any_of HT_.out (by kernel_rfl)) (fun _ _ _ h => h) (Or.inr ⟨by rfl, rfl⟩) ?_ ?_
                rotate_left
                · simp only [Act.put, List.setIfInBounds_toArray, List.set_cons_zero, List.set_cons_succ, i64_w, i32_w]
                  rfl
                refine pur 23 (some 63) #[true, false, true, false, true, false, true, false, true, false, true, true, false, false, false, true, true, true, true, true, true, true, true, true, false, false] (any_of HT_.out (by kernel_rfl)) ?_
                refine tak 1 (some 41) #[true, true, true, false, true, false, true, false, true, false, true, true, false, false, false, true, true, true, true, true, true, true, true, true, false, false] (take_ofW HT_.out HW_.out (by kernel_rfl)) hHeld ?_
                refine tak 3 (some 43) #[true, true, true, true, true, false, true, false, true, false, true, true, false, false, false, true, true, true, true, true, true, true, true, true, false, false] (take_ofW HT_.out HW_.out (by kernel_rfl)) hHeld ?_
                refine tak 5 (some 45) #[true, true, true, true, true, true, true, false, true, false, true, true, false, false, false, true, true, true, true, true, true, true, true, true, false, false] (take_ofW HT_.out HW_.out (by kernel_rfl)) hHeld ?_
                refine pur 7 (some 47) #[true, true, true, true, true, true, true, true, true, false, true, true, false, false, false, true, true, true, true, true, true, true, true, true, false, false] (any_of HT_.out (by kernel_rfl)) ?_
                refine tak 9 (some 49) #[true, true, true, true, true, true, true, true, true, true, true, true, false, false, false, true, true, true, true, true, true, true, true, true, false, false] (take_ofW HT_.out HW_.out (by kernel_rfl)) hHeld ?_
                refine pur 12 (some 52) #[true, true, true, true, true, true, true, true, true, true, true, true, true, false, false, true, true, true, true, true, true, true, true, true, false, false] (any_of HT_.out (by kernel_rfl)) ?_
                refine pur 13 (some 53) #[true, true, true, true, true, true, true, true, true, true, true, true, true, true, false, true, true, true, true, true, true, true, true, true, false, false] (any_of HT_.out (by kernel_rfl)) ?_
                refine pur 14 (some 54) #[true, true, true, true, true, true, true, true, true, true, true, true, true, true, true, true, true, true, true, true, true, true, true, true, false, false] (any_of HT_.out (by kernel_rfl)) ?_
                refine one_ (i := 24) (N := none) #[true, true, true, true, true, true, true, true, true, true, true, true, true, true, true, true, true, true, true, true, true, true, true, true, true, false] rfl rfl (one_of HT_.out (by kernel_rfl)) (by decide) (fun K hK => ?_)
                have hs41 : w40.cell? ⟨gb3402, 0, none⟩ = some (.int .u64 x3403000_1) := bc BK3402 0
                have hfs41 := blk_frozen BK3402.out 0
                have hns41_0 := NB3401_3402.out
                have hns41_2 := NB3408_3402.out
                have hms41_0 := NB3402_3401.out
                have hms41_2 := NB3402_3408.out
                have hs42 : w40.cell? ⟨gb3402, 1, none⟩ = some (.int .u64 x3403001_1) := bc BK3402 1
                have hfs42 := blk_frozen BK3402.out 1
                have hs43 : w40.cell? ⟨gb3402, 2, none⟩ = some (.int .u64 x3403002_1) := bc BK3402 2
                have hfs43 := blk_frozen BK3402.out 2
                refine skip_ (w1 := ?_) (by rfl) rfl ?_ ?_
                rotate_left
                · go_simp
                  rfl
                refine hK.out _ _ ⟨cf hHeld.1, cf hHeld.2.1, cf hHeld.2.2.1, cf hHeld.2.2.2.1, cf hHeld.2.2.2.2⟩ (fun hHeld => ?_)
                clear hK K
                refine pur 25 (some 5) #[true, true, true, true, true, true, true, true, true, true, true, true, true, true, true, true, true, true, true, true, true, true, true, true, true, true] (any_of HT_.out (by kernel_rfl)) ?_
                refine done_ (done_of HT_.out (by kernel_rfl)) ?_
                try go_wp2
                refine bodyPost_ret (results_ct rfl _ _ gb3402 26 #[.int .u64 t3405, .int .u64 t3406, .int .u64 (Go.bits .or .u64 (ji26) (ji29))] (0, 0) _ rfl (pK BK3402) Try.underlying26 rfl (by kernel_rfl)) rfl ?_
                exact ⟨by first | rfl | (simp [errW_none, errW_some] <;> rfl) | (simp only [← hji26, ← hji27, ← hji29]; first | rfl | (simp [errW_none, errW_some] <;> rfl)) | (simp [*, errW_none, errW_some] <;> rfl), pl HB⟩
              · replace c30 := Bool.eq_false_iff.mpr c30
                subst c30
                rw [if_neg (show ¬ (false = true) by decide)] at H
                have c44b0 := eq_true (of_decide_eq_true (by first | (with_reducible assumption) | assumption) : 0 ≤ (ji27))
                obtain ⟨ji45, hji45⟩ : ∃ j_ : Int, (shl .u64 x3402002_1 (ji27)) = j_ := ⟨_, rfl⟩
                replace H : (some (t3405, t3406, Go.bits .or .u64 (ji26) (ji29), ((ji45) != 0))) = some (r1, r2, r3, r4) := by first | (rw [hji45] at H; exact H) | (simp only [hji45] at H ⊢; exact H)
                (try rw [hji45] at A23)
                (try rw [hji45] at A24)
                have hji45_ : (IntKind.u64.wrap (x3402002_1 * 2 ^ min (ji27).toNat 64)) = ji45 := hji45
                have hji45z : (ji27) ≤ 64 → (IntKind.u64.wrap (x3402002_1 * 2 ^ (ji27).toNat)) = ji45 := shl_small hji45
                simp only [Option.some.injEq, Prod.mk.injEq] at H
                obtain ⟨rfl, rfl, rfl, rfl⟩ := H
                have hnb46 := NB3401_3402.out
                have hnc46 := NB3402_3401.out
                have hcz47_0 : wr.cell? ⟨gb3401, 0, none⟩ = some (.int .u64 x3402000_1) := bc BK3401 0
                have hcz47_1 : wr.cell? ⟨gb3401, 1, none⟩ = some (.int .u64 x3402001_1) := bc BK3401 1
                have hcz47_2 : wr.cell? ⟨gb3401, 2, none⟩ = some (.int .u64 x3402002_1) := bc BK3401 2
                have hfz47_0 := blk_frozen BK3401.out 0
                have hfz47_1 := blk_frozen BK3401.out 1
                have hfz47_2 := blk_frozen BK3401.out 2
                try go_wp2_with (first | ((with_reducible refine gate_callee (f := 53) rfl ?_); refine kc (some 35) Try.func53 #[.agg #[.int .u64 x3402000_1, .int .u64 x3402001_1, .int .u64 x3402002_1]] (wide_U192_top.calls x3402000_1 x3402001_1 x3402002_1 t3403 t3404 _ A23.out) ?_; intro w48 hb; replace BK3401 := kb BK3401 hb; replace BK3402 := kb BK3402 hb; replace HB := kh HB hb; (try clear hb)) | ((with_reducible refine gate_callee (f := 26) rfl ?_); refine kc (some 37) Try.func26 #[.agg #[.int .u64 t3403, .int .u64 t3404], .int .i64 x1_1] (wide_U128_Shr.calls k1 t3403 t3404 x1_1 t3405 t3406 t3407 _ A24.out) ?_; intro w49 hb; replace BK3401 := kb BK3401 hb; replace BK3402 := kb BK3402 hb; replace HB := kh HB hb; (try clear hb)) | ((with_reducible refine gate_dst (N := 7) rfl ?_); refine kx 7 #[.int .u64 0, .int .u64 0] 24 ?_; intro gb3408 hg w50 hbox hb; have BK3408 := Aside0.mk (hbox); have GW3408 := kg HB hg; have GE3408 := kg HB hg; have NB3401_3408 := kn BK3401 hg; have NB3408_3401 := km BK3401 hg; have NB3402_3408 := kn BK3402 hg; have NB3408_3402 := km BK3402 hg; replace BK3401 := kb BK3401 hb; replace BK3402 := kb BK3402 hb; replace HB := kh HB hb; clear hb hbox hg; have hnb51 := NB3408_3401.out; have hnc51 := NB3401_3408.out; have hnb52 := NB3408_3402.out; have hnc52 := NB3402_3408.out; have hcz53_0 : w50.cell? ⟨gb3408, 0, none⟩ = some (.int .u64 0) := bc BK3408 0; have hcz53_1 : w50.cell? ⟨gb3408, 1, none⟩ = some (.int .u64 0) := bc BK3408 1; have hfz53_0 := blk_frozen BK3408.out 0; have hfz53_1 := blk_frozen BK3408.out 1))
                generalize hW_ : ((w50.setCell ⟨gb3408, 0, none⟩ (.int .u64 t3405)).setCell ⟨gb3408, 1, none⟩ (.int .u64 t3406)) = w54
                replace BK3401 := kr BK3401 hW_
                replace BK3402 := kr BK3402 hW_
                replace BK3408 := kr (o' := .cells #[.int .u64 t3405, .int .u64 t3406] 24 (0, 0)) BK3408 hW_
                replace HB := kq HB hW_
                clear hW_
                replace BK3401 := Aside0.mk (blk_drew BK3401.out)
                replace BK3402 := Aside0.mk (blk_drew BK3402.out)
                replace BK3408 := Aside0.mk (blk_drew BK3408.out)
                replace HB := Aside0.mk (below_drew1 HB.out)
                refine start_ (n := 26) (S := fun w' => w'.cell? ⟨gb3408, 0, none⟩ = some (.int .u64 t3405) ∧ w'.cell? ⟨gb3408, 1, none⟩ = some (.int .u64 t3406) ∧ w'.cell? ⟨gb3401, 0, none⟩ = some (.int .u64 x3402000_1) ∧ w'.cell? ⟨gb3401, 1, none⟩ = some (.int .u64 x3402001_1) ∧ w'.cell? ⟨gb3401, 2, none⟩ = some (.int .u64 x3402002_1)) (ds := []) #[false, false, false, false, false, false, false, false, false, false, false, false, false, false, false, false, false, false, false, false, false, false, false, false, false, false] (by kernel_rfl) rfl rfl ⟨bc BK3408 0, bc BK3408 1, bc BK3401 0, bc BK3401 1, bc BK3401 2⟩ (fun hHeld => ?_); refine with_tabW wide_U192_Shr.tab11 wide_U192_Shr.bits11 (fun HT_ HW_ => ?_)
                generalize w54.drew = w55 at BK3401 BK3402 BK3408 HB hHeld ⊢
                refine pur 0 (some 40) #[true, false, false, false, false, false, false, false, false, false, false, false, false, false, false, false, false, false, false, false, false, false, false, false, false, false] (any_of HT_.out (by kernel_rfl)) ?_
                refine pur 2 (some 42) #[true, false, true, false, false, false, false, false, false, false, false, false, false, false, false, false, false, false, false, false, false, false, false, false, false, false] (any_of HT_.out (by kernel_rfl)) ?_
                refine pur 4 (some 44) #[true, false, true, false, true, false, false, false, false, false, false, false, false, false, false, false, false, false, false, false, false, false, false, false, false, false] (any_of HT_.out (by kernel_rfl)) ?_
                refine pur 6 (some 46) #[true, false, true, false, true, false, true, false, false, false, false, false, false, false, false, false, false, false, false, false, false, false, false, false, false, false] (any_of HT_.out (by kernel_rfl)) ?_
                refine pur 8 (some 48) #[true, false, true, false, true, false, true, false, true, false, false, false, false, false, false, false, false, false, false, false, false, false, false, false, false, false] (any_of HT_.out (by kernel_rfl)) ?_
                refine pur 10 (some 50) #[true, false, true, false, true, false, true, false, true, false, true, false, false, false, false, false, false, false, false, false, false, false, false, false, false, false] (any_of HT_.out (by kernel_rfl)) ?_
                refine pur 11 (some 51) #[true, false, true, false, true, false, true, false, true, false, true, true, false, false, false, false, false, false, false, false, false, false, false, false, false, false] (any_of HT_.out (by kernel_rfl)) ?_
                refine pur 15 (some 55) #[true, false, true, false, true, false, true, false, true, false, true, true, false, false, false, true, false, false, false, false, false, false, false, false, false, false] (any_of HT_.out (by kernel_rfl)) ?_
                refine pur 16 (some 56) #[true, false, true, false, true, false, true, false, true, false, true, true, false, false, false, true, true, false, false, false, false, false, false, false, false, false] (any_of HT_.out (by kernel_rfl)) ?_
                refine pur 17 (some 57) #[true, false, true, false, true, false, true, false, true, false, true, true, false, false, false, true, true, true, false, false, false, false, false, false, false, false] (any_of HT_.out (by kernel_rfl)) ?_
                refine pur 19 (some 59) #[true, false, true, false, true, false, true, false, true, false, true, true, false, false, false, true, true, true, false, true, false, false, false, false, false, false] (any_of HT_.out (by kernel_rfl)) ?_
                refine pur 20 (some 60) #[true, false, true, false, true, false, true, false, true, false, true, true, false, false, false, true, true, true, false, true, true, false, false, false, false, false] (any_of HT_.out (by kernel_rfl)) ?_
                refine tak 1 (some 41) #[true, true, true, false, true, false, true, false, true, false, true, true, false, false, false, true, true, true, false, true, true, false, false, false, false, false] (take_ofW HT_.out HW_.out (by kernel_rfl)) hHeld ?_
                refine tak 3 (some 43) #[true, true, true, true, true, false, true, false, true, false, true, true, false, false, false, true, true, true, false, true, true, false, false, false, false, false] (take_ofW HT_.out HW_.out (by kernel_rfl)) hHeld ?_
                refine tak 5 (some 45) #[true, true, true, true, true, true, true, false, true, false, true, true, false, false, false, true, true, true, false, true, true, false, false, false, false, false] (take_ofW HT_.out HW_.out (by kernel_rfl)) hHeld ?_
                refine pur 7 (some 47) #[true, true, true, true, true, true, true, true, true, false, true, true, false, false, false, true, true, true, false, true, true, false, false, false, false, false] (any_of HT_.out (by kernel_rfl)) ?_
                refine tak 9 (some 49) #[true, true, true, true, true, true, true, true, true, true, true, true, false, false, false, true, true, true, false, true, true, false, false, false, false, false] (take_ofW HT_.out HW_.out (by kernel_rfl)) hHeld ?_
                refine pur 12 (some 52) #[true, true, true, true, true, true, true, true, true, true, true, true, true, false, false, true, true, true, false, true, true, false, false, false, false, false] (any_of HT_.out (by kernel_rfl)) ?_
                refine pur 13 (some 53) #[true, true, true, true, true, true, true, true, true, true, true, true, true, true, false, true, true, true, false, true, true, false, false, false, false, false] (any_of HT_.out (by kernel_rfl)) ?_
                refine pur 14 (some 54) #[true, true, true, true, true, true, true, true, true, true, true, true, true, true, true, true, true, true, false, true, true, false, false, false, false, false] (any_of HT_.out (by kernel_rfl)) ?_
                refine tak 18 (some 58) #[true, true, true, true, true, true, true, true, true, true, true, true, true, true, true, true, true, true, true, true, true, false, false, false, false, false] (take_ofW HT_.out HW_.out (by kernel_rfl)) hHeld ?_
                refine pur 21 (some 61) #[true, true, true, true, true, true, true, true, true, true, true, true, true, true, true, true, true, true, true, true, true, true, false, false, false, false] (any_of HT_.out (by kernel_rfl)) ?_
                refine pur 22 (some 62) #[true, true, true, true, true, true, true, true, true, true, true, true, true, true, true, true, true, true, true, true, true, true, true, false, false, false] (any_of HT_.out (by kernel_rfl)) ?_
                refine pur 23 (some 63) #[true, true, true, true, true, true, true, true, true, true, true, true, true, true, true, true, true, true, true, true, true, true, true, true, false, false] (any_of HT_.out (by kernel_rfl)) ?_
                refine one_ (i := 24) (N := none) #[true, true, true, true, true, true, true, true, true, true, true, true, true, true, true, true, true, true, true, true, true, true, true, true, true, false] rfl rfl (one_of HT_.out (by kernel_rfl)) (by decide) (fun K hK => ?_)
                have hs56 : w55.cell? ⟨gb3402, 0, none⟩ = some (.int .u64 x3403000_1) := bc BK3402 0
                have hfs56 := blk_frozen BK3402.out 0
                have hns56_0 := NB3401_3402.out
                have hns56_2 := NB3408_3402.out
                have hms56_0 := NB3402_3401.out
                have hms56_2 := NB3402_3408.out
                have hs57 : w55.cell? ⟨gb3402, 1, none⟩ = some (.int .u64 x3403001_1) := bc BK3402 1
                have hfs57 := blk_frozen BK3402.out 1
                have hs58 : w55.cell? ⟨gb3402, 2, none⟩ = some (.int .u64 x3403002_1) := bc BK3402 2
                have hfs58 := blk_frozen BK3402.out 2
                refine skip_ (w1 := ?_) (by rfl) rfl ?_ ?_
                rotate_left
                · go_simp
                  rfl
                refine hK.out _ _ ⟨cf hHeld.1, cf hHeld.2.1, cf hHeld.2.2.1, cf hHeld.2.2.2.1, cf hHeld.2.2.2.2⟩ (fun hHeld => ?_)
                clear hK K
                refine pur 25 (some 5) #[true, true, true, true, true, true, true, true, true, true, true, true, true, true, true, true, true, true, true, true, true, true, true, true, true, true] (any_of HT_.out (by kernel_rfl)) ?_
                refine done_ (done_of HT_.out (by kernel_rfl)) ?_
                try go_wp2
                refine bodyPost_ret (results_ct rfl _ _ gb3402 26 #[.int .u64 t3405, .int .u64 t3406, .int .u64 (Go.bits .or .u64 (ji26) (ji29))] (0, 0) _ rfl (pK BK3402) Try.underlying26 rfl (by kernel_rfl)) rfl ?_
                exact ⟨by first | rfl | (simp [errW_none, errW_some] <;> rfl) | (simp only [← hji26, ← hji27, ← hji29, ← hji45]; first | rfl | (simp [errW_none, errW_some] <;> rfl)) | (simp [*, errW_none, errW_some] <;> rfl), pl HB⟩
            · rw [if_neg c28] at H
              exact absurd H (by simp)
          · rw [if_neg c25] at H
            exact absurd H (by simp)
end Go.Proofs.Ytdchdapllehppaa.PAll
end
