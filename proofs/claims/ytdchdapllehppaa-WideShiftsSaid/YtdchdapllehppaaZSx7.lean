/- Functions of the print, turned to this claim. -/
import Derived.Test.YtdchdapllehppaaZSW
import Derived.Test.YtdchdapllehppaaZSx0
import Derived.Test.YtdchdapllehppaaZSx1
section
namespace Go.Proofs.Ytdchdapllehppaa.PAll
open Go.RowKit Go.Proofs.YtdchdapllehppaaW.PrintWords Go.Proofs.YtdchdapllehppaaW.PrintLast Go.Proofs.YtdchdapllehppaaW.PrintMore
attribute [local go_sem] max2_int min2_int max_two min_two max_three min_three max_four min_four   -- for this text's walks alone
set_option linter.unusedVariables false
set_option linter.unusedSimpArgs false
attribute [local go_sem high] eqA24
/-! ### wide_U128_Shr: function 26 -/
def wide_U128_Shr.l0 : Nat → Int → Bool → Int → Int → Option (Int × Int × Bool)
  | 0, _, _, _, _ => none
  | k + 1, x1, x6, x1302000, x1302001 => if x1 ≥ 64 then (if x6 = true then (if (x1302000 == 0) = true then (some (0, x1302000, true)) else (wide_U128_Shr.l0 k (wrap64 (x1 - 64)) true 0 x1302000)) else (if (x1302000 == 0) = true then (some (0, x1302000, (x1302001 != 0))) else (wide_U128_Shr.l0 k (wrap64 (x1 - 64)) (x1302001 != 0) 0 x1302000))) else (if x1 ≤ 0 then (some (x1302000, x1302001, x6)) else (if 0 ≤ x1 then (if 0 ≤ (wrap64 (64 - x1)) then (if x6 = true then (some (shr .u64 x1302000 x1, Go.bits .or .u64 (shr .u64 x1302001 x1) (shl .u64 x1302000 (wrap64 (64 - x1))), true)) else (some (shr .u64 x1302000 x1, Go.bits .or .u64 (shr .u64 x1302001 x1) (shl .u64 x1302000 (wrap64 (64 - x1))), ((shl .u64 x1302001 (wrap64 (64 - x1))) != 0)))) else (none)) else (none)))
def wide_U128_Shr.f (k : Nat) (a0_0 : Int) (a0_1 : Int) (a1 : Int) : Option (Int × Int × Bool) := wide_U128_Shr.l0 k a1 false a0_0 a0_1
theorem wide_U128_Shr.mono_l : ∀ k, (∀ y0 y1 y2 y3, LeO (wide_U128_Shr.l0 k y0 y1 y2 y3) (wide_U128_Shr.l0 (k + 1) y0 y1 y2 y3))
  | 0 => fun _ _ _ _ r h => by simp [wide_U128_Shr.l0] at h
  | k + 1 => by
    have ih0 := wide_U128_Shr.mono_l k
    · intro y0 y1 y2 y3
      unfold wide_U128_Shr.l0
      repeat' first
      | (with_reducible exact ih0 _ _ _ _)
      | (with_reducible exact LeO.refl _)
      | (with_reducible exact LeO.none _)
      | (with_reducible refine LeO.ite ?_ ?_)
      | (with_reducible refine LeO.bind ?_ (fun _ => ?_))
      | exact ih0 _ _ _ _
      | exact LeO.none _
      | refine LeO.ite ?_ ?_
      | refine LeO.bind ?_ (fun _ => ?_)
theorem wide_U128_Shr.mono : ∀ a0 a1 a2 k, LeO (wide_U128_Shr.f k a0 a1 a2) (wide_U128_Shr.f (k + 1) a0 a1 a2) := by
  intro a0 a1 a2 k
  have ih0 := wide_U128_Shr.mono_l k
  unfold wide_U128_Shr.f
  repeat' first
      | (with_reducible exact ih0 _ _ _ _)
      | (with_reducible exact LeO.refl _)
      | (with_reducible exact LeO.none _)
      | (with_reducible refine LeO.ite ?_ ?_)
      | (with_reducible refine LeO.bind ?_ (fun _ => ?_))
      | exact ih0 _ _ _ _
      | exact LeO.none _
      | refine LeO.ite ?_ ?_
      | refine LeO.bind ?_ (fun _ => ?_)
def wide_U128_Shr.T10 : Bool × List (List Nat × List Nat) := (true, [([], []), ([0], [0]), ([], []), ([1, 2], [1, 2]), ([], []), ([4], [4]), ([], []), ([5, 6], [5, 6]), ([], []), ([8], [8]), ([], []), ([10], [10]), ([9, 11], [9, 11]), ([7, 12], [7, 12]), ([3, 13], [3, 13]), ([], []), ([15], [15]), ([16], [16]), ([17, 16], [16, 17]), ([16], [16]), ([19, 16], [16, 19]), ([18, 20, 16], [16, 18, 20]), ([21, 16], [16, 21]), ([16, 22], [16, 22]), ([14, 16, 0, 1, 2, 3, 4, 5, 6, 7, 8, 9, 10, 11, 12, 13, 14], [14]), ([23, 24, 0, 1, 2, 3, 4, 5, 6, 7, 8, 9, 10, 11, 12, 13, 14, 15, 16, 17, 18, 19, 20, 21, 22, 23, 24], [23])])
def wide_U128_Shr.B10 : List Nat := [0, 1, 0, 7, 0, 16, 0, 112, 0, 256, 0, 1024, 3840, 8176, 16383, 0, 32768, 98304, 229376, 98304, 622592, 2064384, 4161536, 8355840, 131071, 33554431]
theorem wide_U128_Shr.tab10 : rtab .any (opsOf Try.f26 10) = wide_U128_Shr.T10 := by kernel_rfl
theorem wide_U128_Shr.bits10 : waitsOk wide_U128_Shr.T10.2 wide_U128_Shr.B10 = true := by kernel_rfl
set_option maxHeartbeats 8000000 in
set_option maxRecDepth 100000 in
theorem wide_U128_Shr.calls (k : Nat) (a0_0 : Int) (a0_1 : Int) (a1 : Int) (r1 : Int) (r2 : Int) (r3 : Bool) (w : World) (h : wide_U128_Shr.f k a0_0 a0_1 a1 = some (r1, r2, r3)) :
    Calls Try.prog 26 #[.agg #[.int .u64 a0_0, .int .u64 a0_1], .int .i64 a1] w fun e w' => e = .returned (.tuple #[.agg #[.int .u64 r1, .int .u64 r2], .bool r3]) ∧ Below w.heap.size w w' := by
  have hu24 := Try.underlying24
  have HB := Aside0.mk (Below.refl w.heap.size w)
  have H := h
  clear h
  unfold wide_U128_Shr.f at H
  have H' := Aside0.mk H
  clear H
  go_enter Try.func26, Try.ntmps26
  go_wp2_with (first | ((with_reducible refine gate_dst (N := 2) rfl ?_); refine kx 2 #[.int .u64 a0_0, .int .u64 a0_1] 24 ?_; intro gb1301 hg w3 hbox hb; have BK1301 := Aside0.mk (hbox); have GW1301 := kg HB hg; have GE1301 := kg HB hg; replace HB := kh HB hb; clear hb hbox hg) | ((with_reducible refine gate_dst (N := 4) rfl ?_); refine kx 4 #[.int .u64 0, .int .u64 0] 24 ?_; intro gb1302 hg w4 hbox hb; have BK1302 := Aside0.mk (hbox); have GW1302 := kg HB hg; have GE1302 := kg HB hg; have NB1301_1302 := kn BK1301 hg; have NB1302_1301 := km BK1301 hg; replace BK1301 := kb BK1301 hb; replace HB := kh HB hb; clear hb hbox hg))
  go_loopg [1, 6] k (fun kq v1 v6 w' => ∃ (x1_1 : Int) (x6_1 : Bool) (x1302000_1 : Int) (x1302001_1 : Int) (x1303000_1 : Int) (x1303001_1 : Int), v1 = .int .i64 x1_1 ∧ v6 = .bool x6_1 ∧ Aside0 (wide_U128_Shr.l0 kq x1_1 x6_1 x1302000_1 x1302001_1 = some (r1, r2, r3)) ∧ Aside0 (kq ≤ k) ∧ Aside0 (w'.heap[gb1301]? = some (.cells #[.int .u64 x1302000_1, .int .u64 x1302001_1] 24 (0, 0))) ∧ Aside0 (w'.heap[gb1302]? = some (.cells #[.int .u64 x1303000_1, .int .u64 x1303001_1] 24 (0, 0))) ∧ Aside0 (Below w.heap.size w w'))
  case atStart => exact ⟨(a1), (false), (a0_0), (a0_1), (0), (0), (by first | rfl | (simp; done) | (simp [*]; done)), (by first | rfl | (simp; done) | (simp [*]; done)), H', ⟨Nat.le_refl _⟩, ⟨pk BK1301⟩, ⟨pk BK1302⟩, ⟨pl HB⟩⟩
  case round =>
    clear H'
    try clear c2
    try clear p2
    obtain ⟨x1_1, x6_1, x1302000_1, x1302001_1, x1303000_1, x1303001_1, rfl, rfl, HA, HK1, BK1301, BK1302, HB⟩ := hrel
    cases gk with
    | zero => exact absurd HA.out (by simp [wide_U128_Shr.l0])
    | succ k1 =>
      have H := HA.out
      clear HA
      simp only [wide_U128_Shr.l0] at H
      by_cases c5 : x1_1 ≥ 64
      · rw [if_pos c5] at H
        have c5b0 : decide (64 ≤ x1_1) = true := decide_eq_true c5
        clear c5
        by_cases c6 : x6_1 = true
        · subst c6
          rw [if_pos rfl] at H
          by_cases c7 : (x1302000_1 == 0) = true
          · rw [if_pos c7] at H
            have c7b0 : (x1302000_1 == 0) = true := c7
            (try (have c7b1 : decide (x1302000_1 = 0) = true := by simpa using c7))
            (try (have c7b2 : (x1302000_1 == 0) = true := by simpa using c7))
            clear c7
            simp only [Option.some.injEq, Prod.mk.injEq] at H
            obtain ⟨rfl, rfl, rfl⟩ := H
            have hnb8 := NB1301_1302.out
            have hnc8 := NB1302_1301.out
            have hcz9_0 : wr.cell? ⟨gb1301, 0, none⟩ = some (.int .u64 x1302000_1) := bc BK1301 0
            have hcz9_1 : wr.cell? ⟨gb1301, 1, none⟩ = some (.int .u64 x1302001_1) := bc BK1301 1
            have hfz9_0 := blk_frozen BK1301.out 0
            have hfz9_1 := blk_frozen BK1301.out 1
            have hcz10_0 : wr.cell? ⟨gb1302, 0, none⟩ = some (.int .u64 x1303000_1) := bc BK1302 0
            have hcz10_1 : wr.cell? ⟨gb1302, 1, none⟩ = some (.int .u64 x1303001_1) := bc BK1302 1
            have hfz10_0 := blk_frozen BK1302.out 0
            have hfz10_1 := blk_frozen BK1302.out 1
            go_wp2
            refine bodyPost_ret (results_ct rfl _ _ gb1302 24 #[.int .u64 0, .int .u64 x1302000_1] (0, 0) _ rfl (pK BK1302) Try.underlying24 rfl (by kernel_rfl)) rfl ?_
            exact ⟨pe, pl HB⟩
          · rw [if_neg c7] at H
            have c7b0 : (x1302000_1 == 0) = false := by simpa using c7
            (try (have c7b1 : decide (x1302000_1 = 0) = false := by simpa using c7))
            (try (have c7b2 : (x1302000_1 == 0) = false := by simpa using c7))
            (try (have c7b3 : ¬ (x1302000_1 = 0) := by simpa using c7))
            clear c7
            have H' := Aside0.mk H
            clear H
            have hnb11 := NB1301_1302.out
            have hnc11 := NB1302_1301.out
            have hcz12_0 : wr.cell? ⟨gb1301, 0, none⟩ = some (.int .u64 x1302000_1) := bc BK1301 0
            have hcz12_1 : wr.cell? ⟨gb1301, 1, none⟩ = some (.int .u64 x1302001_1) := bc BK1301 1
            have hfz12_0 := blk_frozen BK1301.out 0
            have hfz12_1 := blk_frozen BK1301.out 1
            go_wp2
            go_roundg k1
            case measure => have := HK1.out; omega
            case rel => exact ⟨(wrap64 (x1_1 - 64)), (true), (0), (x1302000_1), (x1303000_1), (x1303001_1), (by first | rfl | (simp; done) | (simp [*]; done)), (by first | rfl | (simp; done) | (simp [*]; done)), H', ⟨by have := HK1.out; omega⟩, ⟨pK BK1301⟩, ⟨pk BK1302⟩, ⟨pl HB⟩⟩
        · replace c6 := Bool.eq_false_iff.mpr c6
          subst c6
          rw [if_neg (show ¬ (false = true) by decide)] at H
          by_cases c13 : (x1302000_1 == 0) = true
          · rw [if_pos c13] at H
            have c13b0 : (x1302000_1 == 0) = true := c13
            (try (have c13b1 : decide (x1302000_1 = 0) = true := by simpa using c13))
            (try (have c13b2 : (x1302000_1 == 0) = true := by simpa using c13))
            clear c13
            simp only [Option.some.injEq, Prod.mk.injEq] at H
            obtain ⟨rfl, rfl, rfl⟩ := H
            have hnb14 := NB1301_1302.out
            have hnc14 := NB1302_1301.out
            have hcz15_0 : wr.cell? ⟨gb1301, 0, none⟩ = some (.int .u64 x1302000_1) := bc BK1301 0
            have hcz15_1 : wr.cell? ⟨gb1301, 1, none⟩ = some (.int .u64 x1302001_1) := bc BK1301 1
            have hfz15_0 := blk_frozen BK1301.out 0
            have hfz15_1 := blk_frozen BK1301.out 1
            have hcz16_0 : wr.cell? ⟨gb1302, 0, none⟩ = some (.int .u64 x1303000_1) := bc BK1302 0
            have hcz16_1 : wr.cell? ⟨gb1302, 1, none⟩ = some (.int .u64 x1303001_1) := bc BK1302 1
            have hfz16_0 := blk_frozen BK1302.out 0
            have hfz16_1 := blk_frozen BK1302.out 1
            go_wp2
            refine bodyPost_ret (results_ct rfl _ _ gb1302 24 #[.int .u64 0, .int .u64 x1302000_1] (0, 0) _ rfl (pK BK1302) Try.underlying24 rfl (by kernel_rfl)) rfl ?_
            exact ⟨pe, pl HB⟩
          · rw [if_neg c13] at H
            have c13b0 : (x1302000_1 == 0) = false := by simpa using c13
            (try (have c13b1 : decide (x1302000_1 = 0) = false := by simpa using c13))
            (try (have c13b2 : (x1302000_1 == 0) = false := by simpa using c13))
            (try (have c13b3 : ¬ (x1302000_1 = 0) := by simpa using c13))
            clear c13
            have H' := Aside0.mk H
            clear H
            have hnb17 := NB1301_1302.out
            have hnc17 := NB1302_1301.out
            have hcz18_0 : wr.cell? ⟨gb1301, 0, none⟩ = some (.int .u64 x1302000_1) := bc BK1301 0
            have hcz18_1 : wr.cell? ⟨gb1301, 1, none⟩ = some (.int .u64 x1302001_1) := bc BK1301 1
            have hfz18_0 := blk_frozen BK1301.out 0
            have hfz18_1 := blk_frozen BK1301.out 1
            go_wp2
            go_roundg k1
            case measure => have := HK1.out; omega
            case rel => exact ⟨(wrap64 (x1_1 - 64)), ((x1302001_1 != 0)), (0), (x1302000_1), (x1303000_1), (x1303001_1), (by first | rfl | (simp; done) | (simp [*]; done)), (by first | rfl | (simp; done) | (simp [*]; done)), H', ⟨by have := HK1.out; omega⟩, ⟨pK BK1301⟩, ⟨pk BK1302⟩, ⟨pl HB⟩⟩
      · rw [if_neg c5] at H
        have c5b0 : decide (64 ≤ x1_1) = false := decide_eq_false c5
        clear c5
        by_cases c19 : x1_1 ≤ 0
        · rw [if_pos c19] at H
          have c19b0 : decide (x1_1 ≤ 0) = true := decide_eq_true c19
          clear c19
          simp only [Option.some.injEq, Prod.mk.injEq] at H
          obtain ⟨rfl, rfl, rfl⟩ := H
          have hnb20 := NB1301_1302.out
          have hnc20 := NB1302_1301.out
          have hcz21_0 : wr.cell? ⟨gb1301, 0, none⟩ = some (.int .u64 x1302000_1) := bc BK1301 0
          have hcz21_1 : wr.cell? ⟨gb1301, 1, none⟩ = some (.int .u64 x1302001_1) := bc BK1301 1
          have hfz21_0 := blk_frozen BK1301.out 0
          have hfz21_1 := blk_frozen BK1301.out 1
          have hcz22_0 : wr.cell? ⟨gb1302, 0, none⟩ = some (.int .u64 x1303000_1) := bc BK1302 0
          have hcz22_1 : wr.cell? ⟨gb1302, 1, none⟩ = some (.int .u64 x1303001_1) := bc BK1302 1
          have hfz22_0 := blk_frozen BK1302.out 0
          have hfz22_1 := blk_frozen BK1302.out 1
          go_wp2
          refine bodyPost_ret (results_ct rfl _ _ gb1302 24 #[.int .u64 x1302000_1, .int .u64 x1302001_1] (0, 0) _ rfl (pK BK1302) Try.underlying24 rfl (by kernel_rfl)) rfl ?_
          exact ⟨pe, pl HB⟩
        · rw [if_neg c19] at H
          have c19b0 : decide (x1_1 ≤ 0) = false := decide_eq_false c19
          clear c19
          by_cases c23 : 0 ≤ x1_1
          · rw [if_pos c23] at H
            have c23b0 := eq_true c23
            have c23b1 : decide (0 ≤ x1_1) = true := decide_eq_true c23
            clear c23
            obtain ⟨ji24, hji24⟩ : ∃ j_ : Int, (shr .u64 x1302000_1 x1_1) = j_ := ⟨_, rfl⟩
            replace H : (if 0 ≤ (wrap64 (64 - x1_1)) then (if x6_1 = true then (some (ji24, Go.bits .or .u64 (shr .u64 x1302001_1 x1_1) (shl .u64 x1302000_1 (wrap64 (64 - x1_1))), true)) else (some (ji24, Go.bits .or .u64 (shr .u64 x1302001_1 x1_1) (shl .u64 x1302000_1 (wrap64 (64 - x1_1))), ((shl .u64 x1302001_1 (wrap64 (64 - x1_1))) != 0)))) else (none)) = some (r1, r2, r3) := by first | (rw [hji24] at H; exact H) | (simp only [hji24] at H ⊢; exact H)
            have hji24_ : (x1302000_1 / 2 ^ min x1_1.toNat 64) = ji24 := hji24
            have hji24z : x1_1 ≤ 64 → (x1302000_1 / 2 ^ x1_1.toNat) = ji24 := shr_small hji24
            have c25b0 := eq_true (of_decide_eq_true (by first | (with_reducible assumption) | assumption) : 0 ≤ x1_1)
            obtain ⟨ji26, hji26⟩ : ∃ j_ : Int, (shr .u64 x1302001_1 x1_1) = j_ := ⟨_, rfl⟩
            replace H : (if 0 ≤ (wrap64 (64 - x1_1)) then (if x6_1 = true then (some (ji24, Go.bits .or .u64 (ji26) (shl .u64 x1302000_1 (wrap64 (64 - x1_1))), true)) else (some (ji24, Go.bits .or .u64 (ji26) (shl .u64 x1302000_1 (wrap64 (64 - x1_1))), ((shl .u64 x1302001_1 (wrap64 (64 - x1_1))) != 0)))) else (none)) = some (r1, r2, r3) := by first | (rw [hji26] at H; exact H) | (simp only [hji26] at H ⊢; exact H)
            have hji26_ : (x1302001_1 / 2 ^ min x1_1.toNat 64) = ji26 := hji26
            have hji26z : x1_1 ≤ 64 → (x1302001_1 / 2 ^ x1_1.toNat) = ji26 := shr_small hji26
            obtain ⟨ji27, hji27⟩ : ∃ j_ : Int, (wrap64 (64 - x1_1)) = j_ := ⟨_, rfl⟩
            replace H : (if 0 ≤ (ji27) then (if x6_1 = true then (some (ji24, Go.bits .or .u64 (ji26) (shl .u64 x1302000_1 (ji27)), true)) else (some (ji24, Go.bits .or .u64 (ji26) (shl .u64 x1302000_1 (ji27)), ((shl .u64 x1302001_1 (ji27)) != 0)))) else (none)) = some (r1, r2, r3) := by first | (rw [hji27] at H; exact H) | (simp only [hji27] at H ⊢; exact H)
            have hji27w : (IntKind.i64.wrap (64 - x1_1)) = ji27 := (i64_w _).trans hji27
            by_cases c28 : 0 ≤ (ji27)
            · rw [if_pos c28] at H
              have c28b0 := eq_true c28
              have c28b1 : decide (0 ≤ (ji27)) = true := decide_eq_true c28
              clear c28
              obtain ⟨ji29, hji29⟩ : ∃ j_ : Int, (shl .u64 x1302000_1 (ji27)) = j_ := ⟨_, rfl⟩
              replace H : (if x6_1 = true then (some (ji24, Go.bits .or .u64 (ji26) (ji29), true)) else (some (ji24, Go.bits .or .u64 (ji26) (ji29), ((shl .u64 x1302001_1 (ji27)) != 0)))) = some (r1, r2, r3) := by first | (rw [hji29] at H; exact H) | (simp only [hji29] at H ⊢; exact H)
              have hji29_ : (IntKind.u64.wrap (x1302000_1 * 2 ^ min (ji27).toNat 64)) = ji29 := hji29
              have hji29z : (ji27) ≤ 64 → (IntKind.u64.wrap (x1302000_1 * 2 ^ (ji27).toNat)) = ji29 := shl_small hji29
              by_cases c30 : x6_1 = true
              · subst c30
                rw [if_pos rfl] at H
                simp only [Option.some.injEq, Prod.mk.injEq] at H
                obtain ⟨rfl, rfl, rfl⟩ := H
                try go_wp2
                replace BK1301 := Aside0.mk (blk_drew BK1301.out)
                replace BK1302 := Aside0.mk (blk_drew BK1302.out)
                replace HB := Aside0.mk (below_drew1 HB.out)
                refine start_ (n := 26) (S := fun w' => w'.cell? ⟨gb1301, 0, none⟩ = some (.int .u64 x1302000_1) ∧ w'.cell? ⟨gb1301, 1, none⟩ = some (.int .u64 x1302001_1)) (ds := []) #[false, false, false, false, false, false, false, false, false, false, false, false, false, false, false, false, false, false, false, false, false, false, false, false, false, false] (by kernel_rfl) rfl rfl ⟨bc BK1301 0, bc BK1301 1⟩ (fun hHeld => ?_); refine with_tabW wide_U128_Shr.tab10 wide_U128_Shr.bits10 (fun HT_ HW_ => ?_)
                generalize wr.drew = w31 at BK1301 BK1302 HB hHeld ⊢
                refine pur 0 (some 29) #[true, false, false, false, false, false, false, false, false, false, false, false, false, false, false, false, false, false, false, false, false, false, false, false, false, false] (any_of HT_.out (by kernel_rfl)) ?_
                refine pur 2 (some 31) #[true, false, true, false, false, false, false, false, false, false, false, false, false, false, false, false, false, false, false, false, false, false, false, false, false, false] (any_of HT_.out (by kernel_rfl)) ?_
                refine pur 4 (some 33) #[true, false, true, false, true, false, false, false, false, false, false, false, false, false, false, false, false, false, false, false, false, false, false, false, false, false] (any_of HT_.out (by kernel_rfl)) ?_
                refine pur 6 (some 35) #[true, false, true, false, true, false, true, false, false, false, false, false, false, false, false, false, false, false, false, false, false, false, false, false, false, false] (any_of HT_.out (by kernel_rfl)) ?_
                refine pur 8 (some 37) #[true, false, true, false, true, false, true, false, true, false, false, false, false, false, false, false, false, false, false, false, false, false, false, false, false, false] (any_of HT_.out (by kernel_rfl)) ?_
                refine pur 10 (some 39) #[true, false, true, false, true, false, true, false, true, false, true, false, false, false, false, false, false, false, false, false, false, false, false, false, false, false] (any_of HT_.out (by kernel_rfl)) ?_
                refine pur 11 (some 40) #[true, false, true, false, true, false, true, false, true, false, true, true, false, false, false, false, false, false, false, false, false, false, false, false, false, false] (any_of HT_.out (by kernel_rfl)) ?_
                refine pur 15 (some 44) #[true, false, true, false, true, false, true, false, true, false, true, true, false, false, false, true, false, false, false, false, false, false, false, false, false, false] (any_of HT_.out (by kernel_rfl)) ?_
                refine pur 16 (some 45) #[true, false, true, false, true, false, true, false, true, false, true, true, false, false, false, true, true, false, false, false, false, false, false, false, false, false] (any_of HT_.out (by kernel_rfl)) ?_
                refine pure_ (i := 17) (N := some 46) (v := undef) (a' := ?_) #[true, false, true, false, true, false, true, false, true, false, true, true, false, false, false, true, true, true, false, false, false, false, false, false, false, false] rfl rfl (any_of HT_.out (by kernel_rfl)) (fun _ _ _ h => h) (Or.inr ⟨by rfl, rfl⟩) ?_ ?_
                rotate_left
                · simp only [Act.put, List.setIfInBounds_toArray, List.set_cons_zero, List.set_cons_succ, i64_w, i32_w]
                  rfl
                refine pure_ (i := 18) (N := some 47) (v := undef) (a' := ?_) #[true, false, true, false, true, false, true, false, true, false, true, true, false, false, false, true, true, true, true, false, false, false, false, false, false, false] rfl rfl (any_of HT_.out (by kernel_rfl)) (fun _ _ _ h => h) (Or.inr ⟨by rfl, rfl⟩) ?_ ?_
                rotate_left
                · simp only [Act.put, List.setIfInBounds_toArray, List.set_cons_zero, List.set_cons_succ, i64_w, i32_w]
                  rfl
                refine pure_ (i := 19) (N := some 48) (v := undef) (a' := ?_) #[true, false, true, false, true, false, true, false, true, false, true, true, false, false, false, true, true, true, true, true, false, false, false, false, false, false] rfl rfl (any_of HT_.out (by kernel_rfl)) (fun _ _ _ h => h) (Or.inr ⟨by rfl, rfl⟩) ?_ ?_
                rotate_left
                · simp only [Act.put, List.setIfInBounds_toArray, List.set_cons_zero, List.set_cons_succ, i64_w, i32_w]
                  rfl
                refine pure_ (i := 20) (N := some 49) (v := undef) (a' := ?_) #[true, false, true, false, true, false, true, false, true, false, true, true, false, false, false, true, true, true, true, true, true, false, false, false, false, false] rfl rfl (any_of HT_.out (by kernel_rfl)) (fun _ _ _ h => h) (Or.inr ⟨by rfl, rfl⟩) ?_ ?_
                rotate_left
                · simp only [Act.put, List.setIfInBounds_toArray, List.set_cons_zero, List.set_cons_succ, i64_w, i32_w]
                  rfl
                refine pure_ (i := 21) (N := some 50) (v := undef) (a' := ?_) #[true, false, true, false, true, false, true, false, true, false, true, true, false, false, false, true, true, true, true, true, true, true, false, false, false, false] rfl rfl (any_of HT_.out (by kernel_rfl)) (fun _ _ _ h => h) (Or.inr ⟨by rfl, rfl⟩) ?_ ?_
                rotate_left
                · simp only [Act.put, List.setIfInBounds_toArray, List.set_cons_zero, List.set_cons_succ, i64_w, i32_w]
                  rfl
                refine pure_ (i := 22) (N := some 51) (v := undef) (a' := ?_) #[true, false, true, false, true, false, true, false, true, false, true, true, false, false, false, true, true, true, true, true, true, true, true, false, false, false] rfl rfl (any_of HT_.out (by kernel_rfl)) (fun _ _ _ h => h) (Or.inr ⟨by rfl, rfl⟩) ?_ ?_
                rotate_left
                · simp only [Act.put, List.setIfInBounds_toArray, List.set_cons_zero, List.set_cons_succ, i64_w, i32_w]
                  rfl
                refine pur 23 (some 52) #[true, false, true, false, true, false, true, false, true, false, true, true, false, false, false, true, true, true, true, true, true, true, true, true, false, false] (any_of HT_.out (by kernel_rfl)) ?_
                refine tak 1 (some 30) #[true, true, true, false, true, false, true, false, true, false, true, true, false, false, false, true, true, true, true, true, true, true, true, true, false, false] (take_ofW HT_.out HW_.out (by kernel_rfl)) hHeld ?_
                refine pur 3 (some 32) #[true, true, true, true, true, false, true, false, true, false, true, true, false, false, false, true, true, true, true, true, true, true, true, true, false, false] (any_of HT_.out (by kernel_rfl)) ?_
                refine tak 5 (some 34) #[true, true, true, true, true, true, true, false, true, false, true, true, false, false, false, true, true, true, true, true, true, true, true, true, false, false] (take_ofW HT_.out HW_.out (by kernel_rfl)) hHeld ?_
                refine pur 7 (some 36) #[true, true, true, true, true, true, true, true, true, false, true, true, false, false, false, true, true, true, true, true, true, true, true, true, false, false] (any_of HT_.out (by kernel_rfl)) ?_
                refine tak 9 (some 38) #[true, true, true, true, true, true, true, true, true, true, true, true, false, false, false, true, true, true, true, true, true, true, true, true, false, false] (take_ofW HT_.out HW_.out (by kernel_rfl)) hHeld ?_
                refine pur 12 (some 41) #[true, true, true, true, true, true, true, true, true, true, true, true, true, false, false, true, true, true, true, true, true, true, true, true, false, false] (any_of HT_.out (by kernel_rfl)) ?_
                refine pur 13 (some 42) #[true, true, true, true, true, true, true, true, true, true, true, true, true, true, false, true, true, true, true, true, true, true, true, true, false, false] (any_of HT_.out (by kernel_rfl)) ?_
                refine pur 14 (some 43) #[true, true, true, true, true, true, true, true, true, true, true, true, true, true, true, true, true, true, true, true, true, true, true, true, false, false] (any_of HT_.out (by kernel_rfl)) ?_
                refine one_ (i := 24) (N := none) #[true, true, true, true, true, true, true, true, true, true, true, true, true, true, true, true, true, true, true, true, true, true, true, true, true, false] rfl rfl (one_of HT_.out (by kernel_rfl)) (by decide) (fun K hK => ?_)
                have hs32 : w31.cell? ⟨gb1302, 0, none⟩ = some (.int .u64 x1303000_1) := bc BK1302 0
                have hfs32 := blk_frozen BK1302.out 0
                have hns32_0 := NB1301_1302.out
                have hms32_0 := NB1302_1301.out
                have hs33 : w31.cell? ⟨gb1302, 1, none⟩ = some (.int .u64 x1303001_1) := bc BK1302 1
                have hfs33 := blk_frozen BK1302.out 1
                refine skip_ (w1 := ?_) (by rfl) rfl ?_ ?_
                rotate_left
                · go_simp
                  rfl
                refine hK.out _ _ ⟨cf hHeld.1, cf hHeld.2⟩ (fun hHeld => ?_)
                clear hK K
                refine pur 25 (some 5) #[true, true, true, true, true, true, true, true, true, true, true, true, true, true, true, true, true, true, true, true, true, true, true, true, true, true] (any_of HT_.out (by kernel_rfl)) ?_
                refine done_ (done_of HT_.out (by kernel_rfl)) ?_
                try go_wp2
                refine bodyPost_ret (results_ct rfl _ _ gb1302 24 #[.int .u64 ji24, .int .u64 (Go.bits .or .u64 (ji26) (ji29))] (0, 0) _ rfl (pK BK1302) Try.underlying24 rfl (by kernel_rfl)) rfl ?_
                exact ⟨by first | rfl | (simp [errW_none, errW_some] <;> rfl) | (simp only [← hji24, ← hji26, ← hji27, ← hji29]; first | rfl | (simp [errW_none, errW_some] <;> rfl)) | (simp [*, errW_none, errW_some] <;> rfl), pl HB⟩
              · replace c30 := Bool.eq_false_iff.mpr c30
                subst c30
                rw [if_neg (show ¬ (false = true) by decide)] at H
                have c34b0 := eq_true (of_decide_eq_true (by first | (with_reducible assumption) | assumption) : 0 ≤ (ji27))
                obtain ⟨ji35, hji35⟩ : ∃ j_ : Int, (shl .u64 x1302001_1 (ji27)) = j_ := ⟨_, rfl⟩
                replace H : (some (ji24, Go.bits .or .u64 (ji26) (ji29), ((ji35) != 0))) = some (r1, r2, r3) := by first | (rw [hji35] at H; exact H) | (simp only [hji35] at H ⊢; exact H)
                have hji35_ : (IntKind.u64.wrap (x1302001_1 * 2 ^ min (ji27).toNat 64)) = ji35 := hji35
                have hji35z : (ji27) ≤ 64 → (IntKind.u64.wrap (x1302001_1 * 2 ^ (ji27).toNat)) = ji35 := shl_small hji35
                simp only [Option.some.injEq, Prod.mk.injEq] at H
                obtain ⟨rfl, rfl, rfl⟩ := H
                try go_wp2
                replace BK1301 := Aside0.mk (blk_drew BK1301.out)
                replace BK1302 := Aside0.mk (blk_drew BK1302.out)
                replace HB := Aside0.mk (below_drew1 HB.out)
                refine start_ (n := 26) (S := fun w' => w'.cell? ⟨gb1301, 0, none⟩ = some (.int .u64 x1302000_1) ∧ w'.cell? ⟨gb1301, 1, none⟩ = some (.int .u64 x1302001_1)) (ds := []) #[false, false, false, false, false, false, false, false, false, false, false, false, false, false, false, false, false, false, false, false, false, false, false, false, false, false] (by kernel_rfl) rfl rfl ⟨bc BK1301 0, bc BK1301 1⟩ (fun hHeld => ?_); refine with_tabW wide_U128_Shr.tab10 wide_U128_Shr.bits10 (fun HT_ HW_ => ?_)
                generalize wr.drew = w36 at BK1301 BK1302 HB hHeld ⊢
                refine pur 0 (some 29) #[true, false, false, false, false, false, false, false, false, false, false, false, false, false, false, false, false, false, false, false, false, false, false, false, false, false] (any_of HT_.out (by kernel_rfl)) ?_
                refine pur 2 (some 31) #[true, false, true, false, false, false, false, false, false, false, false, false, false, false, false, false, false, false, false, false, false, false, false, false, false, false] (any_of HT_.out (by kernel_rfl)) ?_
                refine pur 4 (some 33) #[true, false, true, false, true, false, false, false, false, false, false, false, false, false, false, false, false, false, false, false, false, false, false, false, false, false] (any_of HT_.out (by kernel_rfl)) ?_
                refine pur 6 (some 35) #[true, false, true, false, true, false, true, false, false, false, false, false, false, false, false, false, false, false, false, false, false, false, false, false, false, false] (any_of HT_.out (by kernel_rfl)) ?_
                refine pur 8 (some 37) #[true, false, true, false, true, false, true, false, true, false, false, false, false, false, false, false, false, false, false, false, false, false, false, false, false, false] (any_of HT_.out (by kernel_rfl)) ?_
                refine pur 10 (some 39) #[true, false, true, false, true, false, true, false, true, false, true, false, false, false, false, false, false, false, false, false, false, false, false, false, false, false] (any_of HT_.out (by kernel_rfl)) ?_
                refine pur 11 (some 40) #[true, false, true, false, true, false, true, false, true, false, true, true, false, false, false, false, false, false, false, false, false, false, false, false, false, false] (any_of HT_.out (by kernel_rfl)) ?_
                refine pur 15 (some 44) #[true, false, true, false, true, false, true, false, true, false, true, true, false, false, false, true, false, false, false, false, false, false, false, false, false, false] (any_of HT_.out (by kernel_rfl)) ?_
                refine pur 16 (some 45) #[true, false, true, false, true, false, true, false, true, false, true, true, false, false, false, true, true, false, false, false, false, false, false, false, false, false] (any_of HT_.out (by kernel_rfl)) ?_
                refine pur 17 (some 46) #[true, false, true, false, true, false, true, false, true, false, true, true, false, false, false, true, true, true, false, false, false, false, false, false, false, false] (any_of HT_.out (by kernel_rfl)) ?_
                refine pur 19 (some 48) #[true, false, true, false, true, false, true, false, true, false, true, true, false, false, false, true, true, true, false, true, false, false, false, false, false, false] (any_of HT_.out (by kernel_rfl)) ?_
                refine pur 20 (some 49) #[true, false, true, false, true, false, true, false, true, false, true, true, false, false, false, true, true, true, false, true, true, false, false, false, false, false] (any_of HT_.out (by kernel_rfl)) ?_
                refine tak 1 (some 30) #[true, true, true, false, true, false, true, false, true, false, true, true, false, false, false, true, true, true, false, true, true, false, false, false, false, false] (take_ofW HT_.out HW_.out (by kernel_rfl)) hHeld ?_
                refine pur 3 (some 32) #[true, true, true, true, true, false, true, false, true, false, true, true, false, false, false, true, true, true, false, true, true, false, false, false, false, false] (any_of HT_.out (by kernel_rfl)) ?_
                refine tak 5 (some 34) #[true, true, true, true, true, true, true, false, true, false, true, true, false, false, false, true, true, true, false, true, true, false, false, false, false, false] (take_ofW HT_.out HW_.out (by kernel_rfl)) hHeld ?_
                refine pur 7 (some 36) #[true, true, true, true, true, true, true, true, true, false, true, true, false, false, false, true, true, true, false, true, true, false, false, false, false, false] (any_of HT_.out (by kernel_rfl)) ?_
                refine tak 9 (some 38) #[true, true, true, true, true, true, true, true, true, true, true, true, false, false, false, true, true, true, false, true, true, false, false, false, false, false] (take_ofW HT_.out HW_.out (by kernel_rfl)) hHeld ?_
                refine pur 12 (some 41) #[true, true, true, true, true, true, true, true, true, true, true, true, true, false, false, true, true, true, false, true, true, false, false, false, false, false] (any_of HT_.out (by kernel_rfl)) ?_
                refine pur 13 (some 42) #[true, true, true, true, true, true, true, true, true, true, true, true, true, true, false, true, true, true, false, true, true, false, false, false, false, false] (any_of HT_.out (by kernel_rfl)) ?_
                refine pur 14 (some 43) #[true, true, true, true, true, true, true, true, true, true, true, true, true, true, true, true, true, true, false, true, true, false, false, false, false, false] (any_of HT_.out (by kernel_rfl)) ?_
                refine tak 18 (some 47) #[true, true, true, true, true, true, true, true, true, true, true, true, true, true, true, true, true, true, true, true, true, false, false, false, false, false] (take_ofW HT_.out HW_.out (by kernel_rfl)) hHeld ?_
                refine pur 21 (some 50) #[true, true, true, true, true, true, true, true, true, true, true, true, true, true, true, true, true, true, true, true, true, true, false, false, false, false] (any_of HT_.out (by kernel_rfl)) ?_
                refine pur 22 (some 51) #[true, true, true, true, true, true, true, true, true, true, true, true, true, true, true, true, true, true, true, true, true, true, true, false, false, false] (any_of HT_.out (by kernel_rfl)) ?_
                refine pur 23 (some 52) #[true, true, true, true, true, true, true, true, true, true, true, true, true, true, true, true, true, true, true, true, true, true, true, true, false, false] (any_of HT_.out (by kernel_rfl)) ?_
                refine one_ (i := 24) (N := none) #[true, true, true, true, true, true, true, true, true, true, true, true, true, true, true, true, true, true, true, true, true, true, true, true, true, false] rfl rfl (one_of HT_.out (by kernel_rfl)) (by decide) (fun K hK => ?_)
                have hs37 : w36.cell? ⟨gb1302, 0, none⟩ = some (.int .u64 x1303000_1) := bc BK1302 0
                have hfs37 := blk_frozen BK1302.out 0
                have hns37_0 := NB1301_1302.out
                have hms37_0 := NB1302_1301.out
                have hs38 : w36.cell? ⟨gb1302, 1, none⟩ = some (.int .u64 x1303001_1) := bc BK1302 1
                have hfs38 := blk_frozen BK1302.out 1
                refine skip_ (w1 := ?_) (by rfl) rfl ?_ ?_
                rotate_left
                · go_simp
                  rfl
                refine hK.out _ _ ⟨cf hHeld.1, cf hHeld.2⟩ (fun hHeld => ?_)
                clear hK K
                refine pur 25 (some 5) #[true, true, true, true, true, true, true, true, true, true, true, true, true, true, true, true, true, true, true, true, true, true, true, true, true, true] (any_of HT_.out (by kernel_rfl)) ?_
                refine done_ (done_of HT_.out (by kernel_rfl)) ?_
                try go_wp2
                refine bodyPost_ret (results_ct rfl _ _ gb1302 24 #[.int .u64 ji24, .int .u64 (Go.bits .or .u64 (ji26) (ji29))] (0, 0) _ rfl (pK BK1302) Try.underlying24 rfl (by kernel_rfl)) rfl ?_
                exact ⟨by first | rfl | (simp [errW_none, errW_some] <;> rfl) | (simp only [← hji24, ← hji26, ← hji27, ← hji29, ← hji35]; first | rfl | (simp [errW_none, errW_some] <;> rfl)) | (simp [*, errW_none, errW_some] <;> rfl), pl HB⟩
            · rw [if_neg c28] at H
              exact absurd H (by simp)
          · rw [if_neg c23] at H
            exact absurd H (by simp)
/-! ### bits_Sub64: function 48 -/
def bits_Sub64.f (a0 : Int) (a1 : Int) (a2 : Int) : Option (Int × Int) := if 0 ≤ a0 ∧ 0 ≤ a1 ∧ a1 ≤ 18446744073709551615 ∧ 0 ≤ a2 ∧ a2 ≤ 1 then some ((a0 + 18446744073709551616 - a1 - a2) % 18446744073709551616, if a0 < a1 + a2 then 1 else 0) else none
def sub64E : Array Value → Sem Value := fun args => do
  let (x, y, b) ← Extern.MathBitsCarry.three "Sub64" args
  pure (Extern.MathBitsCarry.pair ((x + Extern.MathBitsCarry.m64 - y - b) % Extern.MathBitsCarry.m64) (if x < y + b then 1 else 0))
theorem run_sub64E (x y b : Nat) (hb : b ≤ 1) (w : World) :
    (sub64E #[.int .u64 x, .int .u64 y, .int .u64 b]).run Try.prog w =
      .ok (.tuple #[.int .u64 (((x + 18446744073709551616 - y - b) % 18446744073709551616 : Nat) : Int), .int .u64 ((if x < y + b then 1 else 0 : Nat) : Int)]) w := by
  have : b = 0 ∨ b = 1 := by omega
  rcases this with rfl | rfl <;> rfl
theorem bits_Sub64.calls (a0 : Int) (a1 : Int) (a2 : Int) (r1 : Int) (r2 : Int) (w : World) (h : bits_Sub64.f a0 a1 a2 = some (r1, r2)) :
    (callFunc 48 #[.int .u64 a0, .int .u64 a1, .int .u64 a2]).run Try.prog w = .ok (.value (.tuple #[.int .u64 r1, .int .u64 r2])) w := by
  unfold bits_Sub64.f at h
  split at h
  · rename_i g
    obtain ⟨h0, h1, h1', h2, h3⟩ := g
    simp only [Option.some.injEq, Prod.mk.injEq] at h
    obtain ⟨rfl, rfl⟩ := h
    obtain ⟨x, rfl⟩ := Int.eq_ofNat_of_zero_le h0
    obtain ⟨y, rfl⟩ := Int.eq_ofNat_of_zero_le h1
    obtain ⟨b, rfl⟩ := Int.eq_ofNat_of_zero_le h2
    rw [run_callFunc_extern Try.func48 (by kernel_rfl) (by kernel_rfl) (by kernel_rfl) (e := sub64E) (by kernel_rfl), run_sub64E x y b (by omega)]
    have e1 : (((x + 18446744073709551616 - y - b) % 18446744073709551616 : Nat) : Int) = ((x : Int) + 18446744073709551616 - y - b) % 18446744073709551616 := by omega
    have e2 : ((if x < y + b then 1 else 0 : Nat) : Int) = (if (x : Int) < y + b then 1 else 0) := by split <;> split <;> omega
    rw [e1, e2]
    rfl
  · cases h
/-! ### wide_U128_Sub: function 22 -/
def wide_U128_Sub.f (a0_0 : Int) (a0_1 : Int) (a1_0 : Int) (a1_1 : Int) : Option (Int × Int × Int) := (bits_Sub64.f a0_1 a1_1 0).bind fun bt1604 => ((bits_Sub64.f a0_0 a1_0 bt1604.2).bind fun bt1606 => (some (bt1606.1, bt1604.1, bt1606.2)))
set_option maxHeartbeats 8000000 in
set_option maxRecDepth 100000 in
theorem wide_U128_Sub.calls (a0_0 : Int) (a0_1 : Int) (a1_0 : Int) (a1_1 : Int) (r1 : Int) (r2 : Int) (r3 : Int) (w : World) (h : wide_U128_Sub.f a0_0 a0_1 a1_0 a1_1 = some (r1, r2, r3)) :
    Calls Try.prog 22 #[.agg #[.int .u64 a0_0, .int .u64 a0_1], .agg #[.int .u64 a1_0, .int .u64 a1_1]] w fun e w' => e = .returned (.tuple #[.agg #[.int .u64 r1, .int .u64 r2], .int .u64 r3]) ∧ Below w.heap.size w w' := by
  have hu24 := Try.underlying24
  have HB := Aside0.mk (Below.refl w.heap.size w)
  have H := h
  clear h
  unfold wide_U128_Sub.f at H
  obtain ⟨⟨t1604, t1605⟩, A30, H⟩ := Option.bind_eq_some_iff.mp H
  have A3 := Aside0.mk A30
  clear A30
  (try dsimp only at H)
  obtain ⟨⟨t1606, t1607⟩, A40, H⟩ := Option.bind_eq_some_iff.mp H
  have A4 := Aside0.mk A40
  clear A40
  (try dsimp only at H)
  simp only [Option.some.injEq, Prod.mk.injEq] at H
  obtain ⟨rfl, rfl, rfl⟩ := H
  go_enter Try.func22, Try.ntmps22
  go_wp2_with (first | ((with_reducible refine gate_dst (N := 2) rfl ?_); refine kx 2 #[.int .u64 a0_0, .int .u64 a0_1] 24 ?_; intro gb1601 hg w5 hbox hb; have BK1601 := Aside0.mk (hbox); have GW1601 := kg HB hg; have GE1601 := kg HB hg; replace HB := kh HB hb; clear hb hbox hg) | ((with_reducible refine gate_dst (N := 3) rfl ?_); refine kx 3 #[.int .u64 a1_0, .int .u64 a1_1] 24 ?_; intro gb1602 hg w6 hbox hb; have BK1602 := Aside0.mk (hbox); have GW1602 := kg HB hg; have GE1602 := kg HB hg; have NB1601_1602 := kn BK1601 hg; have NB1602_1601 := km BK1601 hg; replace BK1601 := kb BK1601 hb; replace HB := kh HB hb; clear hb hbox hg) | ((with_reducible refine gate_dst (N := 4) rfl ?_); refine kx 4 #[.int .u64 0, .int .u64 0] 24 ?_; intro gb1603 hg w7 hbox hb; have BK1603 := Aside0.mk (hbox); have GW1603 := kg HB hg; have GE1603 := kg HB hg; have NB1601_1603 := kn BK1601 hg; have NB1603_1601 := km BK1601 hg; have NB1602_1603 := kn BK1602 hg; have NB1603_1602 := km BK1602 hg; replace BK1601 := kb BK1601 hb; replace BK1602 := kb BK1602 hb; replace HB := kh HB hb; clear hb hbox hg; have hnb8 := NB1601_1602.out; have hnc8 := NB1602_1601.out; have hnb9 := NB1601_1603.out; have hnc9 := NB1603_1601.out; have hcz10_0 : w7.cell? ⟨gb1601, 0, none⟩ = some (.int .u64 a0_0) := bc BK1601 0; have hcz10_1 : w7.cell? ⟨gb1601, 1, none⟩ = some (.int .u64 a0_1) := bc BK1601 1; have hfz10_0 := blk_frozen BK1601.out 0; have hfz10_1 := blk_frozen BK1601.out 1; have hnb11 := NB1602_1603.out; have hnc11 := NB1603_1602.out; have hcz12_0 : w7.cell? ⟨gb1602, 0, none⟩ = some (.int .u64 a1_0) := bc BK1602 0; have hcz12_1 : w7.cell? ⟨gb1602, 1, none⟩ = some (.int .u64 a1_1) := bc BK1602 1; have hfz12_0 := blk_frozen BK1602.out 0; have hfz12_1 := blk_frozen BK1602.out 1) | ((with_reducible refine gate_callee (f := 48) rfl ?_); refine kcE (some 14) Try.func48 #[.int .u64 a0_1, .int .u64 a1_1, .int .u64 0] (bits_Sub64.calls a0_1 a1_1 0 t1604 t1605 _ A3.out) ?_; intro w13 hb; replace BK1601 := kb BK1601 hb; replace BK1602 := kb BK1602 hb; replace BK1603 := kb BK1603 hb; replace HB := kh HB hb; (try clear hb); have hcz14_0 : w13.cell? ⟨gb1601, 0, none⟩ = some (.int .u64 a0_0) := bc BK1601 0; have hcz14_1 : w13.cell? ⟨gb1601, 1, none⟩ = some (.int .u64 a0_1) := bc BK1601 1; have hfz14_0 := blk_frozen BK1601.out 0; have hfz14_1 := blk_frozen BK1601.out 1; have hcz15_0 : w13.cell? ⟨gb1602, 0, none⟩ = some (.int .u64 a1_0) := bc BK1602 0; have hcz15_1 : w13.cell? ⟨gb1602, 1, none⟩ = some (.int .u64 a1_1) := bc BK1602 1; have hfz15_0 := blk_frozen BK1602.out 0; have hfz15_1 := blk_frozen BK1602.out 1) | ((with_reducible refine gate_callee (f := 48) rfl ?_); refine kcE (some 23) Try.func48 #[.int .u64 a0_0, .int .u64 a1_0, .int .u64 t1605] (bits_Sub64.calls a0_0 a1_0 t1605 t1606 t1607 _ A4.out) ?_; intro w16 hb; replace BK1601 := kb BK1601 hb; replace BK1602 := kb BK1602 hb; replace BK1603 := kb BK1603 hb; replace HB := kh HB hb; (try clear hb); have hcz17_0 : w16.cell? ⟨gb1603, 0, none⟩ = some (.int .u64 0) := bc BK1603 0; have hcz17_1 : w16.cell? ⟨gb1603, 1, none⟩ = some (.int .u64 0) := bc BK1603 1; have hfz17_0 := blk_frozen BK1603.out 0; have hfz17_1 := blk_frozen BK1603.out 1))
  refine bodyPost_ret (results_ct rfl _ _ gb1603 24 #[.int .u64 t1606, .int .u64 t1604] (0, 0) _ rfl (pK BK1603) Try.underlying24 rfl (by kernel_rfl)) rfl ?_
  exact ⟨pe, pl HB⟩
/-! ### wide_order: function 52 -/
def wide_order.l0 : Nat → List (S82) → Int → Int → Option (Int)
  | 0, _, _, _ => none
  | k + 1, x5, x6, x7 => if x7 < x6 then (if 0 ≤ x7 then (if x7 < (x5.length : Int) then (if ((rd_T82 x5 x7).f0) < ((rd_T82 x5 x7).f1) then (some (-1)) else (if ((rd_T82 x5 x7).f0) > ((rd_T82 x5 x7).f1) then (some 1) else (wide_order.l0 k x5 x6 (wrap64 (x7 + 1))))) else (none)) else (none)) else (some 0)
def wide_order.f (k : Nat) (l0 : List (S82)) : Option (Int) := wide_order.l0 k l0 (l0.length : Int) 0
theorem wide_order.mono_l : ∀ k, (∀ y0 y1 y2, LeO (wide_order.l0 k y0 y1 y2) (wide_order.l0 (k + 1) y0 y1 y2))
  | 0 => fun _ _ _ r h => by simp [wide_order.l0] at h
  | k + 1 => by
    have ih0 := wide_order.mono_l k
    · intro y0 y1 y2
      unfold wide_order.l0
      repeat' first
      | (with_reducible exact ih0 _ _ _)
      | (with_reducible exact LeO.refl _)
      | (with_reducible exact LeO.none _)
      | (with_reducible refine LeO.ite ?_ ?_)
      | (with_reducible refine LeO.bind ?_ (fun _ => ?_))
      | exact ih0 _ _ _
      | exact LeO.none _
      | refine LeO.ite ?_ ?_
      | refine LeO.bind ?_ (fun _ => ?_)
theorem wide_order.mono : ∀ a0 k, LeO (wide_order.f k a0) (wide_order.f (k + 1) a0) := by
  intro a0 k
  have ih0 := wide_order.mono_l k
  unfold wide_order.f
  repeat' first
      | (with_reducible exact ih0 _ _ _)
      | (with_reducible exact LeO.refl _)
      | (with_reducible exact LeO.none _)
      | (with_reducible refine LeO.ite ?_ ?_)
      | (with_reducible refine LeO.bind ?_ (fun _ => ?_))
      | exact ih0 _ _ _
      | exact LeO.none _
      | refine LeO.ite ?_ ?_
      | refine LeO.bind ?_ (fun _ => ?_)
set_option maxHeartbeats 8000000 in
set_option maxRecDepth 100000 in
theorem wide_order.calls (k : Nat) (A0 : Option Addr) (c0 : Nat) (l0 : List (S82)) (r : Int) (w : World) (hr0 : Kd.C k82 w A0 l0.length l0) (hc0 : l0.length ≤ c0) (h : wide_order.f k l0 = some r) :
    Calls Try.prog 52 #[.slice A0 l0.length c0] w fun e w' => e = .returned (.int .i64 r) ∧ Below w.heap.size w w' := by
  have hu82 := Try.underlying82
  have HR0 := Aside0.mk hr0
  have HC0 := Aside0.mk hc0
  clear hr0 hc0
  have HB := Aside0.mk (Below.refl w.heap.size w)
  have H := h
  clear h
  unfold wide_order.f at H
  have H' := Aside0.mk H
  clear H
  go_enter Try.func52, Try.ntmps52
  go_wp2
  go_loopg [7] k (fun kq v7 w' => ∃ (x7_1 : Int), v7 = .int .i64 x7_1 ∧ Aside0 (wide_order.l0 kq l0 (l0.length : Int) x7_1 = some r) ∧ Aside0 (kq ≤ k) ∧ Aside0 (Below w.heap.size w w'))
  case atStart => exact ⟨(0), (by first | rfl | (simp; done) | (simp [*]; done)), H', ⟨Nat.le_refl _⟩, ⟨pl HB⟩⟩
  case round =>
    clear H'
    obtain ⟨x7_1, rfl, HA, HK1, HB⟩ := hrel
    cases gk with
    | zero => exact absurd HA.out (by simp [wide_order.l0])
    | succ k1 =>
      have H := HA.out
      clear HA
      simp only [wide_order.l0] at H
      by_cases c2 : x7_1 < (l0.length : Int)
      · rw [if_pos c2] at H
        have c2b0 : decide (x7_1 < (l0.length : Int)) = true := decide_eq_true c2
        clear c2
        by_cases c3 : 0 ≤ x7_1
        · rw [if_pos c3] at H
          have c3b0 : decide (0 ≤ x7_1) = true := decide_eq_true c3
          clear c3
          by_cases c4 : x7_1 < (l0.length : Int)
          · rw [if_pos c4] at H
            have c4b0 : decide (x7_1 < (l0.length : Int)) = true := decide_eq_true c4
            clear c4
            by_cases c5 : ((rd_T82 l0 x7_1).f0) < ((rd_T82 l0 x7_1).f1)
            · rw [if_pos c5] at H
              have c5b0 : decide (((rd_T82 l0 x7_1).f0) < ((rd_T82 l0 x7_1).f1)) = true := decide_eq_true c5
              clear c5
              obtain rfl := Option.some.inj H
              have p1751 : 0 ≤ (x7_1 : Int) := of_decide_eq_true (by first | (with_reducible assumption) | assumption)
              have q1751 : x7_1 < (l0.length : Int) := of_decide_eq_true (by first | (with_reducible assumption) | assumption)
              obtain ⟨ad1751, e1751, hx1751_0, hx1751_1⟩ := at_T82 HR0.out x7_1 p1751 q1751
              cases e1751
              replace hx1751_0 := (HB.out.cell (World.block_lt_of_cell? w _ hx1751_0)).trans hx1751_0
              replace hx1751_1 := (HB.out.cell (World.block_lt_of_cell? w _ hx1751_1)).trans hx1751_1
              replace p1751 := eq_true p1751
              replace q1751 := eq_true q1751
              go_wp2_with (first | ((with_reducible refine gate_dst (N := 4) rfl ?_); refine kx 4 #[.int .u64 0, .int .u64 0] 82 ?_; intro gb1752 hg w6 hbox hb; have BK1752 := Aside0.mk (hbox); have GW1752 := kg HB hg; have GE1752 := kg HB hg; replace HB := kh HB hb; clear hb hbox hg; have hcz7_0 : w6.cell? ⟨gb1752, 0, none⟩ = some (.int .u64 0) := bc BK1752 0; have hcz7_1 : w6.cell? ⟨gb1752, 1, none⟩ = some (.int .u64 0) := bc BK1752 1; have hfz7_0 := blk_frozen BK1752.out 0; have hfz7_1 := blk_frozen BK1752.out 1))
              go_ret
              exact ⟨pe, pl HB⟩
            · rw [if_neg c5] at H
              have c5b0 : decide (((rd_T82 l0 x7_1).f0) < ((rd_T82 l0 x7_1).f1)) = false := decide_eq_false c5
              clear c5
              by_cases c8 : ((rd_T82 l0 x7_1).f0) > ((rd_T82 l0 x7_1).f1)
              · rw [if_pos c8] at H
                have c8b0 : decide (((rd_T82 l0 x7_1).f1) < ((rd_T82 l0 x7_1).f0)) = true := decide_eq_true c8
                clear c8
                obtain rfl := Option.some.inj H
                have p1751 : 0 ≤ (x7_1 : Int) := of_decide_eq_true (by first | (with_reducible assumption) | assumption)
                have q1751 : x7_1 < (l0.length : Int) := of_decide_eq_true (by first | (with_reducible assumption) | assumption)
                obtain ⟨ad1751, e1751, hx1751_0, hx1751_1⟩ := at_T82 HR0.out x7_1 p1751 q1751
                cases e1751
                replace hx1751_0 := (HB.out.cell (World.block_lt_of_cell? w _ hx1751_0)).trans hx1751_0
                replace hx1751_1 := (HB.out.cell (World.block_lt_of_cell? w _ hx1751_1)).trans hx1751_1
                replace p1751 := eq_true p1751
                replace q1751 := eq_true q1751
                go_wp2_with (first | ((with_reducible refine gate_dst (N := 4) rfl ?_); refine kx 4 #[.int .u64 0, .int .u64 0] 82 ?_; intro gb1752 hg w9 hbox hb; have BK1752 := Aside0.mk (hbox); have GW1752 := kg HB hg; have GE1752 := kg HB hg; replace HB := kh HB hb; clear hb hbox hg; have hcz10_0 : w9.cell? ⟨gb1752, 0, none⟩ = some (.int .u64 0) := bc BK1752 0; have hcz10_1 : w9.cell? ⟨gb1752, 1, none⟩ = some (.int .u64 0) := bc BK1752 1; have hfz10_0 := blk_frozen BK1752.out 0; have hfz10_1 := blk_frozen BK1752.out 1))
                go_ret
                exact ⟨pe, pl HB⟩
              · rw [if_neg c8] at H
                have c8b0 : decide (((rd_T82 l0 x7_1).f1) < ((rd_T82 l0 x7_1).f0)) = false := decide_eq_false c8
                clear c8
                have H' := Aside0.mk H
                clear H
                have p1751 : 0 ≤ (x7_1 : Int) := of_decide_eq_true (by first | (with_reducible assumption) | assumption)
                have q1751 : x7_1 < (l0.length : Int) := of_decide_eq_true (by first | (with_reducible assumption) | assumption)
                obtain ⟨ad1751, e1751, hx1751_0, hx1751_1⟩ := at_T82 HR0.out x7_1 p1751 q1751
                cases e1751
                replace hx1751_0 := (HB.out.cell (World.block_lt_of_cell? w _ hx1751_0)).trans hx1751_0
                replace hx1751_1 := (HB.out.cell (World.block_lt_of_cell? w _ hx1751_1)).trans hx1751_1
                replace p1751 := eq_true p1751
                replace q1751 := eq_true q1751
                go_wp2_with (first | ((with_reducible refine gate_dst (N := 4) rfl ?_); refine kx 4 #[.int .u64 0, .int .u64 0] 82 ?_; intro gb1752 hg w11 hbox hb; have BK1752 := Aside0.mk (hbox); have GW1752 := kg HB hg; have GE1752 := kg HB hg; replace HB := kh HB hb; clear hb hbox hg; have hcz12_0 : w11.cell? ⟨gb1752, 0, none⟩ = some (.int .u64 0) := bc BK1752 0; have hcz12_1 : w11.cell? ⟨gb1752, 1, none⟩ = some (.int .u64 0) := bc BK1752 1; have hfz12_0 := blk_frozen BK1752.out 0; have hfz12_1 := blk_frozen BK1752.out 1))
                go_roundg k1
                case measure => have := HK1.out; omega
                case rel => exact ⟨(wrap64 (x7_1 + 1)), (by first | rfl | (simp; done) | (simp [*]; done)), H', ⟨by have := HK1.out; omega⟩, ⟨pl HB⟩⟩
          · rw [if_neg c4] at H
            exact absurd H (by simp)
        · rw [if_neg c3] at H
          exact absurd H (by simp)
      · rw [if_neg c2] at H
        have c2b0 : decide (x7_1 < (l0.length : Int)) = false := decide_eq_false c2
        clear c2
        obtain rfl := Option.some.inj H
        go_wp2
        go_ret
        exact ⟨pe, pl HB⟩
end Go.Proofs.Ytdchdapllehppaa.PAll
end
