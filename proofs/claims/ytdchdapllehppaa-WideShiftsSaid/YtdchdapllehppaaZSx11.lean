/- Functions of the print, turned to this claim. -/
import Derived.Test.YtdchdapllehppaaZSW
import Derived.Test.YtdchdapllehppaaZSx0
import Derived.Test.YtdchdapllehppaaZSx1
import Derived.Test.YtdchdapllehppaaZSx2
import Derived.Test.YtdchdapllehppaaZSx9
section
namespace Go.Proofs.Ytdchdapllehppaa.PAll
open Go.RowKit Go.Proofs.YtdchdapllehppaaW.PrintWords Go.Proofs.YtdchdapllehppaaW.PrintLast Go.Proofs.YtdchdapllehppaaW.PrintMore
attribute [local go_sem] max2_int min2_int max_two min_two max_three min_three max_four min_four   -- for this text's walks alone
set_option linter.unusedVariables false
set_option linter.unusedSimpArgs false
attribute [local go_sem high] eqA24 eqA26
/-! ### wide_U128_Shl: function 25 -/
def wide_U128_Shl.l0 : Nat → Int → Int → Int → Option (Int × Int)
  | 0, _, _, _ => none
  | k + 1, x1, x3552000, x3552001 => if x1 ≥ 64 then (if (x3552001 == 0) = true then (some (x3552001, 0)) else (wide_U128_Shl.l0 k (wrap64 (x1 - 64)) x3552001 0)) else (if x1 ≤ 0 then (some (x3552000, x3552001)) else (if 0 ≤ x1 then (if 0 ≤ (wrap64 (64 - x1)) then (some (Go.bits .or .u64 (shl .u64 x3552000 x1) (shr .u64 x3552001 (wrap64 (64 - x1))), shl .u64 x3552001 x1)) else (none)) else (none)))
def wide_U128_Shl.f (k : Nat) (a0_0 : Int) (a0_1 : Int) (a1 : Int) : Option (Int × Int) := wide_U128_Shl.l0 k a1 a0_0 a0_1
theorem wide_U128_Shl.mono_l : ∀ k, (∀ y0 y1 y2, LeO (wide_U128_Shl.l0 k y0 y1 y2) (wide_U128_Shl.l0 (k + 1) y0 y1 y2))
  | 0 => fun _ _ _ r h => by simp [wide_U128_Shl.l0] at h
  | k + 1 => by
    have ih0 := wide_U128_Shl.mono_l k
    · intro y0 y1 y2
      unfold wide_U128_Shl.l0
      repeat' first
      | (with_reducible exact ih0 _ _ _)
      | (with_reducible exact LeO.refl _)
      | (with_reducible exact LeO.none _)
      | (with_reducible refine LeO.ite ?_ ?_)
      | (with_reducible refine LeO.bind ?_ (fun _ => ?_))
      | exact ih0 _ _ _
      | exact LeO.none _
      | refine LeO.ite ?_ ?_
      | refine LeO.bind ?_ (fun _ => ?_)
theorem wide_U128_Shl.mono : ∀ a0 a1 a2 k, LeO (wide_U128_Shl.f k a0 a1 a2) (wide_U128_Shl.f (k + 1) a0 a1 a2) := by
  intro a0 a1 a2 k
  have ih0 := wide_U128_Shl.mono_l k
  unfold wide_U128_Shl.f
  repeat' first
      | (with_reducible exact ih0 _ _ _)
      | (with_reducible exact LeO.refl _)
      | (with_reducible exact LeO.none _)
      | (with_reducible refine LeO.ite ?_ ?_)
      | (with_reducible refine LeO.bind ?_ (fun _ => ?_))
      | exact ih0 _ _ _
      | exact LeO.none _
      | refine LeO.ite ?_ ?_
      | refine LeO.bind ?_ (fun _ => ?_)
def wide_U128_Shl.T8 : Bool × List (List Nat × List Nat) := (true, [([], []), ([0], [0]), ([], []), ([1, 2], [1, 2]), ([], []), ([4], [4]), ([], []), ([6], [6]), ([5, 7], [5, 7]), ([3, 8], [3, 8]), ([], []), ([10], [10]), ([], []), ([11, 12], [11, 12]), ([9, 13], [9, 13]), ([14, 0, 1, 2, 3, 4, 5, 6, 7, 8, 9, 10, 11, 12, 13, 14], [14])])
def wide_U128_Shl.B8 : List Nat := [0, 1, 0, 7, 0, 16, 0, 64, 240, 511, 0, 1024, 0, 7168, 16383, 32767]
theorem wide_U128_Shl.tab8 : rtab .any (opsOf Try.f25 8) = wide_U128_Shl.T8 := by kernel_rfl
theorem wide_U128_Shl.bits8 : waitsOk wide_U128_Shl.T8.2 wide_U128_Shl.B8 = true := by kernel_rfl
set_option maxHeartbeats 8000000 in
set_option maxRecDepth 100000 in
theorem wide_U128_Shl.calls (k : Nat) (a0_0 : Int) (a0_1 : Int) (a1 : Int) (r1 : Int) (r2 : Int) (w : World) (h : wide_U128_Shl.f k a0_0 a0_1 a1 = some (r1, r2)) :
    Calls Try.prog 25 #[.agg #[.int .u64 a0_0, .int .u64 a0_1], .int .i64 a1] w fun e w' => e = .returned (.agg #[.int .u64 r1, .int .u64 r2]) ∧ Below w.heap.size w w' := by
  have hu24 := Try.underlying24
  have HB := Aside0.mk (Below.refl w.heap.size w)
  have H := h
  clear h
  unfold wide_U128_Shl.f at H
  have H' := Aside0.mk H
  clear H
  go_enter Try.func25, Try.ntmps25
  go_wp2_with (first | ((with_reducible refine gate_dst (N := 2) rfl ?_); refine kx 2 #[.int .u64 a0_0, .int .u64 a0_1] 24 ?_; intro gb3551 hg w3 hbox hb; have BK3551 := Aside0.mk (hbox); have GW3551 := kg HB hg; have GE3551 := kg HB hg; replace HB := kh HB hb; clear hb hbox hg) | ((with_reducible refine gate_dst (N := 4) rfl ?_); refine kx 4 #[.int .u64 0, .int .u64 0] 24 ?_; intro gb3552 hg w4 hbox hb; have BK3552 := Aside0.mk (hbox); have GW3552 := kg HB hg; have GE3552 := kg HB hg; have NB3551_3552 := kn BK3551 hg; have NB3552_3551 := km BK3551 hg; replace BK3551 := kb BK3551 hb; replace HB := kh HB hb; clear hb hbox hg))
  simp only [Act.put, List.setIfInBounds_toArray, List.set_cons_zero, List.set_cons_succ]
  go_loopg [1] k (fun kq v1 w' => ∃ (x1_1 : Int) (x3552000_1 : Int) (x3552001_1 : Int) (x3553000_1 : Int) (x3553001_1 : Int), v1 = .int .i64 x1_1 ∧ Aside0 (wide_U128_Shl.l0 kq x1_1 x3552000_1 x3552001_1 = some (r1, r2)) ∧ Aside0 (kq ≤ k) ∧ Aside0 (w'.heap[gb3551]? = some (.cells #[.int .u64 x3552000_1, .int .u64 x3552001_1] 24 (0, 0))) ∧ Aside0 (w'.heap[gb3552]? = some (.cells #[.int .u64 x3553000_1, .int .u64 x3553001_1] 24 (0, 0))) ∧ Aside0 (Below w.heap.size w w'))
  case atStart => exact ⟨(a1), (a0_0), (a0_1), (0), (0), (by first | rfl | (simp; done) | (simp [*]; done)), H', ⟨Nat.le_refl _⟩, ⟨pk BK3551⟩, ⟨pk BK3552⟩, ⟨pl HB⟩⟩
  case round =>
    clear H'
    try clear c2
    try clear p2
    obtain ⟨x1_1, x3552000_1, x3552001_1, x3553000_1, x3553001_1, rfl, HA, HK1, BK3551, BK3552, HB⟩ := hrel
    cases gk with
    | zero => exact absurd HA.out (by simp [wide_U128_Shl.l0])
    | succ k1 =>
      have H := HA.out
      clear HA
      simp only [wide_U128_Shl.l0] at H
      by_cases c5 : x1_1 ≥ 64
      · rw [if_pos c5] at H
        have c5b0 : decide (64 ≤ x1_1) = true := decide_eq_true c5
        clear c5
        by_cases c6 : (x3552001_1 == 0) = true
        · rw [if_pos c6] at H
          have c6b0 : (x3552001_1 == 0) = true := c6
          (try (have c6b1 : decide (x3552001_1 = 0) = true := by simpa using c6))
          (try (have c6b2 : (x3552001_1 == 0) = true := by simpa using c6))
          clear c6
          simp only [Option.some.injEq, Prod.mk.injEq] at H
          obtain ⟨rfl, rfl⟩ := H
          have hnb7 := NB3551_3552.out
          have hnc7 := NB3552_3551.out
          have hcz8_0 : wr.cell? ⟨gb3551, 0, none⟩ = some (.int .u64 x3552000_1) := bc BK3551 0
          have hcz8_1 : wr.cell? ⟨gb3551, 1, none⟩ = some (.int .u64 x3552001_1) := bc BK3551 1
          have hfz8_0 := blk_frozen BK3551.out 0
          have hfz8_1 := blk_frozen BK3551.out 1
          have hcz9_0 : wr.cell? ⟨gb3552, 0, none⟩ = some (.int .u64 x3553000_1) := bc BK3552 0
          have hcz9_1 : wr.cell? ⟨gb3552, 1, none⟩ = some (.int .u64 x3553001_1) := bc BK3552 1
          have hfz9_0 := blk_frozen BK3552.out 0
          have hfz9_1 := blk_frozen BK3552.out 1
          go_wp2
          refine bodyPost_ret (results_cell_row rfl _ _ gb3552 24 #[.int .u64 x3552001_1, .int .u64 0] (0, 0) _ rfl (pK BK3552) Try.underlying24 rfl (by kernel_rfl)) rfl ?_
          exact ⟨pe, pl HB⟩
        · rw [if_neg c6] at H
          have c6b0 : (x3552001_1 == 0) = false := by simpa using c6
          (try (have c6b1 : decide (x3552001_1 = 0) = false := by simpa using c6))
          (try (have c6b2 : (x3552001_1 == 0) = false := by simpa using c6))
          (try (have c6b3 : ¬ (x3552001_1 = 0) := by simpa using c6))
          clear c6
          have H' := Aside0.mk H
          clear H
          have hnb10 := NB3551_3552.out
          have hnc10 := NB3552_3551.out
          have hcz11_0 : wr.cell? ⟨gb3551, 0, none⟩ = some (.int .u64 x3552000_1) := bc BK3551 0
          have hcz11_1 : wr.cell? ⟨gb3551, 1, none⟩ = some (.int .u64 x3552001_1) := bc BK3551 1
          have hfz11_0 := blk_frozen BK3551.out 0
          have hfz11_1 := blk_frozen BK3551.out 1
          go_wp2
          go_roundg k1
          case measure => have := HK1.out; omega
          case rel => exact ⟨(wrap64 (x1_1 - 64)), (x3552001_1), (0), (x3553000_1), (x3553001_1), (by first | rfl | (simp; done) | (simp [*]; done)), H', ⟨by have := HK1.out; omega⟩, ⟨pK BK3551⟩, ⟨pk BK3552⟩, ⟨pl HB⟩⟩
      · rw [if_neg c5] at H
        have c5b0 : decide (64 ≤ x1_1) = false := decide_eq_false c5
        clear c5
        by_cases c12 : x1_1 ≤ 0
        · rw [if_pos c12] at H
          have c12b0 : decide (x1_1 ≤ 0) = true := decide_eq_true c12
          clear c12
          simp only [Option.some.injEq, Prod.mk.injEq] at H
          obtain ⟨rfl, rfl⟩ := H
          have hnb13 := NB3551_3552.out
          have hnc13 := NB3552_3551.out
          have hcz14_0 : wr.cell? ⟨gb3551, 0, none⟩ = some (.int .u64 x3552000_1) := bc BK3551 0
          have hcz14_1 : wr.cell? ⟨gb3551, 1, none⟩ = some (.int .u64 x3552001_1) := bc BK3551 1
          have hfz14_0 := blk_frozen BK3551.out 0
          have hfz14_1 := blk_frozen BK3551.out 1
          have hcz15_0 : wr.cell? ⟨gb3552, 0, none⟩ = some (.int .u64 x3553000_1) := bc BK3552 0
          have hcz15_1 : wr.cell? ⟨gb3552, 1, none⟩ = some (.int .u64 x3553001_1) := bc BK3552 1
          have hfz15_0 := blk_frozen BK3552.out 0
          have hfz15_1 := blk_frozen BK3552.out 1
          go_wp2
          refine bodyPost_ret (results_cell_row rfl _ _ gb3552 24 #[.int .u64 x3552000_1, .int .u64 x3552001_1] (0, 0) _ rfl (pK BK3552) Try.underlying24 rfl (by kernel_rfl)) rfl ?_
          exact ⟨pe, pl HB⟩
        · rw [if_neg c12] at H
          have c12b0 : decide (x1_1 ≤ 0) = false := decide_eq_false c12
          clear c12
          by_cases c16 : 0 ≤ x1_1
          · rw [if_pos c16] at H
            have c16b0 := eq_true c16
            have c16b1 : decide (0 ≤ x1_1) = true := decide_eq_true c16
            clear c16
            obtain ⟨ji17, hji17⟩ : ∃ j_ : Int, (shl .u64 x3552000_1 x1_1) = j_ := ⟨_, rfl⟩
            replace H : (if 0 ≤ (wrap64 (64 - x1_1)) then (some (Go.bits .or .u64 (ji17) (shr .u64 x3552001_1 (wrap64 (64 - x1_1))), shl .u64 x3552001_1 x1_1)) else (none)) = some (r1, r2) := by first | (rw [hji17] at H; exact H) | (simp only [hji17] at H ⊢; exact H)
            have hji17_ : (IntKind.u64.wrap (x3552000_1 * 2 ^ min x1_1.toNat 64)) = ji17 := hji17
            have hji17z : x1_1 ≤ 64 → (IntKind.u64.wrap (x3552000_1 * 2 ^ x1_1.toNat)) = ji17 := shl_small hji17
            obtain ⟨ji18, hji18⟩ : ∃ j_ : Int, (wrap64 (64 - x1_1)) = j_ := ⟨_, rfl⟩
            replace H : (if 0 ≤ (ji18) then (some (Go.bits .or .u64 (ji17) (shr .u64 x3552001_1 (ji18)), shl .u64 x3552001_1 x1_1)) else (none)) = some (r1, r2) := by first | (rw [hji18] at H; exact H) | (simp only [hji18] at H ⊢; exact H)
            have hji18w : (IntKind.i64.wrap (64 - x1_1)) = ji18 := (i64_w _).trans hji18
            by_cases c19 : 0 ≤ (ji18)
            · rw [if_pos c19] at H
              have c19b0 := eq_true c19
              have c19b1 : decide (0 ≤ (ji18)) = true := decide_eq_true c19
              clear c19
              obtain ⟨ji20, hji20⟩ : ∃ j_ : Int, (shr .u64 x3552001_1 (ji18)) = j_ := ⟨_, rfl⟩
              replace H : (some (Go.bits .or .u64 (ji17) (ji20), shl .u64 x3552001_1 x1_1)) = some (r1, r2) := by first | (rw [hji20] at H; exact H) | (simp only [hji20] at H ⊢; exact H)
              have hji20_ : (x3552001_1 / 2 ^ min (ji18).toNat 64) = ji20 := hji20
              have hji20z : (ji18) ≤ 64 → (x3552001_1 / 2 ^ (ji18).toNat) = ji20 := shr_small hji20
              have c21b0 := eq_true (of_decide_eq_true (by first | (with_reducible assumption) | assumption) : 0 ≤ x1_1)
              obtain ⟨ji22, hji22⟩ : ∃ j_ : Int, (shl .u64 x3552001_1 x1_1) = j_ := ⟨_, rfl⟩
              replace H : (some (Go.bits .or .u64 (ji17) (ji20), ji22)) = some (r1, r2) := by first | (rw [hji22] at H; exact H) | (simp only [hji22] at H ⊢; exact H)
              have hji22_ : (IntKind.u64.wrap (x3552001_1 * 2 ^ min x1_1.toNat 64)) = ji22 := hji22
              have hji22z : x1_1 ≤ 64 → (IntKind.u64.wrap (x3552001_1 * 2 ^ x1_1.toNat)) = ji22 := shl_small hji22
              simp only [Option.some.injEq, Prod.mk.injEq] at H
              obtain ⟨rfl, rfl⟩ := H
              try go_wp2
              replace BK3551 := Aside0.mk (blk_drew BK3551.out)
              replace BK3552 := Aside0.mk (blk_drew BK3552.out)
              replace HB := Aside0.mk (below_drew1 HB.out)
              refine start_ (n := 16) (S := fun w' => w'.cell? ⟨gb3551, 0, none⟩ = some (.int .u64 x3552000_1) ∧ w'.cell? ⟨gb3551, 1, none⟩ = some (.int .u64 x3552001_1)) (ds := []) #[false, false, false, false, false, false, false, false, false, false, false, false, false, false, false, false] (by kernel_rfl) rfl rfl ⟨bc BK3551 0, bc BK3551 1⟩ (fun hHeld => ?_); refine with_tabW wide_U128_Shl.tab8 wide_U128_Shl.bits8 (fun HT_ HW_ => ?_)
              generalize wr.drew = w23 at BK3551 BK3552 HB hHeld ⊢
              refine pur 0 (some 19) #[true, false, false, false, false, false, false, false, false, false, false, false, false, false, false, false] (any_of HT_.out (by kernel_rfl)) ?_
              refine pur 2 (some 21) #[true, false, true, false, false, false, false, false, false, false, false, false, false, false, false, false] (any_of HT_.out (by kernel_rfl)) ?_
              refine pur 4 (some 23) #[true, false, true, false, true, false, false, false, false, false, false, false, false, false, false, false] (any_of HT_.out (by kernel_rfl)) ?_
              refine pur 6 (some 25) #[true, false, true, false, true, false, true, false, false, false, false, false, false, false, false, false] (any_of HT_.out (by kernel_rfl)) ?_
              refine pur 7 (some 26) #[true, false, true, false, true, false, true, true, false, false, false, false, false, false, false, false] (any_of HT_.out (by kernel_rfl)) ?_
              refine pur 10 (some 29) #[true, false, true, false, true, false, true, true, false, false, true, false, false, false, false, false] (any_of HT_.out (by kernel_rfl)) ?_
              refine pur 12 (some 31) #[true, false, true, false, true, false, true, true, false, false, true, false, true, false, false, false] (any_of HT_.out (by kernel_rfl)) ?_
              refine tak 1 (some 20) #[true, true, true, false, true, false, true, true, false, false, true, false, true, false, false, false] (take_ofW HT_.out HW_.out (by kernel_rfl)) hHeld ?_
              refine pur 3 (some 22) #[true, true, true, true, true, false, true, true, false, false, true, false, true, false, false, false] (any_of HT_.out (by kernel_rfl)) ?_
              refine tak 5 (some 24) #[true, true, true, true, true, true, true, true, false, false, true, false, true, false, false, false] (take_ofW HT_.out HW_.out (by kernel_rfl)) hHeld ?_
              refine pur 8 (some 27) #[true, true, true, true, true, true, true, true, true, false, true, false, true, false, false, false] (any_of HT_.out (by kernel_rfl)) ?_
              refine pur 9 (some 28) #[true, true, true, true, true, true, true, true, true, true, true, false, true, false, false, false] (any_of HT_.out (by kernel_rfl)) ?_
              refine tak 11 (some 30) #[true, true, true, true, true, true, true, true, true, true, true, true, true, false, false, false] (take_ofW HT_.out HW_.out (by kernel_rfl)) hHeld ?_
              refine pur 13 (some 32) #[true, true, true, true, true, true, true, true, true, true, true, true, true, true, false, false] (any_of HT_.out (by kernel_rfl)) ?_
              refine pur 14 (some 33) #[true, true, true, true, true, true, true, true, true, true, true, true, true, true, true, false] (any_of HT_.out (by kernel_rfl)) ?_
              refine one_ (i := 15) (N := none) #[true, true, true, true, true, true, true, true, true, true, true, true, true, true, true, true] rfl rfl (one_of HT_.out (by kernel_rfl)) (by decide) (fun K hK => ?_)
              have hs24 : w23.cell? ⟨gb3552, 0, none⟩ = some (.int .u64 x3553000_1) := bc BK3552 0
              have hfs24 := blk_frozen BK3552.out 0
              have hns24_0 := NB3551_3552.out
              have hms24_0 := NB3552_3551.out
              have hs25 : w23.cell? ⟨gb3552, 1, none⟩ = some (.int .u64 x3553001_1) := bc BK3552 1
              have hfs25 := blk_frozen BK3552.out 1
              refine skip_ (w1 := ?_) (by rfl) rfl ?_ ?_
              rotate_left
              · go_simp
                rfl
              refine hK.out _ _ ⟨cf hHeld.1, cf hHeld.2⟩ (fun hHeld => ?_)
              clear hK K
              refine done_ (done_of HT_.out (by kernel_rfl)) ?_
              try go_wp2
              refine bodyPost_ret (results_cell_row rfl _ _ gb3552 24 #[.int .u64 (Go.bits .or .u64 (ji17) (ji20)), .int .u64 ji22] (0, 0) _ rfl (pK BK3552) Try.underlying24 rfl (by kernel_rfl)) rfl ?_
              exact ⟨by first | rfl | (simp [errW_none, errW_some] <;> rfl) | (simp only [← hji17, ← hji18, ← hji20, ← hji22]; first | rfl | (simp [errW_none, errW_some] <;> rfl)) | (simp [*, errW_none, errW_some] <;> rfl), pl HB⟩
            · rw [if_neg c19] at H
              exact absurd H (by simp)
          · rw [if_neg c16] at H
            exact absurd H (by simp)
/-! ### wide_U192_Shl: function 44 -/
def wide_U192_Shl.l0 : Nat → Int → Int → Int → Int → Option (Int × Int × Int)
  | 0, _, _, _, _ => none
  | k + 1, x1, x3702000, x3702001, x3702002 => if x1 ≥ 64 then (if (x3702001 == 0 && (x3702002 == 0)) = true then (some (x3702001, x3702002, 0)) else (wide_U192_Shl.l0 k (wrap64 (x1 - 64)) x3702001 x3702002 0)) else (if x1 ≤ 0 then (some (x3702000, x3702001, x3702002)) else ((wide_U192_top.f x3702000 x3702001 x3702002).bind fun bt3703 => ((wide_U128_Shl.f k bt3703.1 bt3703.2 x1).bind fun bt3705 => (if 0 ≤ (wrap64 (64 - x1)) then (if 0 ≤ x1 then (some (bt3705.1, Go.bits .or .u64 bt3705.2 (shr .u64 x3702002 (wrap64 (64 - x1))), shl .u64 x3702002 x1)) else (none)) else (none)))))
def wide_U192_Shl.f (k : Nat) (a0_0 : Int) (a0_1 : Int) (a0_2 : Int) (a1 : Int) : Option (Int × Int × Int) := wide_U192_Shl.l0 k a1 a0_0 a0_1 a0_2
theorem wide_U192_Shl.mono_l : ∀ k, (∀ y0 y1 y2 y3, LeO (wide_U192_Shl.l0 k y0 y1 y2 y3) (wide_U192_Shl.l0 (k + 1) y0 y1 y2 y3))
  | 0 => fun _ _ _ _ r h => by simp [wide_U192_Shl.l0] at h
  | k + 1 => by
    have ih0 := wide_U192_Shl.mono_l k
    · intro y0 y1 y2 y3
      unfold wide_U192_Shl.l0
      repeat' first
      | (with_reducible exact ih0 _ _ _ _)
      | (with_reducible exact wide_U128_Shl.mono _ _ _ _)
      | (with_reducible exact LeO.refl _)
      | (with_reducible exact LeO.none _)
      | (with_reducible refine LeO.ite ?_ ?_)
      | (with_reducible refine LeO.bind ?_ (fun _ => ?_))
      | exact ih0 _ _ _ _
      | exact wide_U128_Shl.mono _ _ _ _
      | exact LeO.none _
      | refine LeO.ite ?_ ?_
      | refine LeO.bind ?_ (fun _ => ?_)
theorem wide_U192_Shl.mono : ∀ a0 a1 a2 a3 k, LeO (wide_U192_Shl.f k a0 a1 a2 a3) (wide_U192_Shl.f (k + 1) a0 a1 a2 a3) := by
  intro a0 a1 a2 a3 k
  have ih0 := wide_U192_Shl.mono_l k
  unfold wide_U192_Shl.f
  repeat' first
      | (with_reducible exact ih0 _ _ _ _)
      | (with_reducible exact wide_U128_Shl.mono _ _ _ _)
      | (with_reducible exact LeO.refl _)
      | (with_reducible exact LeO.none _)
      | (with_reducible refine LeO.ite ?_ ?_)
      | (with_reducible refine LeO.bind ?_ (fun _ => ?_))
      | exact ih0 _ _ _ _
      | exact wide_U128_Shl.mono _ _ _ _
      | exact LeO.none _
      | refine LeO.ite ?_ ?_
      | refine LeO.bind ?_ (fun _ => ?_)
def wide_U192_Shl.T9 : Bool × List (List Nat × List Nat) := (true, [([], []), ([0], [0]), ([], []), ([2], [2]), ([], []), ([4], [4]), ([], []), ([6], [6]), ([5, 7], [5, 7]), ([3, 8], [3, 8]), ([], []), ([10], [10]), ([], []), ([11, 12], [11, 12]), ([1, 9, 13], [1, 9, 13]), ([14, 0, 1, 2, 3, 4, 5, 6, 7, 8, 9, 10, 11, 12, 13, 14], [14])])
def wide_U192_Shl.B9 : List Nat := [0, 1, 0, 4, 0, 16, 0, 64, 240, 508, 0, 1024, 0, 7168, 16383, 32767]
theorem wide_U192_Shl.tab9 : rtab .any (opsOf Try.f44 9) = wide_U192_Shl.T9 := by kernel_rfl
theorem wide_U192_Shl.bits9 : waitsOk wide_U192_Shl.T9.2 wide_U192_Shl.B9 = true := by kernel_rfl
set_option maxHeartbeats 8000000 in
set_option maxRecDepth 100000 in
theorem wide_U192_Shl.calls (k : Nat) (a0_0 : Int) (a0_1 : Int) (a0_2 : Int) (a1 : Int) (r1 : Int) (r2 : Int) (r3 : Int) (w : World) (h : wide_U192_Shl.f k a0_0 a0_1 a0_2 a1 = some (r1, r2, r3)) :
    Calls Try.prog 44 #[.agg #[.int .u64 a0_0, .int .u64 a0_1, .int .u64 a0_2], .int .i64 a1] w fun e w' => e = .returned (.agg #[.int .u64 r1, .int .u64 r2, .int .u64 r3]) ∧ Below w.heap.size w w' := by
  have hu26 := Try.underlying26
  have hu24 := Try.underlying24
  have HB := Aside0.mk (Below.refl w.heap.size w)
  have H := h
  clear h
  unfold wide_U192_Shl.f at H
  have H' := Aside0.mk H
  clear H
  go_enter Try.func44, Try.ntmps44
  go_wp2_with (first | ((with_reducible refine gate_dst (N := 2) rfl ?_); refine kx 2 #[.int .u64 a0_0, .int .u64 a0_1, .int .u64 a0_2] 26 ?_; intro gb3701 hg w3 hbox hb; have BK3701 := Aside0.mk (hbox); have GW3701 := kg HB hg; have GE3701 := kg HB hg; replace HB := kh HB hb; clear hb hbox hg) | ((with_reducible refine gate_dst (N := 4) rfl ?_); refine kx 4 #[.int .u64 0, .int .u64 0, .int .u64 0] 26 ?_; intro gb3702 hg w4 hbox hb; have BK3702 := Aside0.mk (hbox); have GW3702 := kg HB hg; have GE3702 := kg HB hg; have NB3701_3702 := kn BK3701 hg; have NB3702_3701 := km BK3701 hg; replace BK3701 := kb BK3701 hb; replace HB := kh HB hb; clear hb hbox hg))
  simp only [Act.put, List.setIfInBounds_toArray, List.set_cons_zero, List.set_cons_succ]
  go_loopg [1] k (fun kq v1 w' => ∃ (x1_1 : Int) (x3702000_1 : Int) (x3702001_1 : Int) (x3702002_1 : Int) (x3703000_1 : Int) (x3703001_1 : Int) (x3703002_1 : Int), v1 = .int .i64 x1_1 ∧ Aside0 (wide_U192_Shl.l0 kq x1_1 x3702000_1 x3702001_1 x3702002_1 = some (r1, r2, r3)) ∧ Aside0 (kq ≤ k) ∧ Aside0 (w'.heap[gb3701]? = some (.cells #[.int .u64 x3702000_1, .int .u64 x3702001_1, .int .u64 x3702002_1] 26 (0, 0))) ∧ Aside0 (w'.heap[gb3702]? = some (.cells #[.int .u64 x3703000_1, .int .u64 x3703001_1, .int .u64 x3703002_1] 26 (0, 0))) ∧ Aside0 (Below w.heap.size w w'))
  case atStart => exact ⟨(a1), (a0_0), (a0_1), (a0_2), (0), (0), (0), (by first | rfl | (simp; done) | (simp [*]; done)), H', ⟨Nat.le_refl _⟩, ⟨pk BK3701⟩, ⟨pk BK3702⟩, ⟨pl HB⟩⟩
  case round =>
    clear H'
    try clear p2
    try clear c4
    obtain ⟨x1_1, x3702000_1, x3702001_1, x3702002_1, x3703000_1, x3703001_1, x3703002_1, rfl, HA, HK1, BK3701, BK3702, HB⟩ := hrel
    cases gk with
    | zero => exact absurd HA.out (by simp [wide_U192_Shl.l0])
    | succ k1 =>
      have H := HA.out
      clear HA
      simp only [wide_U192_Shl.l0] at H
      by_cases c5 : x1_1 ≥ 64
      · rw [if_pos c5] at H
        have c5b0 : decide (64 ≤ x1_1) = true := decide_eq_true c5
        clear c5
        by_cases c6 : (x3702001_1 == 0 && (x3702002_1 == 0)) = true
        · rw [if_pos c6] at H
          have c6b0 : (x3702001_1 == 0 && (x3702002_1 == 0)) = true := c6
          (try (have c6b1 : decide (x3702001_1 = 0 && (x3702002_1 == 0)) = true := by simpa using c6))
          (try (have c6b2 : (x3702001_1 == 0 && (x3702002_1 == 0)) = true := by simpa using c6))
          clear c6
          simp only [Option.some.injEq, Prod.mk.injEq] at H
          obtain ⟨rfl, rfl, rfl⟩ := H
          have hnb7 := NB3701_3702.out
          have hnc7 := NB3702_3701.out
          have hcz8_0 : wr.cell? ⟨gb3701, 0, none⟩ = some (.int .u64 x3702000_1) := bc BK3701 0
          have hcz8_1 : wr.cell? ⟨gb3701, 1, none⟩ = some (.int .u64 x3702001_1) := bc BK3701 1
          have hcz8_2 : wr.cell? ⟨gb3701, 2, none⟩ = some (.int .u64 x3702002_1) := bc BK3701 2
          have hfz8_0 := blk_frozen BK3701.out 0
          have hfz8_1 := blk_frozen BK3701.out 1
          have hfz8_2 := blk_frozen BK3701.out 2
          have hcz9_0 : wr.cell? ⟨gb3702, 0, none⟩ = some (.int .u64 x3703000_1) := bc BK3702 0
          have hcz9_1 : wr.cell? ⟨gb3702, 1, none⟩ = some (.int .u64 x3703001_1) := bc BK3702 1
          have hcz9_2 : wr.cell? ⟨gb3702, 2, none⟩ = some (.int .u64 x3703002_1) := bc BK3702 2
          have hfz9_0 := blk_frozen BK3702.out 0
          have hfz9_1 := blk_frozen BK3702.out 1
          have hfz9_2 := blk_frozen BK3702.out 2
          go_wp2
          refine bodyPost_ret (results_cell_row rfl _ _ gb3702 26 #[.int .u64 x3702001_1, .int .u64 x3702002_1, .int .u64 0] (0, 0) _ rfl (pK BK3702) Try.underlying26 rfl (by kernel_rfl)) rfl ?_
          exact ⟨pe, pl HB⟩
        · rw [if_neg c6] at H
          have c6b0 : (x3702001_1 == 0 && (x3702002_1 == 0)) = false := by simpa using c6
          (try (have c6b1 : decide (x3702001_1 = 0 && (x3702002_1 == 0)) = false := by simpa using c6))
          (try (have c6b2 : (x3702001_1 == 0 && (x3702002_1 == 0)) = false := by simpa using c6))
          (try (have c6b3 : ¬ (x3702001_1 = 0 && (x3702002_1 == 0)) := by simpa using c6))
          clear c6
          have H' := Aside0.mk H
          clear H
          have hnb10 := NB3701_3702.out
          have hnc10 := NB3702_3701.out
          have hcz11_0 : wr.cell? ⟨gb3701, 0, none⟩ = some (.int .u64 x3702000_1) := bc BK3701 0
          have hcz11_1 : wr.cell? ⟨gb3701, 1, none⟩ = some (.int .u64 x3702001_1) := bc BK3701 1
          have hcz11_2 : wr.cell? ⟨gb3701, 2, none⟩ = some (.int .u64 x3702002_1) := bc BK3701 2
          have hfz11_0 := blk_frozen BK3701.out 0
          have hfz11_1 := blk_frozen BK3701.out 1
          have hfz11_2 := blk_frozen BK3701.out 2
          go_wp2
          go_roundg k1
          case measure => have := HK1.out; omega
          case rel => exact ⟨(wrap64 (x1_1 - 64)), (x3702001_1), (x3702002_1), (0), (x3703000_1), (x3703001_1), (x3703002_1), (by first | rfl | (simp; done) | (simp [*]; done)), H', ⟨by have := HK1.out; omega⟩, ⟨pK BK3701⟩, ⟨pk BK3702⟩, ⟨pl HB⟩⟩
      · rw [if_neg c5] at H
        have c5b0 : decide (64 ≤ x1_1) = false := decide_eq_false c5
        clear c5
        by_cases c12 : x1_1 ≤ 0
        · rw [if_pos c12] at H
          have c12b0 : decide (x1_1 ≤ 0) = true := decide_eq_true c12
          clear c12
          simp only [Option.some.injEq, Prod.mk.injEq] at H
          obtain ⟨rfl, rfl, rfl⟩ := H
          have hnb13 := NB3701_3702.out
          have hnc13 := NB3702_3701.out
          have hcz14_0 : wr.cell? ⟨gb3701, 0, none⟩ = some (.int .u64 x3702000_1) := bc BK3701 0
          have hcz14_1 : wr.cell? ⟨gb3701, 1, none⟩ = some (.int .u64 x3702001_1) := bc BK3701 1
          have hcz14_2 : wr.cell? ⟨gb3701, 2, none⟩ = some (.int .u64 x3702002_1) := bc BK3701 2
          have hfz14_0 := blk_frozen BK3701.out 0
          have hfz14_1 := blk_frozen BK3701.out 1
          have hfz14_2 := blk_frozen BK3701.out 2
          have hcz15_0 : wr.cell? ⟨gb3702, 0, none⟩ = some (.int .u64 x3703000_1) := bc BK3702 0
          have hcz15_1 : wr.cell? ⟨gb3702, 1, none⟩ = some (.int .u64 x3703001_1) := bc BK3702 1
          have hcz15_2 : wr.cell? ⟨gb3702, 2, none⟩ = some (.int .u64 x3703002_1) := bc BK3702 2
          have hfz15_0 := blk_frozen BK3702.out 0
          have hfz15_1 := blk_frozen BK3702.out 1
          have hfz15_2 := blk_frozen BK3702.out 2
          go_wp2
          refine bodyPost_ret (results_cell_row rfl _ _ gb3702 26 #[.int .u64 x3702000_1, .int .u64 x3702001_1, .int .u64 x3702002_1] (0, 0) _ rfl (pK BK3702) Try.underlying26 rfl (by kernel_rfl)) rfl ?_
          exact ⟨pe, pl HB⟩
        · rw [if_neg c12] at H
          have c12b0 : decide (x1_1 ≤ 0) = false := decide_eq_false c12
          clear c12
          obtain ⟨⟨t3703, t3704⟩, A160, H⟩ := Option.bind_eq_some_iff.mp H
          have A16 := Aside0.mk A160
          clear A160
          (try dsimp only at H)
          obtain ⟨⟨t3705, t3706⟩, A170, H⟩ := Option.bind_eq_some_iff.mp H
          have A17 := Aside0.mk A170
          clear A170
          (try dsimp only at H)
          obtain ⟨ji18, hji18⟩ : ∃ j_ : Int, (wrap64 (64 - x1_1)) = j_ := ⟨_, rfl⟩
          replace H : (if 0 ≤ (ji18) then (if 0 ≤ x1_1 then (some (t3705, Go.bits .or .u64 t3706 (shr .u64 x3702002_1 (ji18)), shl .u64 x3702002_1 x1_1)) else (none)) else (none)) = some (r1, r2, r3) := by first | (rw [hji18] at H; exact H) | (simp only [hji18] at H ⊢; exact H)
          (try rw [hji18] at A16)
          (try rw [hji18] at A17)
          have hji18w : (IntKind.i64.wrap (64 - x1_1)) = ji18 := (i64_w _).trans hji18
          by_cases c19 : 0 ≤ (ji18)
          · rw [if_pos c19] at H
            have c19b0 := eq_true c19
            have c19b1 : decide (0 ≤ (ji18)) = true := decide_eq_true c19
            clear c19
            obtain ⟨ji20, hji20⟩ : ∃ j_ : Int, (shr .u64 x3702002_1 (ji18)) = j_ := ⟨_, rfl⟩
            replace H : (if 0 ≤ x1_1 then (some (t3705, Go.bits .or .u64 t3706 (ji20), shl .u64 x3702002_1 x1_1)) else (none)) = some (r1, r2, r3) := by first | (rw [hji20] at H; exact H) | (simp only [hji20] at H ⊢; exact H)
            (try rw [hji20] at A16)
            (try rw [hji20] at A17)
            have hji20_ : (x3702002_1 / 2 ^ min (ji18).toNat 64) = ji20 := hji20
            have hji20z : (ji18) ≤ 64 → (x3702002_1 / 2 ^ (ji18).toNat) = ji20 := shr_small hji20
            by_cases c21 : 0 ≤ x1_1
            · rw [if_pos c21] at H
              have c21b0 := eq_true c21
              have c21b1 : decide (0 ≤ x1_1) = true := decide_eq_true c21
              clear c21
              obtain ⟨ji22, hji22⟩ : ∃ j_ : Int, (shl .u64 x3702002_1 x1_1) = j_ := ⟨_, rfl⟩
              replace H : (some (t3705, Go.bits .or .u64 t3706 (ji20), ji22)) = some (r1, r2, r3) := by first | (rw [hji22] at H; exact H) | (simp only [hji22] at H ⊢; exact H)
              (try rw [hji22] at A16)
              (try rw [hji22] at A17)
              have hji22_ : (IntKind.u64.wrap (x3702002_1 * 2 ^ min x1_1.toNat 64)) = ji22 := hji22
              have hji22z : x1_1 ≤ 64 → (IntKind.u64.wrap (x3702002_1 * 2 ^ x1_1.toNat)) = ji22 := shl_small hji22
              simp only [Option.some.injEq, Prod.mk.injEq] at H
              obtain ⟨rfl, rfl, rfl⟩ := H
              have hnb23 := NB3701_3702.out
              have hnc23 := NB3702_3701.out
              have hcz24_0 : wr.cell? ⟨gb3701, 0, none⟩ = some (.int .u64 x3702000_1) := bc BK3701 0
              have hcz24_1 : wr.cell? ⟨gb3701, 1, none⟩ = some (.int .u64 x3702001_1) := bc BK3701 1
              have hcz24_2 : wr.cell? ⟨gb3701, 2, none⟩ = some (.int .u64 x3702002_1) := bc BK3701 2
              have hfz24_0 := blk_frozen BK3701.out 0
              have hfz24_1 := blk_frozen BK3701.out 1
              have hfz24_2 := blk_frozen BK3701.out 2
              try go_wp2_with (first | ((with_reducible refine gate_callee (f := 53) rfl ?_); refine kc (some 23) Try.func53 #[.agg #[.int .u64 x3702000_1, .int .u64 x3702001_1, .int .u64 x3702002_1]] (wide_U192_top.calls x3702000_1 x3702001_1 x3702002_1 t3703 t3704 _ A16.out) ?_; intro w25 hb; replace BK3701 := kb BK3701 hb; replace BK3702 := kb BK3702 hb; replace HB := kh HB hb; (try clear hb)) | ((with_reducible refine gate_callee (f := 25) rfl ?_); refine kc (some 25) Try.func25 #[.agg #[.int .u64 t3703, .int .u64 t3704], .int .i64 x1_1] (wide_U128_Shl.calls k1 t3703 t3704 x1_1 t3705 t3706 _ A17.out) ?_; intro w26 hb; replace BK3701 := kb BK3701 hb; replace BK3702 := kb BK3702 hb; replace HB := kh HB hb; (try clear hb)) | ((with_reducible refine gate_dst (N := 5) rfl ?_); refine kx 5 #[.int .u64 0, .int .u64 0] 24 ?_; intro gb3707 hg w27 hbox hb; have BK3707 := Aside0.mk (hbox); have GW3707 := kg HB hg; have GE3707 := kg HB hg; have NB3701_3707 := kn BK3701 hg; have NB3707_3701 := km BK3701 hg; have NB3702_3707 := kn BK3702 hg; have NB3707_3702 := km BK3702 hg; replace BK3701 := kb BK3701 hb; replace BK3702 := kb BK3702 hb; replace HB := kh HB hb; clear hb hbox hg; have hnb28 := NB3707_3701.out; have hnc28 := NB3701_3707.out; have hnb29 := NB3707_3702.out; have hnc29 := NB3702_3707.out; have hcz30_0 : w27.cell? ⟨gb3707, 0, none⟩ = some (.int .u64 0) := bc BK3707 0; have hcz30_1 : w27.cell? ⟨gb3707, 1, none⟩ = some (.int .u64 0) := bc BK3707 1; have hfz30_0 := blk_frozen BK3707.out 0; have hfz30_1 := blk_frozen BK3707.out 1))
              generalize hW_ : ((w27.setCell ⟨gb3707, 0, none⟩ (.int .u64 t3705)).setCell ⟨gb3707, 1, none⟩ (.int .u64 t3706)) = w31
              replace BK3701 := kr BK3701 hW_
              replace BK3702 := kr BK3702 hW_
              replace BK3707 := kr (o' := .cells #[.int .u64 t3705, .int .u64 t3706] 24 (0, 0)) BK3707 hW_
              replace HB := kq HB hW_
              clear hW_
              replace BK3701 := Aside0.mk (blk_drew BK3701.out)
              replace BK3702 := Aside0.mk (blk_drew BK3702.out)
              replace BK3707 := Aside0.mk (blk_drew BK3707.out)
              replace HB := Aside0.mk (below_drew1 HB.out)
              refine start_ (n := 16) (S := fun w' => w'.cell? ⟨gb3707, 0, none⟩ = some (.int .u64 t3705) ∧ w'.cell? ⟨gb3707, 1, none⟩ = some (.int .u64 t3706) ∧ w'.cell? ⟨gb3701, 0, none⟩ = some (.int .u64 x3702000_1) ∧ w'.cell? ⟨gb3701, 1, none⟩ = some (.int .u64 x3702001_1) ∧ w'.cell? ⟨gb3701, 2, none⟩ = some (.int .u64 x3702002_1)) (ds := []) #[false, false, false, false, false, false, false, false, false, false, false, false, false, false, false, false] (by kernel_rfl) rfl rfl ⟨bc BK3707 0, bc BK3707 1, bc BK3701 0, bc BK3701 1, bc BK3701 2⟩ (fun hHeld => ?_); refine with_tabW wide_U192_Shl.tab9 wide_U192_Shl.bits9 (fun HT_ HW_ => ?_)
              generalize w31.drew = w32 at BK3701 BK3702 BK3707 HB hHeld ⊢
              refine pur 0 (some 26) #[true, false, false, false, false, false, false, false, false, false, false, false, false, false, false, false] (any_of HT_.out (by kernel_rfl)) ?_
              refine pur 2 (some 28) #[true, false, true, false, false, false, false, false, false, false, false, false, false, false, false, false] (any_of HT_.out (by kernel_rfl)) ?_
              refine pur 4 (some 30) #[true, false, true, false, true, false, false, false, false, false, false, false, false, false, false, false] (any_of HT_.out (by kernel_rfl)) ?_
              refine pur 6 (some 32) #[true, false, true, false, true, false, true, false, false, false, false, false, false, false, false, false] (any_of HT_.out (by kernel_rfl)) ?_
              refine pur 7 (some 33) #[true, false, true, false, true, false, true, true, false, false, false, false, false, false, false, false] (any_of HT_.out (by kernel_rfl)) ?_
              refine pur 10 (some 36) #[true, false, true, false, true, false, true, true, false, false, true, false, false, false, false, false] (any_of HT_.out (by kernel_rfl)) ?_
              refine pur 12 (some 38) #[true, false, true, false, true, false, true, true, false, false, true, false, true, false, false, false] (any_of HT_.out (by kernel_rfl)) ?_
              refine tak 1 (some 27) #[true, true, true, false, true, false, true, true, false, false, true, false, true, false, false, false] (take_ofW HT_.out HW_.out (by kernel_rfl)) hHeld ?_
              refine tak 3 (some 29) #[true, true, true, true, true, false, true, true, false, false, true, false, true, false, false, false] (take_ofW HT_.out HW_.out (by kernel_rfl)) hHeld ?_
              refine tak 5 (some 31) #[true, true, true, true, true, true, true, true, false, false, true, false, true, false, false, false] (take_ofW HT_.out HW_.out (by kernel_rfl)) hHeld ?_
              refine pur 8 (some 34) #[true, true, true, true, true, true, true, true, true, false, true, false, true, false, false, false] (any_of HT_.out (by kernel_rfl)) ?_
              refine pur 9 (some 35) #[true, true, true, true, true, true, true, true, true, true, true, false, true, false, false, false] (any_of HT_.out (by kernel_rfl)) ?_
              refine tak 11 (some 37) #[true, true, true, true, true, true, true, true, true, true, true, true, true, false, false, false] (take_ofW HT_.out HW_.out (by kernel_rfl)) hHeld ?_
              refine pur 13 (some 39) #[true, true, true, true, true, true, true, true, true, true, true, true, true, true, false, false] (any_of HT_.out (by kernel_rfl)) ?_
              refine pur 14 (some 40) #[true, true, true, true, true, true, true, true, true, true, true, true, true, true, true, false] (any_of HT_.out (by kernel_rfl)) ?_
              refine one_ (i := 15) (N := none) #[true, true, true, true, true, true, true, true, true, true, true, true, true, true, true, true] rfl rfl (one_of HT_.out (by kernel_rfl)) (by decide) (fun K hK => ?_)
              have hs33 : w32.cell? ⟨gb3702, 0, none⟩ = some (.int .u64 x3703000_1) := bc BK3702 0
              have hfs33 := blk_frozen BK3702.out 0
              have hns33_0 := NB3701_3702.out
              have hns33_2 := NB3707_3702.out
              have hms33_0 := NB3702_3701.out
              have hms33_2 := NB3702_3707.out
              have hs34 : w32.cell? ⟨gb3702, 1, none⟩ = some (.int .u64 x3703001_1) := bc BK3702 1
              have hfs34 := blk_frozen BK3702.out 1
              have hs35 : w32.cell? ⟨gb3702, 2, none⟩ = some (.int .u64 x3703002_1) := bc BK3702 2
              have hfs35 := blk_frozen BK3702.out 2
              refine skip_ (w1 := ?_) (by rfl) rfl ?_ ?_
              rotate_left
              · go_simp
                rfl
              refine hK.out _ _ ⟨cf hHeld.1, cf hHeld.2.1, cf hHeld.2.2.1, cf hHeld.2.2.2.1, cf hHeld.2.2.2.2⟩ (fun hHeld => ?_)
              clear hK K
              refine done_ (done_of HT_.out (by kernel_rfl)) ?_
              try go_wp2
              refine bodyPost_ret (results_cell_row rfl _ _ gb3702 26 #[.int .u64 t3705, .int .u64 (Go.bits .or .u64 t3706 (ji20)), .int .u64 ji22] (0, 0) _ rfl (pK BK3702) Try.underlying26 rfl (by kernel_rfl)) rfl ?_
              exact ⟨by first | rfl | (simp [errW_none, errW_some] <;> rfl) | (simp only [← hji18, ← hji20, ← hji22]; first | rfl | (simp [errW_none, errW_some] <;> rfl)) | (simp [*, errW_none, errW_some] <;> rfl), pl HB⟩
            · rw [if_neg c21] at H
              exact absurd H (by simp)
          · rw [if_neg c19] at H
            exact absurd H (by simp)
end Go.Proofs.Ytdchdapllehppaa.PAll
end
