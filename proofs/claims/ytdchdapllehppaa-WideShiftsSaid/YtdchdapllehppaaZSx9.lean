/- Functions of the print, turned to this claim. -/
import Derived.Test.YtdchdapllehppaaZSW
import Derived.Test.YtdchdapllehppaaZSx0
import Derived.Test.YtdchdapllehppaaZSx3
import Derived.Test.YtdchdapllehppaaZSx5
import Derived.Test.YtdchdapllehppaaZSx6
import Derived.Test.YtdchdapllehppaaZSx7
import Derived.Test.YtdchdapllehppaaZSx8
section
namespace Go.Proofs.Ytdchdapllehppaa.PAll
open Go.RowKit Go.Proofs.YtdchdapllehppaaW.PrintWords Go.Proofs.YtdchdapllehppaaW.PrintLast Go.Proofs.YtdchdapllehppaaW.PrintMore
attribute [local go_sem] max2_int min2_int max_two min_two max_three min_three max_four min_four   -- for this text's walks alone
set_option linter.unusedVariables false
set_option linter.unusedSimpArgs false
/-! ### flyballlaw01_works: function 11 -/
def flyballlaw01_works.f (k : Nat)  : Option (Bool) := (wide_Mul.f 18446744073709551615 18446744073709551615).bind fun bt2501 => ((wide_U128_Shr.f k 1 0 1).bind fun bt2504 => ((wide_U128_Shr.f k 0 3 1).bind fun bt2508 => ((wide_U128_Div.f k 1 5 10).bind fun bt2512 => ((wide_U128_Sqrt.f k 0 17).bind fun bt2516 => ((wide_U128_Mul.f 0 3 5).bind fun bt2520 => ((wide_Sum.f k (([(⟨0, 1⟩ : S24), (⟨2, 0⟩ : S24)] : List (S24)))).bind fun bt2527 => (if bt2501.1 = 18446744073709551614 then (if bt2501.2 = 1 then (if bt2504.2.1 = 9223372036854775808 then (if bt2504.2.2 = true then (none) else (if bt2508.2.1 = 1 then (if bt2508.2.2 = true then (if bt2512.2.1 = 1844674407370955162 then (if bt2512.2.2 = 1 then (if bt2516.1 = 4 then (if bt2516.2.2 = 1 then (if bt2520.2.2 = 15 then (if bt2527.2.1 = 2 then (some (bt2527.2.2 == 1)) else (none)) else (none)) else (none)) else (none)) else (none)) else (none)) else (none)) else (none))) else (none)) else (none)) else (none))))))))
theorem flyballlaw01_works.mono : ∀ k, LeO (flyballlaw01_works.f k ) (flyballlaw01_works.f (k + 1) ) := by
  intro  k
  unfold flyballlaw01_works.f
  repeat' first
      | (with_reducible exact wide_Sum.mono _ _)
      | (with_reducible exact wide_U128_Div.mono _ _ _ _)
      | (with_reducible exact wide_U128_Shr.mono _ _ _ _)
      | (with_reducible exact wide_U128_Sqrt.mono _ _ _)
      | (with_reducible exact LeO.refl _)
      | (with_reducible exact LeO.none _)
      | (with_reducible refine LeO.ite ?_ ?_)
      | (with_reducible refine LeO.bind ?_ (fun _ => ?_))
      | exact wide_Sum.mono _ _
      | exact wide_U128_Div.mono _ _ _ _
      | exact wide_U128_Shr.mono _ _ _ _
      | exact wide_U128_Sqrt.mono _ _ _
      | exact LeO.none _
      | refine LeO.ite ?_ ?_
      | refine LeO.bind ?_ (fun _ => ?_)
set_option maxHeartbeats 8000000 in
set_option maxRecDepth 100000 in
theorem flyballlaw01_works.calls (k : Nat)  (r : Bool) (w : World) (h : flyballlaw01_works.f k  = some r) :
    Calls Try.prog 11 #[] w fun e w' => e = .returned (.bool r) ∧ Below w.heap.size w w' := by
  have hu24 := Try.underlying24
  have hu26 := Try.underlying26
  have HB := Aside0.mk (Below.refl w.heap.size w)
  have H := h
  clear h
  unfold flyballlaw01_works.f at H
  obtain ⟨⟨t2501, t2502⟩, A10, H⟩ := Option.bind_eq_some_iff.mp H
  have A1 := Aside0.mk A10
  clear A10
  (try dsimp only at H)
  obtain ⟨⟨t2504, t2505, t2506⟩, A20, H⟩ := Option.bind_eq_some_iff.mp H
  have A2 := Aside0.mk A20
  clear A20
  (try dsimp only at H)
  obtain ⟨⟨t2508, t2509, t2510⟩, A30, H⟩ := Option.bind_eq_some_iff.mp H
  have A3 := Aside0.mk A30
  clear A30
  (try dsimp only at H)
  obtain ⟨⟨t2512, t2513, t2514⟩, A40, H⟩ := Option.bind_eq_some_iff.mp H
  have A4 := Aside0.mk A40
  clear A40
  (try dsimp only at H)
  obtain ⟨⟨t2516, t2517, t2518⟩, A50, H⟩ := Option.bind_eq_some_iff.mp H
  have A5 := Aside0.mk A50
  clear A50
  (try dsimp only at H)
  obtain ⟨⟨t2520, t2521, t2522⟩, A60, H⟩ := Option.bind_eq_some_iff.mp H
  have A6 := Aside0.mk A60
  clear A60
  (try dsimp only at H)
  obtain ⟨y2524, hy2524⟩ : ∃ y_ : List (S24), y_ = (([(⟨0, 1⟩ : S24), (⟨2, 0⟩ : S24)] : List (S24))) := ⟨_, rfl⟩
  replace H : ((wide_Sum.f k y2524).bind fun bt2527 => (if t2501 = 18446744073709551614 then (if t2502 = 1 then (if t2505 = 9223372036854775808 then (if t2506 = true then (none) else (if t2509 = 1 then (if t2510 = true then (if t2513 = 1844674407370955162 then (if t2514 = 1 then (if t2516 = 4 then (if t2518 = 1 then (if t2522 = 15 then (if bt2527.2.1 = 2 then (some (bt2527.2.2 == 1)) else (none)) else (none)) else (none)) else (none)) else (none)) else (none)) else (none)) else (none))) else (none)) else (none)) else (none))) = some r := by first | (rw [hy2524]; with_reducible exact H) | (have H2_ := (Option.bind_some _ _).symm.trans H; rw [hy2524]; with_reducible exact H2_) | (have H2_ := (Option.bind_some _ _).symm.trans H; with_reducible exact H2_) | with_reducible exact H | (rw [hy2524]; exact H) | exact H
  have Ny2524 := Aside0.mk hy2524
  clear hy2524
  obtain ⟨⟨t2527, t2528, t2529⟩, A70, H⟩ := Option.bind_eq_some_iff.mp H
  have A7 := Aside0.mk A70
  clear A70
  (try dsimp only at H)
  by_cases c8 : t2501 = 18446744073709551614
  · rw [if_pos c8] at H
    have c8b0 : (t2501 == 18446744073709551614) = true := beq_iff_eq.mpr c8
    have c8b1 : (t2501 != 18446744073709551614) = false := bne_eq_false_iff_eq.mpr c8
    clear c8
    by_cases c9 : t2502 = 1
    · rw [if_pos c9] at H
      have c9b0 : (t2502 == 1) = true := beq_iff_eq.mpr c9
      have c9b1 : (t2502 != 1) = false := bne_eq_false_iff_eq.mpr c9
      clear c9
      by_cases c10 : t2505 = 9223372036854775808
      · rw [if_pos c10] at H
        have c10b0 : (t2505 == 9223372036854775808) = true := beq_iff_eq.mpr c10
        have c10b1 : (t2505 != 9223372036854775808) = false := bne_eq_false_iff_eq.mpr c10
        clear c10
        by_cases c11 : t2506 = true
        · subst c11
          rw [if_pos rfl] at H
          exact absurd H (by simp)
        · replace c11 := Bool.eq_false_iff.mpr c11
          subst c11
          rw [if_neg (show ¬ (false = true) by decide)] at H
          by_cases c12 : t2509 = 1
          · rw [if_pos c12] at H
            have c12b0 : (t2509 == 1) = true := beq_iff_eq.mpr c12
            have c12b1 : (t2509 != 1) = false := bne_eq_false_iff_eq.mpr c12
            clear c12
            by_cases c13 : t2510 = true
            · subst c13
              rw [if_pos rfl] at H
              by_cases c14 : t2513 = 1844674407370955162
              · rw [if_pos c14] at H
                have c14b0 : (t2513 == 1844674407370955162) = true := beq_iff_eq.mpr c14
                have c14b1 : (t2513 != 1844674407370955162) = false := bne_eq_false_iff_eq.mpr c14
                clear c14
                by_cases c15 : t2514 = 1
                · rw [if_pos c15] at H
                  have c15b0 : (t2514 == 1) = true := beq_iff_eq.mpr c15
                  have c15b1 : (t2514 != 1) = false := bne_eq_false_iff_eq.mpr c15
                  clear c15
                  by_cases c16 : t2516 = 4
                  · rw [if_pos c16] at H
                    have c16b0 : (t2516 == 4) = true := beq_iff_eq.mpr c16
                    have c16b1 : (t2516 != 4) = false := bne_eq_false_iff_eq.mpr c16
                    clear c16
                    by_cases c17 : t2518 = 1
                    · rw [if_pos c17] at H
                      have c17b0 : (t2518 == 1) = true := beq_iff_eq.mpr c17
                      have c17b1 : (t2518 != 1) = false := bne_eq_false_iff_eq.mpr c17
                      clear c17
                      by_cases c18 : t2522 = 15
                      · rw [if_pos c18] at H
                        have c18b0 : (t2522 == 15) = true := beq_iff_eq.mpr c18
                        have c18b1 : (t2522 != 15) = false := bne_eq_false_iff_eq.mpr c18
                        clear c18
                        by_cases c19 : t2528 = 2
                        · rw [if_pos c19] at H
                          have c19b0 : (t2528 == 2) = true := beq_iff_eq.mpr c19
                          have c19b1 : (t2528 != 2) = false := bne_eq_false_iff_eq.mpr c19
                          clear c19
                          obtain rfl := Option.some.inj H
                          go_enter Try.func11, Try.ntmps11
                          go_wp2_with (first | ((with_reducible refine gate_callee (f := 27) rfl ?_); refine kc (some 12) Try.func27 #[.int .u64 18446744073709551615, .int .u64 18446744073709551615] (wide_Mul.calls 18446744073709551615 18446744073709551615 t2501 t2502 _ A1.out) ?_; intro w20 hb; replace HB := kh HB hb; (try clear hb); (try clear hb2); (try clear hk); (try clear hi)) | ((with_reducible refine gate_dst (N := 1) rfl ?_); refine kx 1 #[.int .u64 0, .int .u64 0] 24 ?_; intro gb2503 hg w21 hbox hb; have BK2503 := Aside0.mk (hbox); have GW2503 := kg HB hg; have GE2503 := kg HB hg; replace HB := kh HB hb; clear hb hbox hg; have hcz22_0 : w21.cell? ⟨gb2503, 0, none⟩ = some (.int .u64 0) := bc BK2503 0; have hcz22_1 : w21.cell? ⟨gb2503, 1, none⟩ = some (.int .u64 0) := bc BK2503 1; have hfz22_0 := blk_frozen BK2503.out 0; have hfz22_1 := blk_frozen BK2503.out 1) | ((with_reducible refine gate_callee (f := 26) rfl ?_); refine kc (some 15) Try.func26 #[.agg #[.int .u64 1, .int .u64 0], .int .i64 1] (wide_U128_Shr.calls k 1 0 1 t2504 t2505 false _ A2.out) ?_; intro w23 hb; replace BK2503 := kb (o' := .cells #[.int .u64 t2501, .int .u64 t2502] 24 (0, 0)) BK2503 hb; replace HB := kh HB hb; (try clear hb); (try clear hb2); (try clear hk); (try clear hi)) | ((with_reducible refine gate_dst (N := 2) rfl ?_); refine kx 2 #[.int .u64 0, .int .u64 0] 24 ?_; intro gb2507 hg w24 hbox hb; have BK2507 := Aside0.mk (hbox); have GW2507 := kg HB hg; have GE2507 := kg HB hg; have NB2503_2507 := kn BK2503 hg; have NB2507_2503 := km BK2503 hg; replace BK2503 := kb BK2503 hb; replace HB := kh HB hb; clear hb hbox hg; have hnb25 := NB2507_2503.out; have hnc25 := NB2503_2507.out; have hcz26_0 : w24.cell? ⟨gb2507, 0, none⟩ = some (.int .u64 0) := bc BK2507 0; have hcz26_1 : w24.cell? ⟨gb2507, 1, none⟩ = some (.int .u64 0) := bc BK2507 1; have hfz26_0 := blk_frozen BK2507.out 0; have hfz26_1 := blk_frozen BK2507.out 1) | ((with_reducible refine gate_callee (f := 26) rfl ?_); refine kc (some 20) Try.func26 #[.agg #[.int .u64 0, .int .u64 3], .int .i64 1] (wide_U128_Shr.calls k 0 3 1 t2508 t2509 true _ A3.out) ?_; intro w27 hb; replace BK2503 := kb BK2503 hb; replace BK2507 := kb (o' := .cells #[.int .u64 t2504, .int .u64 t2505] 24 (0, 0)) BK2507 hb; replace HB := kh HB hb; (try clear hb); (try clear hb2); (try clear hk); (try clear hi)) | ((with_reducible refine gate_dst (N := 4) rfl ?_); refine kx 4 #[.int .u64 0, .int .u64 0] 24 ?_; intro gb2511 hg w28 hbox hb; have BK2511 := Aside0.mk (hbox); have GW2511 := kg HB hg; have GE2511 := kg HB hg; have NB2503_2511 := kn BK2503 hg; have NB2511_2503 := km BK2503 hg; have NB2507_2511 := kn BK2507 hg; have NB2511_2507 := km BK2507 hg; replace BK2503 := kb BK2503 hb; replace BK2507 := kb BK2507 hb; replace HB := kh HB hb; clear hb hbox hg; have hnb29 := NB2511_2503.out; have hnc29 := NB2503_2511.out; have hnb30 := NB2511_2507.out; have hnc30 := NB2507_2511.out; have hcz31_0 : w28.cell? ⟨gb2511, 0, none⟩ = some (.int .u64 0) := bc BK2511 0; have hcz31_1 : w28.cell? ⟨gb2511, 1, none⟩ = some (.int .u64 0) := bc BK2511 1; have hfz31_0 := blk_frozen BK2511.out 0; have hfz31_1 := blk_frozen BK2511.out 1) | ((with_reducible refine gate_callee (f := 12) rfl ?_); refine kc (some 25) Try.func12 #[.agg #[.int .u64 1, .int .u64 5], .int .u64 10] (wide_U128_Div.calls k 1 5 10 t2512 t2513 t2514 _ A4.out) ?_; intro w32 hb; replace BK2503 := kb BK2503 hb; replace BK2507 := kb BK2507 hb; replace BK2511 := kb (o' := .cells #[.int .u64 t2508, .int .u64 t2509] 24 (0, 0)) BK2511 hb; replace HB := kh HB hb; (try clear hb); (try clear hb2); (try clear hk); (try clear hi)) | ((with_reducible refine gate_dst (N := 6) rfl ?_); refine kx 6 #[.int .u64 0, .int .u64 0] 24 ?_; intro gb2515 hg w33 hbox hb; have BK2515 := Aside0.mk (hbox); have GW2515 := kg HB hg; have GE2515 := kg HB hg; have NB2503_2515 := kn BK2503 hg; have NB2515_2503 := km BK2503 hg; have NB2507_2515 := kn BK2507 hg; have NB2515_2507 := km BK2507 hg; have NB2511_2515 := kn BK2511 hg; have NB2515_2511 := km BK2511 hg; replace BK2503 := kb BK2503 hb; replace BK2507 := kb BK2507 hb; replace BK2511 := kb BK2511 hb; replace HB := kh HB hb; clear hb hbox hg; have hnb34 := NB2515_2503.out; have hnc34 := NB2503_2515.out; have hnb35 := NB2515_2507.out; have hnc35 := NB2507_2515.out; have hnb36 := NB2515_2511.out; have hnc36 := NB2511_2515.out; have hcz37_0 : w33.cell? ⟨gb2515, 0, none⟩ = some (.int .u64 0) := bc BK2515 0; have hcz37_1 : w33.cell? ⟨gb2515, 1, none⟩ = some (.int .u64 0) := bc BK2515 1; have hfz37_0 := blk_frozen BK2515.out 0; have hfz37_1 := blk_frozen BK2515.out 1) | ((with_reducible refine gate_callee (f := 29) rfl ?_); refine kc (some 30) Try.func29 #[.agg #[.int .u64 0, .int .u64 17]] (wide_U128_Sqrt.calls k 0 17 t2516 t2517 t2518 _ A5.out) ?_; intro w38 hb; replace BK2503 := kb BK2503 hb; replace BK2507 := kb BK2507 hb; replace BK2511 := kb BK2511 hb; replace BK2515 := kb (o' := .cells #[.int .u64 t2512, .int .u64 t2513] 24 (0, 0)) BK2515 hb; replace HB := kh HB hb; (try clear hb); (try clear hb2); (try clear hk); (try clear hi)) | ((with_reducible refine gate_dst (N := 9) rfl ?_); refine kx 9 #[.int .u64 0, .int .u64 0] 24 ?_; intro gb2519 hg w39 hbox hb; have BK2519 := Aside0.mk (hbox); have GW2519 := kg HB hg; have GE2519 := kg HB hg; have NB2503_2519 := kn BK2503 hg; have NB2519_2503 := km BK2503 hg; have NB2507_2519 := kn BK2507 hg; have NB2519_2507 := km BK2507 hg; have NB2511_2519 := kn BK2511 hg; have NB2519_2511 := km BK2511 hg; have NB2515_2519 := kn BK2515 hg; have NB2519_2515 := km BK2515 hg; replace BK2503 := kb BK2503 hb; replace BK2507 := kb BK2507 hb; replace BK2511 := kb BK2511 hb; replace BK2515 := kb BK2515 hb; replace HB := kh HB hb; clear hb hbox hg; have hnb40 := NB2519_2503.out; have hnc40 := NB2503_2519.out; have hnb41 := NB2519_2507.out; have hnc41 := NB2507_2519.out; have hnb42 := NB2519_2511.out; have hnc42 := NB2511_2519.out; have hnb43 := NB2519_2515.out; have hnc43 := NB2515_2519.out; have hcz44_0 : w39.cell? ⟨gb2519, 0, none⟩ = some (.int .u64 0) := bc BK2519 0; have hcz44_1 : w39.cell? ⟨gb2519, 1, none⟩ = some (.int .u64 0) := bc BK2519 1; have hfz44_0 := blk_frozen BK2519.out 0; have hfz44_1 := blk_frozen BK2519.out 1) | ((with_reducible refine gate_callee (f := 23) rfl ?_); refine kc (some 34) Try.func23 #[.agg #[.int .u64 0, .int .u64 3], .int .u64 5] (wide_U128_Mul.calls 0 3 5 t2520 t2521 t2522 _ A6.out) ?_; intro w45 hb; replace BK2503 := kb BK2503 hb; replace BK2507 := kb BK2507 hb; replace BK2511 := kb BK2511 hb; replace BK2515 := kb BK2515 hb; replace BK2519 := kb (o' := .cells #[.int .u64 t2517, .int .u64 t2518] 24 (0, 0)) BK2519 hb; replace HB := kh HB hb; (try clear hb); (try clear hb2); (try clear hk); (try clear hi)) | ((with_reducible refine gate_dst (N := 10) rfl ?_); refine kx 10 #[.int .u64 0, .int .u64 0, .int .u64 0] 26 ?_; intro gb2523 hg w46 hbox hb; have BK2523 := Aside0.mk (hbox); have GW2523 := kg HB hg; have GE2523 := kg HB hg; have NB2503_2523 := kn BK2503 hg; have NB2523_2503 := km BK2503 hg; have NB2507_2523 := kn BK2507 hg; have NB2523_2507 := km BK2507 hg; have NB2511_2523 := kn BK2511 hg; have NB2523_2511 := km BK2511 hg; have NB2515_2523 := kn BK2515 hg; have NB2523_2515 := km BK2515 hg; have NB2519_2523 := kn BK2519 hg; have NB2523_2519 := km BK2519 hg; replace BK2503 := kb BK2503 hb; replace BK2507 := kb BK2507 hb; replace BK2511 := kb BK2511 hb; replace BK2515 := kb BK2515 hb; replace BK2519 := kb BK2519 hb; replace HB := kh HB hb; clear hb hbox hg; have hnb47 := NB2523_2503.out; have hnc47 := NB2503_2523.out; have hnb48 := NB2523_2507.out; have hnc48 := NB2507_2523.out; have hnb49 := NB2523_2511.out; have hnc49 := NB2511_2523.out; have hnb50 := NB2523_2515.out; have hnc50 := NB2515_2523.out; have hnb51 := NB2523_2519.out; have hnc51 := NB2519_2523.out; have ⟨hcz52_0, hcz52_1, hcz52_2, hfz52_0, hfz52_1, hfz52_2⟩ := kz3f BK2523) | ((with_reducible refine gate_dst (N := 37) rfl ?_); refine Kd.R_lit k24 _ 24 ?hg (N := 37) ?hd (xs := ([(⟨0, 1⟩ : S24), (⟨2, 0⟩ : S24)] : List (S24))) (inner := [.int .u64 0, .int .u64 1, .int .u64 2, .int .u64 0]) (ok := fun _ => True) (okp := fun _ => True) ?hr ?hp (fun _ hk => hk) trivial (Below.refl _ _) (Nat.le_refl _) (by simp) ?_; (case hd => rfl); (case hg => rfl); (case hr => first | (go_simp; done) | (go_simp; rfl)); (case hp => exact (Reps.c2 (show Kd.M k24 _ _ _ (⟨0, 1⟩ : S24) [.int .u64 0, .int .u64 1] from (k24_mkM _ _ _ (⟨0, 1⟩ : S24) )) (Reps.c2 (show Kd.M k24 _ _ _ (⟨2, 0⟩ : S24) [.int .u64 2, .int .u64 0] from (k24_mkM _ _ _ (⟨2, 0⟩ : S24) )) (Reps.none _ _)))); intro v2525 w53 ho54 hb hg_ hnew_; clear hg_ hnew_; (first | rw [← Ny2524.out] at ho54 | (simp only [Int.reduceToNat] at ho54; rw [← Ny2524.out] at ho54)); have HO2526 := Aside0.mk (Kd.R_lower (Kd.R_newB (Kd.R_newB (Kd.R_newB (Kd.R_newB (Kd.R_newB ho54 (g := gb2503) (o := .cells #[.int .u64 t2501, .int .u64 t2502] 24 (0, 0)) (pk BK2503)) (g := gb2507) (o := .cells #[.int .u64 t2504, .int .u64 t2505] 24 (0, 0)) (pk BK2507)) (g := gb2511) (o := .cells #[.int .u64 t2508, .int .u64 t2509] 24 (0, 0)) (pk BK2511)) (g := gb2515) (o := .cells #[.int .u64 t2512, .int .u64 t2513] 24 (0, 0)) (pk BK2515)) (g := gb2519) (o := .cells #[.int .u64 t2517, .int .u64 t2518] 24 (0, 0)) (pk BK2519)) (below_size (pl HB))); replace BK2503 := kb BK2503 hb; replace BK2507 := kb BK2507 hb; replace BK2511 := kb BK2511 hb; replace BK2515 := kb BK2515 hb; replace BK2519 := kb BK2519 hb; replace BK2523 := kb (o' := .cells #[.int .u64 t2520, .int .u64 t2521, .int .u64 t2522] 26 (0, 0)) BK2523 hb; replace HB := kh HB hb; clear hb ho54; obtain ⟨Ao55, co55, eo55⟩ := Kd.R_slice HO2526.out; subst eo55) | ((with_reducible refine gate_callee (f := 38) rfl ?_); refine goesL_ (some 38) rfl rfl Try.func38 (by kernel_rfl) rfl #[.slice Ao55 y2524.length co55] rfl pa ?_; (with_reducible refine (wide_Sum.calls k _ _ y2524 t2527 t2528 t2529 _ ?side1 ?side2 A7.out).mono ?_); (case side1 => repeat (first | exact (Kd.R_reads' HO2526.out).2.2 | (with_reducible refine Kd.C_alloc ?_ _) | (with_reducible refine Kd.C_drewN ?_ _) | (with_reducible refine Kd.C_drew ?_))); (case side2 => exact (Kd.R_reads' HO2526.out).2.1); rintro e w56 ⟨rfl, hb⟩; refine ⟨_, rfl, ?_⟩; have n0_ := Aside0.mk (Kd.R_below (by (with_reducible repeat (first | apply Kd.R_alloc | apply Kd.R_drewN | apply Kd.R_drew)); exact HO2526.out) hb); have n1_ := kb BK2503 hb; have n2_ := kb BK2507 hb; have n3_ := kb BK2511 hb; have n4_ := kb BK2515 hb; have n5_ := kb BK2519 hb; have n6_ := kb BK2523 hb; have n7_ := kh HB hb; clear HO2526; clear BK2503; clear BK2507; clear BK2511; clear BK2515; clear BK2519; clear BK2523; clear HB; have HO2526 := n0_; have BK2503 := n1_; have BK2507 := n2_; have BK2511 := n3_; have BK2515 := n4_; have BK2519 := n5_; have BK2523 := n6_; have HB := n7_; clear n0_ n1_ n2_ n3_ n4_ n5_ n6_ n7_; (try clear hb); (try clear hb2); (try clear hk); (try clear hi)) | ((with_reducible refine gate_dst (N := 11) rfl ?_); refine kx 11 #[.int .u64 0, .int .u64 0, .int .u64 0] 26 ?_; intro gb2530 hg w57 hbox hb; have n0_ := Aside0.mk (Kd.R_below (by (with_reducible repeat (first | apply Kd.R_alloc | apply Kd.R_drewN | apply Kd.R_drew)); exact HO2526.out) hb); have n1_ := kb BK2503 hb; have n2_ := kb BK2507 hb; have n3_ := kb BK2511 hb; have n4_ := kb BK2515 hb; have n5_ := kb BK2519 hb; have n6_ := kb BK2523 hb; have n7_ := kh HB hb; have n8_ := Aside0.mk (hbox); have n9_ := kg HB hg; have n10_ := kg HB hg; have n11_ := kn BK2503 hg; have n12_ := km BK2503 hg; have n13_ := kn BK2507 hg; have n14_ := km BK2507 hg; have n15_ := kn BK2511 hg; have n16_ := km BK2511 hg; have n17_ := kn BK2515 hg; have n18_ := km BK2515 hg; have n19_ := kn BK2519 hg; have n20_ := km BK2519 hg; have n21_ := kn BK2523 hg; have n22_ := km BK2523 hg; clear HO2526; clear BK2503; clear BK2507; clear BK2511; clear BK2515; clear BK2519; clear BK2523; clear HB; have HO2526 := n0_; have BK2503 := n1_; have BK2507 := n2_; have BK2511 := n3_; have BK2515 := n4_; have BK2519 := n5_; have BK2523 := n6_; have HB := n7_; have BK2530 := n8_; have GW2530 := n9_; have GE2530 := n10_; have NB2503_2530 := n11_; have NB2530_2503 := n12_; have NB2507_2530 := n13_; have NB2530_2507 := n14_; have NB2511_2530 := n15_; have NB2530_2511 := n16_; have NB2515_2530 := n17_; have NB2530_2515 := n18_; have NB2519_2530 := n19_; have NB2530_2519 := n20_; have NB2523_2530 := n21_; have NB2530_2523 := n22_; clear n0_ n1_ n2_ n3_ n4_ n5_ n6_ n7_ n8_ n9_ n10_ n11_ n12_ n13_ n14_ n15_ n16_ n17_ n18_ n19_ n20_ n21_ n22_; clear hb hbox hg; have hnb58 := NB2530_2503.out; have hnc58 := NB2503_2530.out; have hnb59 := NB2530_2507.out; have hnc59 := NB2507_2530.out; have hnb60 := NB2530_2511.out; have hnc60 := NB2511_2530.out; have hnb61 := NB2530_2515.out; have hnc61 := NB2515_2530.out; have hnb62 := NB2530_2519.out; have hnc62 := NB2519_2530.out; have hnb63 := NB2530_2523.out; have hnc63 := NB2523_2530.out; have ⟨hcz64_0, hcz64_1, hcz64_2, hfz64_0, hfz64_1, hfz64_2⟩ := kz3f BK2530; have hcz65_0 : w57.cell? ⟨gb2503, 0, none⟩ = some (.int .u64 t2501) := bc BK2503 0; have hcz65_1 : w57.cell? ⟨gb2503, 1, none⟩ = some (.int .u64 t2502) := bc BK2503 1; have hfz65_0 := blk_frozen BK2503.out 0; have hfz65_1 := blk_frozen BK2503.out 1; have hcz66_0 : w57.cell? ⟨gb2507, 0, none⟩ = some (.int .u64 t2504) := bc BK2507 0; have hcz66_1 : w57.cell? ⟨gb2507, 1, none⟩ = some (.int .u64 t2505) := bc BK2507 1; have hfz66_0 := blk_frozen BK2507.out 0; have hfz66_1 := blk_frozen BK2507.out 1; have hcz67_0 : w57.cell? ⟨gb2511, 0, none⟩ = some (.int .u64 t2508) := bc BK2511 0; have hcz67_1 : w57.cell? ⟨gb2511, 1, none⟩ = some (.int .u64 t2509) := bc BK2511 1; have hfz67_0 := blk_frozen BK2511.out 0; have hfz67_1 := blk_frozen BK2511.out 1; have hcz68_0 : w57.cell? ⟨gb2515, 0, none⟩ = some (.int .u64 t2512) := bc BK2515 0; have hcz68_1 : w57.cell? ⟨gb2515, 1, none⟩ = some (.int .u64 t2513) := bc BK2515 1; have hfz68_0 := blk_frozen BK2515.out 0; have hfz68_1 := blk_frozen BK2515.out 1; have hcz69_0 : w57.cell? ⟨gb2519, 0, none⟩ = some (.int .u64 t2517) := bc BK2519 0; have hcz69_1 : w57.cell? ⟨gb2519, 1, none⟩ = some (.int .u64 t2518) := bc BK2519 1; have hfz69_0 := blk_frozen BK2519.out 0; have hfz69_1 := blk_frozen BK2519.out 1; have ⟨hcz70_0, hcz70_1, hcz70_2, hfz70_0, hfz70_1, hfz70_2⟩ := kz3f BK2523))
                          go_ret
                          exact ⟨pe, pl HB⟩
                        · rw [if_neg c19] at H
                          exact absurd H (by simp)
                      · rw [if_neg c18] at H
                        exact absurd H (by simp)
                    · rw [if_neg c17] at H
                      exact absurd H (by simp)
                  · rw [if_neg c16] at H
                    exact absurd H (by simp)
                · rw [if_neg c15] at H
                  exact absurd H (by simp)
              · rw [if_neg c14] at H
                exact absurd H (by simp)
            · replace c13 := Bool.eq_false_iff.mpr c13
              subst c13
              rw [if_neg (show ¬ (false = true) by decide)] at H
              exact absurd H (by simp)
          · rw [if_neg c12] at H
            exact absurd H (by simp)
      · rw [if_neg c10] at H
        exact absurd H (by simp)
    · rw [if_neg c9] at H
      exact absurd H (by simp)
  · rw [if_neg c8] at H
    exact absurd H (by simp)
/-! ### wide_U192_top: function 53 -/
def wide_U192_top.f (a0_0 : Int) (a0_1 : Int) (a0_2 : Int) : Option (Int × Int) := some (a0_0, a0_1)
set_option maxHeartbeats 8000000 in
set_option maxRecDepth 100000 in
theorem wide_U192_top.calls (a0_0 : Int) (a0_1 : Int) (a0_2 : Int) (r1 : Int) (r2 : Int) (w : World) (h : wide_U192_top.f a0_0 a0_1 a0_2 = some (r1, r2)) :
    Calls Try.prog 53 #[.agg #[.int .u64 a0_0, .int .u64 a0_1, .int .u64 a0_2]] w fun e w' => e = .returned (.agg #[.int .u64 r1, .int .u64 r2]) ∧ Below w.heap.size w w' := by
  have hu26 := Try.underlying26
  have hu24 := Try.underlying24
  have HB := Aside0.mk (Below.refl w.heap.size w)
  have H := h
  clear h
  unfold wide_U192_top.f at H
  simp only [Option.some.injEq, Prod.mk.injEq] at H
  obtain ⟨rfl, rfl⟩ := H
  go_enter Try.func53, Try.ntmps53
  go_wp2_with (first | ((with_reducible refine gate_dst (N := 1) rfl ?_); refine kx 1 #[.int .u64 a0_0, .int .u64 a0_1, .int .u64 a0_2] 26 ?_; intro gb3101 hg w2 hbox hb; have BK3101 := Aside0.mk (hbox); have GW3101 := kg HB hg; have GE3101 := kg HB hg; replace HB := kh HB hb; clear hb hbox hg) | ((with_reducible refine gate_dst (N := 2) rfl ?_); refine kx 2 #[.int .u64 0, .int .u64 0] 24 ?_; intro gb3102 hg w3 hbox hb; have BK3102 := Aside0.mk (hbox); have GW3102 := kg HB hg; have GE3102 := kg HB hg; have NB3101_3102 := kn BK3101 hg; have NB3102_3101 := km BK3101 hg; replace BK3101 := kb BK3101 hb; replace HB := kh HB hb; clear hb hbox hg; have hnb4 := NB3101_3102.out; have hnc4 := NB3102_3101.out; have ⟨hcz5_0, hcz5_1, hcz5_2, hfz5_0, hfz5_1, hfz5_2⟩ := kz3f BK3101; have hcz6_0 : w3.cell? ⟨gb3102, 0, none⟩ = some (.int .u64 0) := bc BK3102 0; have hcz6_1 : w3.cell? ⟨gb3102, 1, none⟩ = some (.int .u64 0) := bc BK3102 1; have hfz6_0 := blk_frozen BK3102.out 0; have hfz6_1 := blk_frozen BK3102.out 1))
  refine bodyPost_ret (results_cell_row rfl _ _ gb3102 24 #[.int .u64 a0_0, .int .u64 a0_1] (0, 0) _ rfl (pK BK3102) Try.underlying24 rfl (by kernel_rfl)) rfl ?_
  exact ⟨pe, pl HB⟩
end Go.Proofs.Ytdchdapllehppaa.PAll
end
