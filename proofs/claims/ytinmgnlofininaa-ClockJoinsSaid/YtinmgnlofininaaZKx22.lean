/- Functions of the print, turned to this claim. -/
import Derived.Test.YtinmgnlofininaaZKW
import Derived.Test.YtinmgnlofininaaZKx0
import Derived.Test.YtinmgnlofininaaZKx3
import Derived.Test.YtinmgnlofininaaZKx4
section
namespace Go.Proofs.Ytinmgnlofininaa.PAll
open Go.RowKit Go.Proofs.YtinmgnlofininaaW.PrintWords Go.Proofs.YtinmgnlofininaaW.PrintLast Go.Proofs.YtinmgnlofininaaW.PrintMore
attribute [local go_sem] max2_int min2_int max_two min_two max_three min_three max_four min_four   -- for this text's walks alone
set_option linter.unusedVariables false
set_option linter.unusedSimpArgs false
/-! ### ints_Widen: function 57 -/
def ints_Widen.l0 : Nat → Int → Int → List Int → Int → Int → Bool → Int → Int → Bool → Int → Int → Option (Bool × Int × Int)
  | 0, _, _, _, _, _, _, _, _, _, _, _ => none
  | k + 1, x8, x9, x22, x23, x24, x6552000, x6552001, x6552002, x6567000, x6567001, x6567002 => if x24 < x23 then (if 0 ≤ x24 then (if x24 < (x22.length : Int) then (if (rd x22 x24) ≤ x6567001 then (if (rd x22 x24) ≥ x6567002 then (ints_Widen.l0 k (mx x8 (rd x22 x24)) (mn x9 (rd x22 x24)) x22 x23 (wrap64 (x24 + 1)) x6552000 x6552001 x6552002 x6567000 x6567001 x6567002) else (ints_Widen.l0 k (mx x8 (rd x22 x24)) x9 x22 x23 (wrap64 (x24 + 1)) x6552000 x6552001 x6552002 x6567000 x6567001 x6567002)) else (if (rd x22 x24) ≥ x6567002 then (ints_Widen.l0 k x8 (mn x9 (rd x22 x24)) x22 x23 (wrap64 (x24 + 1)) x6552000 x6552001 x6552002 x6567000 x6567001 x6567002) else (ints_Widen.l0 k x8 x9 x22 x23 (wrap64 (x24 + 1)) x6552000 x6552001 x6552002 x6567000 x6567001 x6567002))) else (none)) else (none)) else (if x6567001 = x6552001 then (if x6567002 = x6552002 then ((ints_Make.f x6567001 x6567002).bind fun bt6568 => (some (bt6568.1, bt6568.2.1, bt6568.2.2))) else ((ints_Make.f x6567001 x9).bind fun bt6571 => (some (bt6571.1, bt6571.2.1, bt6571.2.2)))) else (if x6567002 = x6552002 then ((ints_Make.f x8 x6567002).bind fun bt6574 => (some (bt6574.1, bt6574.2.1, bt6574.2.2))) else ((ints_Make.f x8 x9).bind fun bt6577 => (some (bt6577.1, bt6577.2.1, bt6577.2.2)))))
def ints_Widen.f (k : Nat) (a0_0 : Bool) (a0_1 : Int) (a0_2 : Int) (a1_0 : Bool) (a1_1 : Int) (a1_2 : Int) (l2 : List Int) : Option (Bool × Int × Int) := (ints_norm.f a0_0 a0_1 a0_2).bind fun bt6554 => (if bt6554.1 = true then ((ints_norm.f a1_0 a1_1 a1_2).bind fun bt6557 => (some (bt6557.1, bt6557.2.1, bt6557.2.2))) else ((ints_Join.f k (([(⟨bt6554.1, bt6554.2.1, bt6554.2.2⟩ : S23), (⟨a1_0, a1_1, a1_2⟩ : S23)] : List (S23)))).bind fun bt6563 => (ints_Widen.l0 k (-1099511627776) 1099511627776 l2 (l2.length : Int) 0 bt6554.1 bt6554.2.1 bt6554.2.2 bt6563.1 bt6563.2.1 bt6563.2.2)))
theorem ints_Widen.mono_l : ∀ k, (∀ y0 y1 y2 y3 y4 y5 y6 y7 y8 y9 y10, LeO (ints_Widen.l0 k y0 y1 y2 y3 y4 y5 y6 y7 y8 y9 y10) (ints_Widen.l0 (k + 1) y0 y1 y2 y3 y4 y5 y6 y7 y8 y9 y10))
  | 0 => fun _ _ _ _ _ _ _ _ _ _ _ r h => by simp [ints_Widen.l0] at h
  | k + 1 => by
    have ih0 := ints_Widen.mono_l k
    · intro y0 y1 y2 y3 y4 y5 y6 y7 y8 y9 y10
      unfold ints_Widen.l0
      repeat' first
      | (with_reducible exact ih0 _ _ _ _ _ _ _ _ _ _ _)
      | (with_reducible exact ints_Join.mono _ _)
      | (with_reducible exact LeO.refl _)
      | (with_reducible exact LeO.none _)
      | (with_reducible refine LeO.ite ?_ ?_)
      | (with_reducible refine LeO.bind ?_ (fun _ => ?_))
      | exact ih0 _ _ _ _ _ _ _ _ _ _ _
      | exact ints_Join.mono _ _
      | exact LeO.none _
      | refine LeO.ite ?_ ?_
      | refine LeO.bind ?_ (fun _ => ?_)
theorem ints_Widen.mono : ∀ a0 a1 a2 a3 a4 a5 a6 k, LeO (ints_Widen.f k a0 a1 a2 a3 a4 a5 a6) (ints_Widen.f (k + 1) a0 a1 a2 a3 a4 a5 a6) := by
  intro a0 a1 a2 a3 a4 a5 a6 k
  have ih0 := ints_Widen.mono_l k
  unfold ints_Widen.f
  repeat' first
      | (with_reducible exact ih0 _ _ _ _ _ _ _ _ _ _ _)
      | (with_reducible exact ints_Join.mono _ _)
      | (with_reducible exact LeO.refl _)
      | (with_reducible exact LeO.none _)
      | (with_reducible refine LeO.ite ?_ ?_)
      | (with_reducible refine LeO.bind ?_ (fun _ => ?_))
      | exact ih0 _ _ _ _ _ _ _ _ _ _ _
      | exact ints_Join.mono _ _
      | exact LeO.none _
      | refine LeO.ite ?_ ?_
      | refine LeO.bind ?_ (fun _ => ?_)
set_option maxHeartbeats 8000000 in
set_option maxRecDepth 100000 in
theorem ints_Widen.calls (k : Nat) (a0_0 : Bool) (a0_1 : Int) (a0_2 : Int) (a1_0 : Bool) (a1_1 : Int) (a1_2 : Int) (A2 : Option Addr) (c2 : Nat) (l2 : List Int) (r1 : Bool) (r2 : Int) (r3 : Int) (w : World) (hr2 : Kd.C (Kd.int .i64) w A2 l2.length l2) (hc2 : l2.length ≤ c2) (h : ints_Widen.f k a0_0 a0_1 a0_2 a1_0 a1_1 a1_2 l2 = some (r1, r2, r3)) :
    Calls Try.prog 57 #[.agg #[.bool a0_0, .int .i64 a0_1, .int .i64 a0_2], .agg #[.bool a1_0, .int .i64 a1_1, .int .i64 a1_2], .slice A2 l2.length c2] w fun e w' => e = .returned (.agg #[.bool r1, .int .i64 r2, .int .i64 r3]) ∧ Below w.heap.size w w' := by
  have hu23 := Try.underlying23
  have HR2 := Aside0.mk hr2
  have HC2 := Aside0.mk hc2
  clear hr2 hc2
  have HB := Aside0.mk (Below.refl w.heap.size w)
  have H := h
  clear h
  unfold ints_Widen.f at H
  obtain ⟨⟨t6554, t6555, t6556⟩, A40, H⟩ := Option.bind_eq_some_iff.mp H
  have A4 := Aside0.mk A40
  clear A40
  (try dsimp only at H)
  by_cases c5 : t6554 = true
  · subst c5
    rw [if_pos rfl] at H
    obtain ⟨⟨t6557, t6558, t6559⟩, A60, H⟩ := Option.bind_eq_some_iff.mp H
    have A6 := Aside0.mk A60
    clear A60
    (try dsimp only at H)
    simp only [Option.some.injEq, Prod.mk.injEq] at H
    obtain ⟨rfl, rfl, rfl⟩ := H
    go_enter Try.func57, Try.ntmps57
    go_wp2_with (first | ((with_reducible refine gate_dst (N := 3) rfl ?_); refine kx 3 #[.bool a0_0, .int .i64 a0_1, .int .i64 a0_2] 23 ?_; intro gb6551 hg w7 hbox hb; have BK6551 := Aside0.mk (hbox); have GW6551 := kg HB hg; have GE6551 := kg HB hg; replace HB := kh HB hb; clear hb hbox hg) | ((with_reducible refine gate_dst (N := 4) rfl ?_); refine kx 4 #[.bool a1_0, .int .i64 a1_1, .int .i64 a1_2] 23 ?_; intro gb6552 hg w8 hbox hb; have BK6552 := Aside0.mk (hbox); have GW6552 := kg HB hg; have GE6552 := kg HB hg; have NB6551_6552 := kn BK6551 hg; have NB6552_6551 := km BK6551 hg; replace BK6551 := kb BK6551 hb; replace HB := kh HB hb; clear hb hbox hg) | ((with_reducible refine gate_dst (N := 6) rfl ?_); refine kx 6 #[.bool false, .int .i64 0, .int .i64 0] 23 ?_; intro gb6553 hg w9 hbox hb; have BK6553 := Aside0.mk (hbox); have GW6553 := kg HB hg; have GE6553 := kg HB hg; have NB6551_6553 := kn BK6551 hg; have NB6553_6551 := km BK6551 hg; have NB6552_6553 := kn BK6552 hg; have NB6553_6552 := km BK6552 hg; replace BK6551 := kb BK6551 hb; replace BK6552 := kb BK6552 hb; replace HB := kh HB hb; clear hb hbox hg; have hnb10 := NB6551_6552.out; have hnc10 := NB6552_6551.out; have hnb11 := NB6551_6553.out; have hnc11 := NB6553_6551.out; have ⟨hcz12_0, hcz12_1, hcz12_2, hfz12_0, hfz12_1, hfz12_2⟩ := kz3f BK6551) | ((with_reducible refine gate_callee (f := 68) rfl ?_); refine kc (some 13) Try.func68 #[.agg #[.bool a0_0, .int .i64 a0_1, .int .i64 a0_2]] (ints_norm.calls a0_0 a0_1 a0_2 true t6555 t6556 _ A4.out) ?_; intro w13 hb; replace BK6551 := kb BK6551 hb; replace BK6552 := kb BK6552 hb; replace BK6553 := kb BK6553 hb; replace HB := kh HB hb; (try clear hb); (try clear hb2); (try clear hk); (try clear hi); have ⟨hcz14_0, hcz14_1, hcz14_2, hfz14_0, hfz14_1, hfz14_2⟩ := kz3f BK6551; have hnb15 := NB6552_6553.out; have hnc15 := NB6553_6552.out; have ⟨hcz16_0, hcz16_1, hcz16_2, hfz16_0, hfz16_1, hfz16_2⟩ := kz3f BK6552) | ((with_reducible refine gate_callee (f := 68) rfl ?_); refine kc (some 17) Try.func68 #[.agg #[.bool a1_0, .int .i64 a1_1, .int .i64 a1_2]] (ints_norm.calls a1_0 a1_1 a1_2 t6557 t6558 t6559 _ A6.out) ?_; intro w17 hb; replace BK6551 := kb (o' := .cells #[.bool true, .int .i64 t6555, .int .i64 t6556] 23 (0, 0)) BK6551 hb; replace BK6552 := kb BK6552 hb; replace BK6553 := kb BK6553 hb; replace HB := kh HB hb; (try clear hb); (try clear hb2); (try clear hk); (try clear hi); have ⟨hcz18_0, hcz18_1, hcz18_2, hfz18_0, hfz18_1, hfz18_2⟩ := kz3f BK6553))
    refine bodyPost_ret (results_cell_row rfl _ _ gb6553 23 #[.bool t6557, .int .i64 t6558, .int .i64 t6559] (0, 0) _ rfl (pK BK6553) Try.underlying23 rfl (by kernel_rfl)) rfl ?_
    exact ⟨pe, pl HB⟩
  · replace c5 := Bool.eq_false_iff.mpr c5
    subst c5
    rw [if_neg (show ¬ (false = true) by decide)] at H
    obtain ⟨y6560, hy6560⟩ : ∃ y_ : List (S23), y_ = (([(⟨false, t6555, t6556⟩ : S23), (⟨a1_0, a1_1, a1_2⟩ : S23)] : List (S23))) := ⟨_, rfl⟩
    replace H : ((ints_Join.f k y6560).bind fun bt6563 => (ints_Widen.l0 k (-1099511627776) 1099511627776 l2 (l2.length : Int) 0 false t6555 t6556 bt6563.1 bt6563.2.1 bt6563.2.2)) = some (r1, r2, r3) := by first | (rw [hy6560]; with_reducible exact H) | (have H2_ := (Option.bind_some _ _).symm.trans H; rw [hy6560]; with_reducible exact H2_) | (have H2_ := (Option.bind_some _ _).symm.trans H; with_reducible exact H2_) | with_reducible exact H | (rw [hy6560]; exact H) | exact H
    have Ny6560 := Aside0.mk hy6560
    clear hy6560
    obtain ⟨⟨t6563, t6564, t6565⟩, A190, H⟩ := Option.bind_eq_some_iff.mp H
    have A19 := Aside0.mk A190
    clear A190
    (try dsimp only at H)
    have H' := Aside0.mk H
    clear H
    go_enter Try.func57, Try.ntmps57
    go_wp2_with (first | ((with_reducible refine gate_dst (N := 3) rfl ?_); refine kx 3 #[.bool a0_0, .int .i64 a0_1, .int .i64 a0_2] 23 ?_; intro gb6551 hg w20 hbox hb; have BK6551 := Aside0.mk (hbox); have GW6551 := kg HB hg; have GE6551 := kg HB hg; replace HB := kh HB hb; clear hb hbox hg) | ((with_reducible refine gate_dst (N := 4) rfl ?_); refine kx 4 #[.bool a1_0, .int .i64 a1_1, .int .i64 a1_2] 23 ?_; intro gb6552 hg w21 hbox hb; have BK6552 := Aside0.mk (hbox); have GW6552 := kg HB hg; have GE6552 := kg HB hg; have NB6551_6552 := kn BK6551 hg; have NB6552_6551 := km BK6551 hg; replace BK6551 := kb BK6551 hb; replace HB := kh HB hb; clear hb hbox hg) | ((with_reducible refine gate_dst (N := 6) rfl ?_); refine kx 6 #[.bool false, .int .i64 0, .int .i64 0] 23 ?_; intro gb6553 hg w22 hbox hb; have BK6553 := Aside0.mk (hbox); have GW6553 := kg HB hg; have GE6553 := kg HB hg; have NB6551_6553 := kn BK6551 hg; have NB6553_6551 := km BK6551 hg; have NB6552_6553 := kn BK6552 hg; have NB6553_6552 := km BK6552 hg; replace BK6551 := kb BK6551 hb; replace BK6552 := kb BK6552 hb; replace HB := kh HB hb; clear hb hbox hg; have hnb23 := NB6551_6552.out; have hnc23 := NB6552_6551.out; have hnb24 := NB6551_6553.out; have hnc24 := NB6553_6551.out; have ⟨hcz25_0, hcz25_1, hcz25_2, hfz25_0, hfz25_1, hfz25_2⟩ := kz3f BK6551) | ((with_reducible refine gate_callee (f := 68) rfl ?_); refine kc (some 13) Try.func68 #[.agg #[.bool a0_0, .int .i64 a0_1, .int .i64 a0_2]] (ints_norm.calls a0_0 a0_1 a0_2 false t6555 t6556 _ A4.out) ?_; intro w26 hb; replace BK6551 := kb BK6551 hb; replace BK6552 := kb BK6552 hb; replace BK6553 := kb BK6553 hb; replace HB := kh HB hb; (try clear hb); (try clear hb2); (try clear hk); (try clear hi); have ⟨hcz27_0, hcz27_1, hcz27_2, hfz27_0, hfz27_1, hfz27_2⟩ := kz3f BK6551; have hnb28 := NB6552_6553.out; have hnc28 := NB6553_6552.out; have ⟨hcz29_0, hcz29_1, hcz29_2, hfz29_0, hfz29_1, hfz29_2⟩ := kz3f BK6552) | ((with_reducible refine gate_dst (N := 20) rfl ?_); refine Kd.R_lit k23 _ 23 ?hg (N := 20) ?hd (xs := ([(⟨false, t6555, t6556⟩ : S23), (⟨a1_0, a1_1, a1_2⟩ : S23)] : List (S23))) (inner := [.bool false, .int .i64 t6555, .int .i64 t6556, .bool a1_0, .int .i64 a1_1, .int .i64 a1_2]) (ok := fun _ => True) (okp := fun _ => True) ?hr ?hp (fun _ hk => hk) trivial (Below.refl _ _) (Nat.le_refl _) (by simp) ?_; (case hd => rfl); (case hg => rfl); (case hr => first | (go_simp; done) | (go_simp; rfl)); (case hp => exact (Reps.c3 (show Kd.M k23 _ _ _ (⟨false, t6555, t6556⟩ : S23) [.bool false, .int .i64 t6555, .int .i64 t6556] from (k23_mkM _ _ _ (⟨false, t6555, t6556⟩ : S23) )) (Reps.c3 (show Kd.M k23 _ _ _ (⟨a1_0, a1_1, a1_2⟩ : S23) [.bool a1_0, .int .i64 a1_1, .int .i64 a1_2] from (k23_mkM _ _ _ (⟨a1_0, a1_1, a1_2⟩ : S23) )) (Reps.none _ _)))); intro v6561 w30 ho31 hb hg_ hnew_; clear hg_ hnew_; (first | rw [← Ny6560.out] at ho31 | (simp only [Int.reduceToNat] at ho31; rw [← Ny6560.out] at ho31)); have HO6562 := Aside0.mk (Kd.R_lower (Kd.R_newB (Kd.R_newB (Kd.R_newB ho31 (g := gb6551) (o := .cells #[.bool false, .int .i64 t6555, .int .i64 t6556] 23 (0, 0)) (pK BK6551)) (g := gb6552) (o := .cells #[.bool a1_0, .int .i64 a1_1, .int .i64 a1_2] 23 (0, 0)) (pk BK6552)) (g := gb6553) (o := .cells #[.bool false, .int .i64 0, .int .i64 0] 23 (0, 0)) (pk BK6553)) (below_size (pl HB))); replace BK6551 := kb (o' := .cells #[.bool false, .int .i64 t6555, .int .i64 t6556] 23 (0, 0)) BK6551 hb; replace BK6552 := kb BK6552 hb; replace BK6553 := kb BK6553 hb; replace HB := kh HB hb; clear hb ho31; obtain ⟨Ao32, co32, eo32⟩ := Kd.R_slice HO6562.out; subst eo32) | ((with_reducible refine gate_callee (f := 43) rfl ?_); refine goesL_ (some 21) rfl rfl Try.func43 (by kernel_rfl) rfl #[.slice Ao32 y6560.length co32] rfl pa ?_; (with_reducible refine (ints_Join.calls k _ _ y6560 t6563 t6564 t6565 _ ?side1 ?side2 A19.out).mono ?_); (case side1 => repeat (first | exact (Kd.R_reads' HO6562.out).2.2 | (with_reducible refine Kd.C_alloc ?_ _) | (with_reducible refine Kd.C_drewN ?_ _) | (with_reducible refine Kd.C_drew ?_))); (case side2 => exact (Kd.R_reads' HO6562.out).2.1); rintro e w33 ⟨rfl, hb⟩; refine ⟨_, rfl, ?_⟩; have n0_ := Aside0.mk (Kd.R_below (by (with_reducible repeat (first | apply Kd.R_alloc | apply Kd.R_drewN | apply Kd.R_drew)); exact HO6562.out) hb); have n1_ := kb BK6551 hb; have n2_ := kb BK6552 hb; have n3_ := kb BK6553 hb; have n4_ := kh HB hb; clear HO6562; clear BK6551; clear BK6552; clear BK6553; clear HB; have HO6562 := n0_; have BK6551 := n1_; have BK6552 := n2_; have BK6553 := n3_; have HB := n4_; clear n0_ n1_ n2_ n3_ n4_; (try clear hb); (try clear hb2); (try clear hk); (try clear hi)) | ((with_reducible refine gate_dst (N := 7) rfl ?_); refine kx 7 #[.bool false, .int .i64 0, .int .i64 0] 23 ?_; intro gb6566 hg w34 hbox hb; have n0_ := Aside0.mk (Kd.R_below (Kd.R_elderB (by (with_reducible repeat (first | apply Kd.R_alloc | apply Kd.R_drewN | apply Kd.R_drew)); exact HO6562.out) gb6566 (Nat.le_of_eq hg.symm)) hb); have n1_ := kb BK6551 hb; have n2_ := kb BK6552 hb; have n3_ := kb BK6553 hb; have n4_ := kh HB hb; have n5_ := Aside0.mk (hbox); have n6_ := kg HB hg; have n7_ := kg HB hg; have n8_ := kn BK6551 hg; have n9_ := km BK6551 hg; have n10_ := kn BK6552 hg; have n11_ := km BK6552 hg; have n12_ := kn BK6553 hg; have n13_ := km BK6553 hg; clear HO6562; clear BK6551; clear BK6552; clear BK6553; clear HB; have HO6562 := n0_; have BK6551 := n1_; have BK6552 := n2_; have BK6553 := n3_; have HB := n4_; have BK6566 := n5_; have GW6566 := n6_; have GE6566 := n7_; have NB6551_6566 := n8_; have NB6566_6551 := n9_; have NB6552_6566 := n10_; have NB6566_6552 := n11_; have NB6553_6566 := n12_; have NB6566_6553 := n13_; clear n0_ n1_ n2_ n3_ n4_ n5_ n6_ n7_ n8_ n9_ n10_ n11_ n12_ n13_; clear hb hbox hg; have hnb35 := NB6566_6551.out; have hnc35 := NB6551_6566.out; have hnb36 := NB6566_6552.out; have hnc36 := NB6552_6566.out; have hnb37 := NB6566_6553.out; have hnc37 := NB6553_6566.out; have ⟨hcz38_0, hcz38_1, hcz38_2, hfz38_0, hfz38_1, hfz38_2⟩ := kz3f BK6566))
    go_loopg [8, 9, 24] k (fun kq v8 v9 v24 w' => ∃ (x8_1 : Int) (x9_1 : Int) (x24_1 : Int), v8 = .int .i64 x8_1 ∧ v9 = .int .i64 x9_1 ∧ v24 = .int .i64 x24_1 ∧ Aside0 (ints_Widen.l0 kq x8_1 x9_1 l2 (l2.length : Int) x24_1 false t6555 t6556 t6563 t6564 t6565 = some (r1, r2, r3)) ∧ Aside0 (kq ≤ k) ∧ Aside0 (w'.heap[gb6551]? = some (.cells #[.bool false, .int .i64 t6555, .int .i64 t6556] 23 (0, 0))) ∧ Aside0 (w'.heap[gb6552]? = some (.cells #[.bool a1_0, .int .i64 a1_1, .int .i64 a1_2] 23 (0, 0))) ∧ Aside0 (w'.heap[gb6553]? = some (.cells #[.bool false, .int .i64 0, .int .i64 0] 23 (0, 0))) ∧ Aside0 (w'.heap[gb6566]? = some (.cells #[.bool t6563, .int .i64 t6564, .int .i64 t6565] 23 (0, 0))) ∧ Aside0 (Below w.heap.size w w'))
    case atStart => exact ⟨((-1099511627776)), (1099511627776), (0), (by first | rfl | (simp; done) | (simp [*]; done)), (by first | rfl | (simp; done) | (simp [*]; done)), (by first | rfl | (simp; done) | (simp [*]; done)), H', ⟨Nat.le_refl _⟩, ⟨pk BK6551⟩, ⟨pk BK6552⟩, ⟨pk BK6553⟩, ⟨pK BK6566⟩, ⟨pl HB⟩⟩
    case round =>
      clear H'
      try clear c1
      try clear c2
      try clear p2
      try clear c3
      try clear c4
      try clear c5
      try clear c6
      try clear c10
      try clear c11
      try clear c15
      try clear c23
      try clear c24
      try clear c28
      try clear c35
      try clear c36
      try clear c37
      try clear hcz12_0
      try clear hcz12_1
      try clear hcz12_2
      try clear hcz14_0
      try clear hcz14_1
      try clear hcz14_2
      try clear hcz16_0
      try clear hcz16_1
      try clear hcz16_2
      try clear hcz18_0
      try clear hcz18_1
      try clear hcz18_2
      try clear hcz25_0
      try clear hcz25_1
      try clear hcz25_2
      try clear hcz27_0
      try clear hcz27_1
      try clear hcz27_2
      try clear hcz29_0
      try clear hcz29_1
      try clear hcz29_2
      try clear hcz38_0
      try clear hcz38_1
      try clear hcz38_2
      try clear hfz12_0
      try clear hfz12_1
      try clear hfz12_2
      try clear hfz14_0
      try clear hfz14_1
      try clear hfz14_2
      try clear hfz16_0
      try clear hfz16_1
      try clear hfz16_2
      try clear hfz18_0
      try clear hfz18_1
      try clear hfz18_2
      try clear hfz25_0
      try clear hfz25_1
      try clear hfz25_2
      try clear hfz27_0
      try clear hfz27_1
      try clear hfz27_2
      try clear hfz29_0
      try clear hfz29_1
      try clear hfz29_2
      try clear hfz38_0
      try clear hfz38_1
      try clear hfz38_2
      obtain ⟨x8_1, x9_1, x24_1, rfl, rfl, rfl, HA, HK1, BK6551, BK6552, BK6553, BK6566, HB⟩ := hrel
      cases gk with
      | zero => exact absurd HA.out (by simp [ints_Widen.l0])
      | succ k1 =>
        have H := HA.out
        clear HA
        simp only [ints_Widen.l0] at H
        by_cases c39 : x24_1 < (l2.length : Int)
        · rw [if_pos c39] at H
          have c39b0 : decide (x24_1 < (l2.length : Int)) = true := decide_eq_true c39
          clear c39
          by_cases c40 : 0 ≤ x24_1
          · rw [if_pos c40] at H
            have c40b0 : decide (0 ≤ x24_1) = true := decide_eq_true c40
            clear c40
            by_cases c41 : x24_1 < (l2.length : Int)
            · rw [if_pos c41] at H
              have c41b0 : decide (x24_1 < (l2.length : Int)) = true := decide_eq_true c41
              clear c41
              by_cases c42 : (rd l2 x24_1) ≤ t6564
              · rw [if_pos c42] at H
                have c42b0 : decide ((rd l2 x24_1) ≤ t6564) = true := decide_eq_true c42
                clear c42
                obtain ⟨ji43, hji43⟩ : ∃ j_ : Int, (mx x8_1 (rd l2 x24_1)) = j_ := ⟨_, rfl⟩
                replace H : (if (rd l2 x24_1) ≥ t6565 then (ints_Widen.l0 k1 ji43 (mn x9_1 (rd l2 x24_1)) l2 (l2.length : Int) (wrap64 (x24_1 + 1)) false t6555 t6556 t6563 t6564 t6565) else (ints_Widen.l0 k1 ji43 x9_1 l2 (l2.length : Int) (wrap64 (x24_1 + 1)) false t6555 t6556 t6563 t6564 t6565)) = some (r1, r2, r3) := by first | (rw [hji43] at H; exact H) | (simp only [hji43] at H ⊢; exact H)
                have hji43_ : (if x8_1 < (rd l2 x24_1) then (rd l2 x24_1) else x8_1) = ji43 := hji43
                by_cases c44 : (rd l2 x24_1) ≥ t6565
                · rw [if_pos c44] at H
                  have c44b0 : decide (t6565 ≤ (rd l2 x24_1)) = true := decide_eq_true c44
                  clear c44
                  obtain ⟨ji45, hji45⟩ : ∃ j_ : Int, (mn x9_1 (rd l2 x24_1)) = j_ := ⟨_, rfl⟩
                  replace H : (ints_Widen.l0 k1 ji43 ji45 l2 (l2.length : Int) (wrap64 (x24_1 + 1)) false t6555 t6556 t6563 t6564 t6565) = some (r1, r2, r3) := by first | (rw [hji45] at H; exact H) | (simp only [hji45] at H ⊢; exact H)
                  have hji45_ : (if (rd l2 x24_1) < x9_1 then (rd l2 x24_1) else x9_1) = ji45 := hji45
                  have H' := Aside0.mk H
                  clear H
                  have p6567 : 0 ≤ (x24_1 : Int) := of_decide_eq_true (by first | (with_reducible assumption) | assumption)
                  have q6567 : x24_1 < (l2.length : Int) := of_decide_eq_true (by first | (with_reducible assumption) | assumption)
                  obtain ⟨ad6567, e6567, hx6567_0⟩ := Kd.at_int HR2.out x24_1 p6567 q6567
                  cases e6567
                  replace hx6567_0 := (HB.out.cell (World.block_lt_of_cell? w _ hx6567_0)).trans hx6567_0
                  replace p6567 := eq_true p6567
                  replace q6567 := eq_true q6567
                  have hnb46 := NB6566_6551.out
                  have hnc46 := NB6551_6566.out
                  have hnb47 := NB6566_6552.out
                  have hnc47 := NB6552_6566.out
                  have hnb48 := NB6566_6553.out
                  have hnc48 := NB6553_6566.out
                  have hcz49_0 : wr.cell? ⟨gb6566, 0, none⟩ = some (.bool t6563) := bc BK6566 0
                  have hcz49_1 : wr.cell? ⟨gb6566, 1, none⟩ = some (.int .i64 t6564) := bc BK6566 1
                  have hcz49_2 : wr.cell? ⟨gb6566, 2, none⟩ = some (.int .i64 t6565) := bc BK6566 2
                  have hfz49_0 := blk_frozen BK6566.out 0
                  have hfz49_1 := blk_frozen BK6566.out 1
                  have hfz49_2 := blk_frozen BK6566.out 2
                  go_wp2
                  go_roundg k1
                  case measure => have := HK1.out; omega
                  case rel => exact ⟨(ji43), (ji45), (wrap64 (x24_1 + 1)), (by first | rfl | (simp; done) | (simp only [← hji43] <;> (first | rfl | simp)) | (simp [*]; done)), (by first | rfl | (simp; done) | (simp only [← hji45] <;> (first | rfl | simp)) | (simp [*]; done)), (by first | rfl | (simp; done) | (simp [*]; done)), H', ⟨by have := HK1.out; omega⟩, ⟨pk BK6551⟩, ⟨pk BK6552⟩, ⟨pk BK6553⟩, ⟨pk BK6566⟩, ⟨pl HB⟩⟩
                · rw [if_neg c44] at H
                  have c44b0 : decide (t6565 ≤ (rd l2 x24_1)) = false := decide_eq_false c44
                  clear c44
                  have H' := Aside0.mk H
                  clear H
                  have p6567 : 0 ≤ (x24_1 : Int) := of_decide_eq_true (by first | (with_reducible assumption) | assumption)
                  have q6567 : x24_1 < (l2.length : Int) := of_decide_eq_true (by first | (with_reducible assumption) | assumption)
                  obtain ⟨ad6567, e6567, hx6567_0⟩ := Kd.at_int HR2.out x24_1 p6567 q6567
                  cases e6567
                  replace hx6567_0 := (HB.out.cell (World.block_lt_of_cell? w _ hx6567_0)).trans hx6567_0
                  replace p6567 := eq_true p6567
                  replace q6567 := eq_true q6567
                  have hnb50 := NB6566_6551.out
                  have hnc50 := NB6551_6566.out
                  have hnb51 := NB6566_6552.out
                  have hnc51 := NB6552_6566.out
                  have hnb52 := NB6566_6553.out
                  have hnc52 := NB6553_6566.out
                  have hcz53_0 : wr.cell? ⟨gb6566, 0, none⟩ = some (.bool t6563) := bc BK6566 0
                  have hcz53_1 : wr.cell? ⟨gb6566, 1, none⟩ = some (.int .i64 t6564) := bc BK6566 1
                  have hcz53_2 : wr.cell? ⟨gb6566, 2, none⟩ = some (.int .i64 t6565) := bc BK6566 2
                  have hfz53_0 := blk_frozen BK6566.out 0
                  have hfz53_1 := blk_frozen BK6566.out 1
                  have hfz53_2 := blk_frozen BK6566.out 2
                  go_wp2
                  go_roundg k1
                  case measure => have := HK1.out; omega
                  case rel => exact ⟨(ji43), (x9_1), (wrap64 (x24_1 + 1)), (by first | rfl | (simp; done) | (simp only [← hji43] <;> (first | rfl | simp)) | (simp [*]; done)), (by first | rfl | (simp; done) | (simp [*]; done)), (by first | rfl | (simp; done) | (simp [*]; done)), H', ⟨by have := HK1.out; omega⟩, ⟨pk BK6551⟩, ⟨pk BK6552⟩, ⟨pk BK6553⟩, ⟨pk BK6566⟩, ⟨pl HB⟩⟩
              · rw [if_neg c42] at H
                have c42b0 : decide ((rd l2 x24_1) ≤ t6564) = false := decide_eq_false c42
                clear c42
                by_cases c54 : (rd l2 x24_1) ≥ t6565
                · rw [if_pos c54] at H
                  have c54b0 : decide (t6565 ≤ (rd l2 x24_1)) = true := decide_eq_true c54
                  clear c54
                  obtain ⟨ji55, hji55⟩ : ∃ j_ : Int, (mn x9_1 (rd l2 x24_1)) = j_ := ⟨_, rfl⟩
                  replace H : (ints_Widen.l0 k1 x8_1 ji55 l2 (l2.length : Int) (wrap64 (x24_1 + 1)) false t6555 t6556 t6563 t6564 t6565) = some (r1, r2, r3) := by first | (rw [hji55] at H; exact H) | (simp only [hji55] at H ⊢; exact H)
                  have hji55_ : (if (rd l2 x24_1) < x9_1 then (rd l2 x24_1) else x9_1) = ji55 := hji55
                  have H' := Aside0.mk H
                  clear H
                  have p6567 : 0 ≤ (x24_1 : Int) := of_decide_eq_true (by first | (with_reducible assumption) | assumption)
                  have q6567 : x24_1 < (l2.length : Int) := of_decide_eq_true (by first | (with_reducible assumption) | assumption)
                  obtain ⟨ad6567, e6567, hx6567_0⟩ := Kd.at_int HR2.out x24_1 p6567 q6567
                  cases e6567
                  replace hx6567_0 := (HB.out.cell (World.block_lt_of_cell? w _ hx6567_0)).trans hx6567_0
                  replace p6567 := eq_true p6567
                  replace q6567 := eq_true q6567
                  have hnb56 := NB6566_6551.out
                  have hnc56 := NB6551_6566.out
                  have hnb57 := NB6566_6552.out
                  have hnc57 := NB6552_6566.out
                  have hnb58 := NB6566_6553.out
                  have hnc58 := NB6553_6566.out
                  have hcz59_0 : wr.cell? ⟨gb6566, 0, none⟩ = some (.bool t6563) := bc BK6566 0
                  have hcz59_1 : wr.cell? ⟨gb6566, 1, none⟩ = some (.int .i64 t6564) := bc BK6566 1
                  have hcz59_2 : wr.cell? ⟨gb6566, 2, none⟩ = some (.int .i64 t6565) := bc BK6566 2
                  have hfz59_0 := blk_frozen BK6566.out 0
                  have hfz59_1 := blk_frozen BK6566.out 1
                  have hfz59_2 := blk_frozen BK6566.out 2
                  go_wp2
                  go_roundg k1
                  case measure => have := HK1.out; omega
                  case rel => exact ⟨(x8_1), (ji55), (wrap64 (x24_1 + 1)), (by first | rfl | (simp; done) | (simp [*]; done)), (by first | rfl | (simp; done) | (simp only [← hji55] <;> (first | rfl | simp)) | (simp [*]; done)), (by first | rfl | (simp; done) | (simp [*]; done)), H', ⟨by have := HK1.out; omega⟩, ⟨pk BK6551⟩, ⟨pk BK6552⟩, ⟨pk BK6553⟩, ⟨pk BK6566⟩, ⟨pl HB⟩⟩
                · rw [if_neg c54] at H
                  have c54b0 : decide (t6565 ≤ (rd l2 x24_1)) = false := decide_eq_false c54
                  clear c54
                  have H' := Aside0.mk H
                  clear H
                  have p6567 : 0 ≤ (x24_1 : Int) := of_decide_eq_true (by first | (with_reducible assumption) | assumption)
                  have q6567 : x24_1 < (l2.length : Int) := of_decide_eq_true (by first | (with_reducible assumption) | assumption)
                  obtain ⟨ad6567, e6567, hx6567_0⟩ := Kd.at_int HR2.out x24_1 p6567 q6567
                  cases e6567
                  replace hx6567_0 := (HB.out.cell (World.block_lt_of_cell? w _ hx6567_0)).trans hx6567_0
                  replace p6567 := eq_true p6567
                  replace q6567 := eq_true q6567
                  have hnb60 := NB6566_6551.out
                  have hnc60 := NB6551_6566.out
                  have hnb61 := NB6566_6552.out
                  have hnc61 := NB6552_6566.out
                  have hnb62 := NB6566_6553.out
                  have hnc62 := NB6553_6566.out
                  have hcz63_0 : wr.cell? ⟨gb6566, 0, none⟩ = some (.bool t6563) := bc BK6566 0
                  have hcz63_1 : wr.cell? ⟨gb6566, 1, none⟩ = some (.int .i64 t6564) := bc BK6566 1
                  have hcz63_2 : wr.cell? ⟨gb6566, 2, none⟩ = some (.int .i64 t6565) := bc BK6566 2
                  have hfz63_0 := blk_frozen BK6566.out 0
                  have hfz63_1 := blk_frozen BK6566.out 1
                  have hfz63_2 := blk_frozen BK6566.out 2
                  go_wp2
                  go_roundg k1
                  case measure => have := HK1.out; omega
                  case rel => exact ⟨(x8_1), (x9_1), (wrap64 (x24_1 + 1)), (by first | rfl | (simp; done) | (simp [*]; done)), (by first | rfl | (simp; done) | (simp [*]; done)), (by first | rfl | (simp; done) | (simp [*]; done)), H', ⟨by have := HK1.out; omega⟩, ⟨pk BK6551⟩, ⟨pk BK6552⟩, ⟨pk BK6553⟩, ⟨pk BK6566⟩, ⟨pl HB⟩⟩
            · rw [if_neg c41] at H
              exact absurd H (by simp)
          · rw [if_neg c40] at H
            exact absurd H (by simp)
        · rw [if_neg c39] at H
          have c39b0 : decide (x24_1 < (l2.length : Int)) = false := decide_eq_false c39
          clear c39
          by_cases c64 : t6564 = t6555
          · rw [if_pos c64] at H
            have c64b0 : (t6564 == t6555) = true := beq_iff_eq.mpr c64
            have c64b1 : (t6564 != t6555) = false := bne_eq_false_iff_eq.mpr c64
            clear c64
            by_cases c65 : t6565 = t6556
            · rw [if_pos c65] at H
              have c65b0 : (t6565 == t6556) = true := beq_iff_eq.mpr c65
              have c65b1 : (t6565 != t6556) = false := bne_eq_false_iff_eq.mpr c65
              clear c65
              obtain ⟨⟨t6568, t6569, t6570⟩, A660, H⟩ := Option.bind_eq_some_iff.mp H
              have A66 := Aside0.mk A660
              clear A660
              (try dsimp only at H)
              simp only [Option.some.injEq, Prod.mk.injEq] at H
              obtain ⟨rfl, rfl, rfl⟩ := H
              have hnb67 := NB6566_6551.out
              have hnc67 := NB6551_6566.out
              have hnb68 := NB6566_6552.out
              have hnc68 := NB6552_6566.out
              have hnb69 := NB6566_6553.out
              have hnc69 := NB6553_6566.out
              have hcz70_0 : wr.cell? ⟨gb6566, 0, none⟩ = some (.bool t6563) := bc BK6566 0
              have hcz70_1 : wr.cell? ⟨gb6566, 1, none⟩ = some (.int .i64 t6564) := bc BK6566 1
              have hcz70_2 : wr.cell? ⟨gb6566, 2, none⟩ = some (.int .i64 t6565) := bc BK6566 2
              have hfz70_0 := blk_frozen BK6566.out 0
              have hfz70_1 := blk_frozen BK6566.out 1
              have hfz70_2 := blk_frozen BK6566.out 2
              have hnb71 := NB6551_6552.out
              have hnc71 := NB6552_6551.out
              have hnb72 := NB6551_6553.out
              have hnc72 := NB6553_6551.out
              have hcz73_0 : wr.cell? ⟨gb6551, 0, none⟩ = some (.bool false) := bc BK6551 0
              have hcz73_1 : wr.cell? ⟨gb6551, 1, none⟩ = some (.int .i64 t6555) := bc BK6551 1
              have hcz73_2 : wr.cell? ⟨gb6551, 2, none⟩ = some (.int .i64 t6556) := bc BK6551 2
              have hfz73_0 := blk_frozen BK6551.out 0
              have hfz73_1 := blk_frozen BK6551.out 1
              have hfz73_2 := blk_frozen BK6551.out 2
              go_wp2_with (first | ((with_reducible refine gate_callee (f := 37) rfl ?_); refine kc (some 59) Try.func37 #[.int .i64 t6564, .int .i64 t6565] (ints_Make.calls t6564 t6565 t6568 t6569 t6570 _ A66.out) ?_; intro w74 hb; replace BK6551 := kb BK6551 hb; replace BK6552 := kb BK6552 hb; replace BK6553 := kb BK6553 hb; replace BK6566 := kb BK6566 hb; replace HB := kh HB hb; (try clear hb); (try clear hb2); (try clear hk); (try clear hi); have hnb75 := NB6553_6552.out; have hnc75 := NB6552_6553.out; have ⟨hcz76_0, hcz76_1, hcz76_2, hfz76_0, hfz76_1, hfz76_2⟩ := kz3f BK6553))
              refine bodyPost_ret (results_cell_row rfl _ _ gb6553 23 #[.bool t6568, .int .i64 t6569, .int .i64 t6570] (0, 0) _ rfl (pK BK6553) Try.underlying23 rfl (by kernel_rfl)) rfl ?_
              exact ⟨pe, pl HB⟩
            · rw [if_neg c65] at H
              have c65b0 : (t6565 == t6556) = false := beq_eq_false_iff_ne.mpr c65
              have c65b1 : (t6565 != t6556) = true := bne_iff_ne.mpr c65
              obtain ⟨⟨t6571, t6572, t6573⟩, A770, H⟩ := Option.bind_eq_some_iff.mp H
              have A77 := Aside0.mk A770
              clear A770
              (try dsimp only at H)
              simp only [Option.some.injEq, Prod.mk.injEq] at H
              obtain ⟨rfl, rfl, rfl⟩ := H
              have hnb78 := NB6566_6551.out
              have hnc78 := NB6551_6566.out
              have hnb79 := NB6566_6552.out
              have hnc79 := NB6552_6566.out
              have hnb80 := NB6566_6553.out
              have hnc80 := NB6553_6566.out
              have hcz81_0 : wr.cell? ⟨gb6566, 0, none⟩ = some (.bool t6563) := bc BK6566 0
              have hcz81_1 : wr.cell? ⟨gb6566, 1, none⟩ = some (.int .i64 t6564) := bc BK6566 1
              have hcz81_2 : wr.cell? ⟨gb6566, 2, none⟩ = some (.int .i64 t6565) := bc BK6566 2
              have hfz81_0 := blk_frozen BK6566.out 0
              have hfz81_1 := blk_frozen BK6566.out 1
              have hfz81_2 := blk_frozen BK6566.out 2
              have hnb82 := NB6551_6552.out
              have hnc82 := NB6552_6551.out
              have hnb83 := NB6551_6553.out
              have hnc83 := NB6553_6551.out
              have hcz84_0 : wr.cell? ⟨gb6551, 0, none⟩ = some (.bool false) := bc BK6551 0
              have hcz84_1 : wr.cell? ⟨gb6551, 1, none⟩ = some (.int .i64 t6555) := bc BK6551 1
              have hcz84_2 : wr.cell? ⟨gb6551, 2, none⟩ = some (.int .i64 t6556) := bc BK6551 2
              have hfz84_0 := blk_frozen BK6551.out 0
              have hfz84_1 := blk_frozen BK6551.out 1
              have hfz84_2 := blk_frozen BK6551.out 2
              go_wp2_with (first | ((with_reducible refine gate_callee (f := 37) rfl ?_); refine kc (some 59) Try.func37 #[.int .i64 t6564, .int .i64 x9_1] (ints_Make.calls t6564 x9_1 t6571 t6572 t6573 _ A77.out) ?_; intro w85 hb; replace BK6551 := kb BK6551 hb; replace BK6552 := kb BK6552 hb; replace BK6553 := kb BK6553 hb; replace BK6566 := kb BK6566 hb; replace HB := kh HB hb; (try clear hb); (try clear hb2); (try clear hk); (try clear hi); have hnb86 := NB6553_6552.out; have hnc86 := NB6552_6553.out; have ⟨hcz87_0, hcz87_1, hcz87_2, hfz87_0, hfz87_1, hfz87_2⟩ := kz3f BK6553))
              refine bodyPost_ret (results_cell_row rfl _ _ gb6553 23 #[.bool t6571, .int .i64 t6572, .int .i64 t6573] (0, 0) _ rfl (pK BK6553) Try.underlying23 rfl (by kernel_rfl)) rfl ?_
              exact ⟨pe, pl HB⟩
          · rw [if_neg c64] at H
            have c64b0 : (t6564 == t6555) = false := beq_eq_false_iff_ne.mpr c64
            have c64b1 : (t6564 != t6555) = true := bne_iff_ne.mpr c64
            by_cases c88 : t6565 = t6556
            · rw [if_pos c88] at H
              have c88b0 : (t6565 == t6556) = true := beq_iff_eq.mpr c88
              have c88b1 : (t6565 != t6556) = false := bne_eq_false_iff_eq.mpr c88
              clear c88
              obtain ⟨⟨t6574, t6575, t6576⟩, A890, H⟩ := Option.bind_eq_some_iff.mp H
              have A89 := Aside0.mk A890
              clear A890
              (try dsimp only at H)
              simp only [Option.some.injEq, Prod.mk.injEq] at H
              obtain ⟨rfl, rfl, rfl⟩ := H
              have hnb90 := NB6566_6551.out
              have hnc90 := NB6551_6566.out
              have hnb91 := NB6566_6552.out
              have hnc91 := NB6552_6566.out
              have hnb92 := NB6566_6553.out
              have hnc92 := NB6553_6566.out
              have hcz93_0 : wr.cell? ⟨gb6566, 0, none⟩ = some (.bool t6563) := bc BK6566 0
              have hcz93_1 : wr.cell? ⟨gb6566, 1, none⟩ = some (.int .i64 t6564) := bc BK6566 1
              have hcz93_2 : wr.cell? ⟨gb6566, 2, none⟩ = some (.int .i64 t6565) := bc BK6566 2
              have hfz93_0 := blk_frozen BK6566.out 0
              have hfz93_1 := blk_frozen BK6566.out 1
              have hfz93_2 := blk_frozen BK6566.out 2
              have hnb94 := NB6551_6552.out
              have hnc94 := NB6552_6551.out
              have hnb95 := NB6551_6553.out
              have hnc95 := NB6553_6551.out
              have hcz96_0 : wr.cell? ⟨gb6551, 0, none⟩ = some (.bool false) := bc BK6551 0
              have hcz96_1 : wr.cell? ⟨gb6551, 1, none⟩ = some (.int .i64 t6555) := bc BK6551 1
              have hcz96_2 : wr.cell? ⟨gb6551, 2, none⟩ = some (.int .i64 t6556) := bc BK6551 2
              have hfz96_0 := blk_frozen BK6551.out 0
              have hfz96_1 := blk_frozen BK6551.out 1
              have hfz96_2 := blk_frozen BK6551.out 2
              go_wp2_with (first | ((with_reducible refine gate_callee (f := 37) rfl ?_); refine kc (some 59) Try.func37 #[.int .i64 x8_1, .int .i64 t6565] (ints_Make.calls x8_1 t6565 t6574 t6575 t6576 _ A89.out) ?_; intro w97 hb; replace BK6551 := kb BK6551 hb; replace BK6552 := kb BK6552 hb; replace BK6553 := kb BK6553 hb; replace BK6566 := kb BK6566 hb; replace HB := kh HB hb; (try clear hb); (try clear hb2); (try clear hk); (try clear hi); have hnb98 := NB6553_6552.out; have hnc98 := NB6552_6553.out; have ⟨hcz99_0, hcz99_1, hcz99_2, hfz99_0, hfz99_1, hfz99_2⟩ := kz3f BK6553))
              refine bodyPost_ret (results_cell_row rfl _ _ gb6553 23 #[.bool t6574, .int .i64 t6575, .int .i64 t6576] (0, 0) _ rfl (pK BK6553) Try.underlying23 rfl (by kernel_rfl)) rfl ?_
              exact ⟨pe, pl HB⟩
            · rw [if_neg c88] at H
              have c88b0 : (t6565 == t6556) = false := beq_eq_false_iff_ne.mpr c88
              have c88b1 : (t6565 != t6556) = true := bne_iff_ne.mpr c88
              obtain ⟨⟨t6577, t6578, t6579⟩, A1000, H⟩ := Option.bind_eq_some_iff.mp H
              have A100 := Aside0.mk A1000
              clear A1000
              (try dsimp only at H)
              simp only [Option.some.injEq, Prod.mk.injEq] at H
              obtain ⟨rfl, rfl, rfl⟩ := H
              have hnb101 := NB6566_6551.out
              have hnc101 := NB6551_6566.out
              have hnb102 := NB6566_6552.out
              have hnc102 := NB6552_6566.out
              have hnb103 := NB6566_6553.out
              have hnc103 := NB6553_6566.out
              have hcz104_0 : wr.cell? ⟨gb6566, 0, none⟩ = some (.bool t6563) := bc BK6566 0
              have hcz104_1 : wr.cell? ⟨gb6566, 1, none⟩ = some (.int .i64 t6564) := bc BK6566 1
              have hcz104_2 : wr.cell? ⟨gb6566, 2, none⟩ = some (.int .i64 t6565) := bc BK6566 2
              have hfz104_0 := blk_frozen BK6566.out 0
              have hfz104_1 := blk_frozen BK6566.out 1
              have hfz104_2 := blk_frozen BK6566.out 2
              have hnb105 := NB6551_6552.out
              have hnc105 := NB6552_6551.out
              have hnb106 := NB6551_6553.out
              have hnc106 := NB6553_6551.out
              have hcz107_0 : wr.cell? ⟨gb6551, 0, none⟩ = some (.bool false) := bc BK6551 0
              have hcz107_1 : wr.cell? ⟨gb6551, 1, none⟩ = some (.int .i64 t6555) := bc BK6551 1
              have hcz107_2 : wr.cell? ⟨gb6551, 2, none⟩ = some (.int .i64 t6556) := bc BK6551 2
              have hfz107_0 := blk_frozen BK6551.out 0
              have hfz107_1 := blk_frozen BK6551.out 1
              have hfz107_2 := blk_frozen BK6551.out 2
              go_wp2_with (first | ((with_reducible refine gate_callee (f := 37) rfl ?_); refine kc (some 59) Try.func37 #[.int .i64 x8_1, .int .i64 x9_1] (ints_Make.calls x8_1 x9_1 t6577 t6578 t6579 _ A100.out) ?_; intro w108 hb; replace BK6551 := kb BK6551 hb; replace BK6552 := kb BK6552 hb; replace BK6553 := kb BK6553 hb; replace BK6566 := kb BK6566 hb; replace HB := kh HB hb; (try clear hb); (try clear hb2); (try clear hk); (try clear hi); have hnb109 := NB6553_6552.out; have hnc109 := NB6552_6553.out; have ⟨hcz110_0, hcz110_1, hcz110_2, hfz110_0, hfz110_1, hfz110_2⟩ := kz3f BK6553))
              refine bodyPost_ret (results_cell_row rfl _ _ gb6553 23 #[.bool t6577, .int .i64 t6578, .int .i64 t6579] (0, 0) _ rfl (pK BK6553) Try.underlying23 rfl (by kernel_rfl)) rfl ?_
              exact ⟨pe, pl HB⟩
end Go.Proofs.Ytinmgnlofininaa.PAll
end
