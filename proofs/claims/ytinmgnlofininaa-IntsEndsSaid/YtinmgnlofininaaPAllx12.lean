-- Laid by this session's wip/more.py over the kit's print; hand-written parts are in it.
import Derived.Test.YtinmgnlofininaaPAllx0
import Derived.Test.YtinmgnlofininaaPAllx1
import Derived.Test.YtinmgnlofininaaPAllx4
import Derived.Test.YtinmgnlofininaaPAllx5
import Derived.Test.YtinmgnlofininaaPAllx10
import Derived.Test.YtinmgnlofininaaPAllx11
namespace Go.Proofs.Ytinmgnlofininaa.PAll
open Go.RowKit Go.Proofs.YtinmgnlofininaaW.PrintWords Go.Proofs.YtinmgnlofininaaW.PrintLast Go.Proofs.YtinmgnlofininaaW.PrintMore
attribute [local go_sem] max2_int min2_int max_two min_two max_three min_three max_four min_four   -- for this text's walks alone
set_option linter.unusedVariables false
set_option linter.unusedSimpArgs false

attribute [local go_sem high] eqA23
/-! ### flyballlaw17_IntsEnds: function 11 -/
def flyballlaw17_IntsEnds.j0 : Nat → Bool → Bool → Bool → Int → Int → Bool → Int → Int → Bool → Int → Int → Bool → Int → Int → Bool → Int → Int → Option (Bool)
  | 0, _, _, _, _, _, _, _, _, _, _, _, _, _, _, _, _, _ => none
  | k + 1, x5, x37, x4452000, x4452001, x4452002, x4461000, x4461001, x4461002, x4468000, x4468001, x4468002, x4472000, x4472001, x4472002, x4476000, x4476001, x4476002 => if x37 = true then (if x5 = true then (if x4472000 = true then (some x4476000) else (none)) else (none)) else ((flyballlaw17_sumEnd.f k x4461001 x4468001).bind fun t4476 => ((flyballlaw17_sumEnd.f k x4461002 x4468002).bind fun t4477 => ((flyballlaw17_sumEnd.f k x4461001 (wrap64 (-x4468002))).bind fun t4478 => ((flyballlaw17_sumEnd.f k x4461002 (wrap64 (-x4468001))).bind fun t4479 => ((ints_Neg.f x4452000 x4452001 x4452002).bind fun bt4480 => (if x5 = true then (if (!x4472000 && (x4472001 == (mn t4476 1099511627775) && (x4472002 == (mx t4477 (-1099511627775))))) = true then (if (!x4476000 && (x4476001 == (mn t4478 1099511627775) && (x4476002 == (mx t4479 (-1099511627775))))) = true then (if bt4480.2.1 = (wrap64 (-x4461002)) then (some (bt4480.2.2 == (wrap64 (-x4461001)))) else (none)) else (none)) else (none)) else (none)))))))
def flyballlaw17_IntsEnds.f (k : Nat) (a0_0 : Bool) (a0_1 : Int) (a0_2 : Int) (a1_0 : Bool) (a1_1 : Int) (a1_2 : Int) : Option (Bool) := (flyballlaw17_works.f k).bind fun t4453 => (if t4453 = true then ((ints_Join.f k (([(⟨a0_0, a0_1, a0_2⟩ : S23)] : List (S23)))).bind fun bt4457 => ((ints_Join.f k (([(⟨a1_0, a1_1, a1_2⟩ : S23)] : List (S23)))).bind fun bt4464 => ((ints_Add.f k a0_0 a0_1 a0_2 a1_0 a1_1 a1_2).bind fun bt4468 => ((ints_Sub.f k a0_0 a0_1 a0_2 a1_0 a1_1 a1_2).bind fun bt4472 => (if bt4457.1 = true then (flyballlaw17_IntsEnds.j0 k t4453 true a0_0 a0_1 a0_2 bt4457.1 bt4457.2.1 bt4457.2.2 bt4464.1 bt4464.2.1 bt4464.2.2 bt4468.1 bt4468.2.1 bt4468.2.2 bt4472.1 bt4472.2.1 bt4472.2.2) else (flyballlaw17_IntsEnds.j0 k t4453 bt4464.1 a0_0 a0_1 a0_2 bt4457.1 bt4457.2.1 bt4457.2.2 bt4464.1 bt4464.2.1 bt4464.2.2 bt4468.1 bt4468.2.1 bt4468.2.2 bt4472.1 bt4472.2.1 bt4472.2.2)))))) else (some false))
theorem flyballlaw17_IntsEnds.mono_l : ∀ k, (∀ y0 y1 y2 y3 y4 y5 y6 y7 y8 y9 y10 y11 y12 y13 y14 y15 y16, LeO (flyballlaw17_IntsEnds.j0 k y0 y1 y2 y3 y4 y5 y6 y7 y8 y9 y10 y11 y12 y13 y14 y15 y16) (flyballlaw17_IntsEnds.j0 (k + 1) y0 y1 y2 y3 y4 y5 y6 y7 y8 y9 y10 y11 y12 y13 y14 y15 y16))
  | 0 => fun _ _ _ _ _ _ _ _ _ _ _ _ _ _ _ _ _ r h => by simp [flyballlaw17_IntsEnds.j0] at h
  | k + 1 => by
    have ih0 := flyballlaw17_IntsEnds.mono_l k
    · intro y0 y1 y2 y3 y4 y5 y6 y7 y8 y9 y10 y11 y12 y13 y14 y15 y16
      unfold flyballlaw17_IntsEnds.j0
      repeat' first
      | (with_reducible exact ih0 _ _ _ _ _ _ _ _ _ _ _ _ _ _ _ _ _)
      | (with_reducible exact flyballlaw17_sumEnd.mono _ _ _)
      | (with_reducible exact flyballlaw17_works.mono _)
      | (with_reducible exact ints_Add.mono _ _ _ _ _ _ _)
      | (with_reducible exact ints_Join.mono _ _)
      | (with_reducible exact ints_Sub.mono _ _ _ _ _ _ _)
      | (with_reducible exact LeO.refl _)
      | (with_reducible exact LeO.none _)
      | (with_reducible refine LeO.ite ?_ ?_)
      | (with_reducible refine LeO.bind ?_ (fun _ => ?_))
      | exact ih0 _ _ _ _ _ _ _ _ _ _ _ _ _ _ _ _ _
      | exact flyballlaw17_sumEnd.mono _ _ _
      | exact flyballlaw17_works.mono _
      | exact ints_Add.mono _ _ _ _ _ _ _
      | exact ints_Join.mono _ _
      | exact ints_Sub.mono _ _ _ _ _ _ _
      | exact LeO.none _
      | refine LeO.ite ?_ ?_
      | refine LeO.bind ?_ (fun _ => ?_)
theorem flyballlaw17_IntsEnds.mono : ∀ a0 a1 a2 a3 a4 a5 k, LeO (flyballlaw17_IntsEnds.f k a0 a1 a2 a3 a4 a5) (flyballlaw17_IntsEnds.f (k + 1) a0 a1 a2 a3 a4 a5) := by
  intro a0 a1 a2 a3 a4 a5 k
  have ih0 := flyballlaw17_IntsEnds.mono_l k
  unfold flyballlaw17_IntsEnds.f
  repeat' first
      | (with_reducible exact ih0 _ _ _ _ _ _ _ _ _ _ _ _ _ _ _ _ _)
      | (with_reducible exact flyballlaw17_sumEnd.mono _ _ _)
      | (with_reducible exact flyballlaw17_works.mono _)
      | (with_reducible exact ints_Add.mono _ _ _ _ _ _ _)
      | (with_reducible exact ints_Join.mono _ _)
      | (with_reducible exact ints_Sub.mono _ _ _ _ _ _ _)
      | (with_reducible exact LeO.refl _)
      | (with_reducible exact LeO.none _)
      | (with_reducible refine LeO.ite ?_ ?_)
      | (with_reducible refine LeO.bind ?_ (fun _ => ?_))
      | exact ih0 _ _ _ _ _ _ _ _ _ _ _ _ _ _ _ _ _
      | exact flyballlaw17_sumEnd.mono _ _ _
      | exact flyballlaw17_works.mono _
      | exact ints_Add.mono _ _ _ _ _ _ _
      | exact ints_Join.mono _ _
      | exact ints_Sub.mono _ _ _ _ _ _ _
      | exact LeO.none _
      | refine LeO.ite ?_ ?_
      | refine LeO.bind ?_ (fun _ => ?_)
set_option maxHeartbeats 8000000 in
set_option maxRecDepth 100000 in
theorem flyballlaw17_IntsEnds.calls (k : Nat) (a0_0 : Bool) (a0_1 : Int) (a0_2 : Int) (a1_0 : Bool) (a1_1 : Int) (a1_2 : Int) (r : Bool) (w : World) (h : flyballlaw17_IntsEnds.f k a0_0 a0_1 a0_2 a1_0 a1_1 a1_2 = some r) :
    Calls Try.prog 11 #[.agg #[.bool a0_0, .int .i64 a0_1, .int .i64 a0_2], .agg #[.bool a1_0, .int .i64 a1_1, .int .i64 a1_2]] w fun e w' => e = .returned (.bool r) ∧ Below w.heap.size w w' := by
  have hu23 := Try.underlying23
  have HB := Aside0.mk (Below.refl w.heap.size w)
  have H := h
  clear h
  unfold flyballlaw17_IntsEnds.f at H
  obtain ⟨t4453, A30, H⟩ := Option.bind_eq_some_iff.mp H
  have A3 := Aside0.mk A30
  clear A30
  (try dsimp only at H)
  by_cases c4 : t4453 = true
  · subst c4
    rw [if_pos rfl] at H
    obtain ⟨y4454, hy4454⟩ : ∃ y_ : List (S23), y_ = (([(⟨a0_0, a0_1, a0_2⟩ : S23)] : List (S23))) := ⟨_, rfl⟩
    replace H : ((ints_Join.f k y4454).bind fun bt4457 => ((ints_Join.f k (([(⟨a1_0, a1_1, a1_2⟩ : S23)] : List (S23)))).bind fun bt4464 => ((ints_Add.f k a0_0 a0_1 a0_2 a1_0 a1_1 a1_2).bind fun bt4468 => ((ints_Sub.f k a0_0 a0_1 a0_2 a1_0 a1_1 a1_2).bind fun bt4472 => (if bt4457.1 = true then (flyballlaw17_IntsEnds.j0 k true true a0_0 a0_1 a0_2 bt4457.1 bt4457.2.1 bt4457.2.2 bt4464.1 bt4464.2.1 bt4464.2.2 bt4468.1 bt4468.2.1 bt4468.2.2 bt4472.1 bt4472.2.1 bt4472.2.2) else (flyballlaw17_IntsEnds.j0 k true bt4464.1 a0_0 a0_1 a0_2 bt4457.1 bt4457.2.1 bt4457.2.2 bt4464.1 bt4464.2.1 bt4464.2.2 bt4468.1 bt4468.2.1 bt4468.2.2 bt4472.1 bt4472.2.1 bt4472.2.2)))))) = some r := by first | (rw [hy4454]; with_reducible exact H) | (have H2_ := (Option.bind_some _ _).symm.trans H; rw [hy4454]; with_reducible exact H2_) | (have H2_ := (Option.bind_some _ _).symm.trans H; with_reducible exact H2_) | with_reducible exact H | (rw [hy4454]; exact H) | exact H
    have Ny4454 := Aside0.mk hy4454
    clear hy4454
    obtain ⟨⟨t4457, t4458, t4459⟩, A50, H⟩ := Option.bind_eq_some_iff.mp H
    have A5 := Aside0.mk A50
    clear A50
    (try dsimp only at H)
    obtain ⟨y4461, hy4461⟩ : ∃ y_ : List (S23), y_ = (([(⟨a1_0, a1_1, a1_2⟩ : S23)] : List (S23))) := ⟨_, rfl⟩
    replace H : ((ints_Join.f k y4461).bind fun bt4464 => ((ints_Add.f k a0_0 a0_1 a0_2 a1_0 a1_1 a1_2).bind fun bt4468 => ((ints_Sub.f k a0_0 a0_1 a0_2 a1_0 a1_1 a1_2).bind fun bt4472 => (if t4457 = true then (flyballlaw17_IntsEnds.j0 k true true a0_0 a0_1 a0_2 t4457 t4458 t4459 bt4464.1 bt4464.2.1 bt4464.2.2 bt4468.1 bt4468.2.1 bt4468.2.2 bt4472.1 bt4472.2.1 bt4472.2.2) else (flyballlaw17_IntsEnds.j0 k true bt4464.1 a0_0 a0_1 a0_2 t4457 t4458 t4459 bt4464.1 bt4464.2.1 bt4464.2.2 bt4468.1 bt4468.2.1 bt4468.2.2 bt4472.1 bt4472.2.1 bt4472.2.2))))) = some r := by first | (rw [hy4461]; with_reducible exact H) | (have H2_ := (Option.bind_some _ _).symm.trans H; rw [hy4461]; with_reducible exact H2_) | (have H2_ := (Option.bind_some _ _).symm.trans H; with_reducible exact H2_) | with_reducible exact H | (rw [hy4461]; exact H) | exact H
    have Ny4461 := Aside0.mk hy4461
    clear hy4461
    obtain ⟨⟨t4464, t4465, t4466⟩, A60, H⟩ := Option.bind_eq_some_iff.mp H
    have A6 := Aside0.mk A60
    clear A60
    (try dsimp only at H)
    obtain ⟨⟨t4468, t4469, t4470⟩, A70, H⟩ := Option.bind_eq_some_iff.mp H
    have A7 := Aside0.mk A70
    clear A70
    (try dsimp only at H)
    obtain ⟨⟨t4472, t4473, t4474⟩, A80, H⟩ := Option.bind_eq_some_iff.mp H
    have A8 := Aside0.mk A80
    clear A80
    (try dsimp only at H)
    have HC9 := Aside0.mk H
    clear H
    go_enter Try.func11, Try.ntmps11
    go_upto_region 8 with (first | ((with_reducible refine gate_dst (N := 2) rfl ?_); refine kx 2 #[.bool a0_0, .int .i64 a0_1, .int .i64 a0_2] 23 ?_; intro gb4451 hg w10 hbox hb; have BK4451 := Aside0.mk (hbox); have GW4451 := kg HB hg; have GE4451 := kg HB hg; replace HB := kh HB hb; clear hb hbox hg) | ((with_reducible refine gate_dst (N := 3) rfl ?_); refine kx 3 #[.bool a1_0, .int .i64 a1_1, .int .i64 a1_2] 23 ?_; intro gb4452 hg w11 hbox hb; have BK4452 := Aside0.mk (hbox); have GW4452 := kg HB hg; have GE4452 := kg HB hg; have NB4451_4452 := kn BK4451 hg; have NB4452_4451 := km BK4451 hg; replace BK4451 := kb BK4451 hb; replace HB := kh HB hb; clear hb hbox hg) | ((with_reducible refine gate_callee (f := 38) rfl ?_); refine kc (some 17) Try.func38 #[] (flyballlaw17_works.calls k  true _ A3.out) ?_; intro w12 hb; replace BK4451 := kb BK4451 hb; replace BK4452 := kb BK4452 hb; replace HB := kh HB hb; (try clear hb); (try clear hb2); (try clear hk); (try clear hi); have hnb13 := NB4451_4452.out; have hnc13 := NB4452_4451.out; have ⟨hcz14_0, hcz14_1, hcz14_2, hfz14_0, hfz14_1, hfz14_2⟩ := kz3f BK4451) | ((with_reducible refine gate_dst (N := 21) rfl ?_); refine Kd.R_lit k23 _ 23 ?hg (N := 21) ?hd (xs := ([(⟨a0_0, a0_1, a0_2⟩ : S23)] : List (S23))) (inner := [.bool a0_0, .int .i64 a0_1, .int .i64 a0_2]) (ok := fun _ => True) (okp := fun _ => True) ?hr ?hp (fun _ hk => hk) trivial (Below.refl _ _) (Nat.le_refl _) (by simp) ?_; (case hd => rfl); (case hg => rfl); (case hr => first | (go_simp; done) | (go_simp; rfl)); (case hp => exact (Reps.c3 (show Kd.M k23 _ _ _ (⟨a0_0, a0_1, a0_2⟩ : S23) [.bool a0_0, .int .i64 a0_1, .int .i64 a0_2] from (k23_mkM _ _ _ (⟨a0_0, a0_1, a0_2⟩ : S23) )) (Reps.none _ _))); intro v4455 w15 ho16 hb hg_ hnew_; clear hg_ hnew_; (first | rw [← Ny4454.out] at ho16 | (simp only [Int.reduceToNat] at ho16; rw [← Ny4454.out] at ho16)); have HO4456 := Aside0.mk (Kd.R_lower (Kd.R_newB (Kd.R_newB ho16 (g := gb4451) (o := .cells #[.bool a0_0, .int .i64 a0_1, .int .i64 a0_2] 23 (0, 0)) (pk BK4451)) (g := gb4452) (o := .cells #[.bool a1_0, .int .i64 a1_1, .int .i64 a1_2] 23 (0, 0)) (pk BK4452)) (below_size (pl HB))); replace BK4451 := kb BK4451 hb; replace BK4452 := kb BK4452 hb; replace HB := kh HB hb; clear hb ho16; obtain ⟨Ao17, co17, eo17⟩ := Kd.R_slice HO4456.out; subst eo17) | ((with_reducible refine gate_callee (f := 43) rfl ?_); refine goesL_ (some 22) rfl rfl Try.func43 (by kernel_rfl) rfl #[.slice Ao17 y4454.length co17] rfl pa ?_; (with_reducible refine (ints_Join.calls k _ _ y4454 t4457 t4458 t4459 _ ?side1 ?side2 A5.out).mono ?_); (case side1 => repeat (first | exact (Kd.R_reads' HO4456.out).2.2 | (with_reducible refine Kd.C_alloc ?_ _) | (with_reducible refine Kd.C_drewN ?_ _) | (with_reducible refine Kd.C_drew ?_))); (case side2 => exact (Kd.R_reads' HO4456.out).2.1); rintro e w18 ⟨rfl, hb⟩; refine ⟨_, rfl, ?_⟩; have n0_ := Aside0.mk (Kd.R_below (by (with_reducible repeat (first | apply Kd.R_alloc | apply Kd.R_drewN | apply Kd.R_drew)); exact HO4456.out) hb); have n1_ := kb BK4451 hb; have n2_ := kb BK4452 hb; have n3_ := kh HB hb; clear HO4456; clear BK4451; clear BK4452; clear HB; have HO4456 := n0_; have BK4451 := n1_; have BK4452 := n2_; have HB := n3_; clear n0_ n1_ n2_ n3_; (try clear hb); (try clear hb2); (try clear hk); (try clear hi)) | ((with_reducible refine gate_dst (N := 6) rfl ?_); refine kx 6 #[.bool false, .int .i64 0, .int .i64 0] 23 ?_; intro gb4460 hg w19 hbox hb; have n0_ := Aside0.mk (Kd.R_below (Kd.R_elderB (by (with_reducible repeat (first | apply Kd.R_alloc | apply Kd.R_drewN | apply Kd.R_drew)); exact HO4456.out) gb4460 (Nat.le_of_eq hg.symm)) hb); have n1_ := kb BK4451 hb; have n2_ := kb BK4452 hb; have n3_ := kh HB hb; have n4_ := Aside0.mk (hbox); have n5_ := kg HB hg; have n6_ := kg HB hg; have n7_ := kn BK4451 hg; have n8_ := km BK4451 hg; have n9_ := kn BK4452 hg; have n10_ := km BK4452 hg; clear HO4456; clear BK4451; clear BK4452; clear HB; have HO4456 := n0_; have BK4451 := n1_; have BK4452 := n2_; have HB := n3_; have BK4460 := n4_; have GW4460 := n5_; have GE4460 := n6_; have NB4451_4460 := n7_; have NB4460_4451 := n8_; have NB4452_4460 := n9_; have NB4460_4452 := n10_; clear n0_ n1_ n2_ n3_ n4_ n5_ n6_ n7_ n8_ n9_ n10_; clear hb hbox hg; have hnb20 := NB4460_4451.out; have hnc20 := NB4451_4460.out; have hnb21 := NB4460_4452.out; have hnc21 := NB4452_4460.out; have ⟨hcz22_0, hcz22_1, hcz22_2, hfz22_0, hfz22_1, hfz22_2⟩ := kz3f BK4460; have ⟨hcz23_0, hcz23_1, hcz23_2, hfz23_0, hfz23_1, hfz23_2⟩ := kz3f BK4452) | ((with_reducible refine gate_dst (N := 24) rfl ?_); refine Kd.R_lit k23 _ 23 ?hg (N := 24) ?hd (xs := ([(⟨a1_0, a1_1, a1_2⟩ : S23)] : List (S23))) (inner := [.bool a1_0, .int .i64 a1_1, .int .i64 a1_2]) (ok := fun _ => True) (okp := fun _ => True) ?hr ?hp (fun _ hk => hk) trivial (Below.refl _ _) (Nat.le_refl _) (by simp) ?_; (case hd => rfl); (case hg => rfl); (case hr => first | (go_simp; done) | (go_simp; rfl)); (case hp => exact (Reps.c3 (show Kd.M k23 _ _ _ (⟨a1_0, a1_1, a1_2⟩ : S23) [.bool a1_0, .int .i64 a1_1, .int .i64 a1_2] from (k23_mkM _ _ _ (⟨a1_0, a1_1, a1_2⟩ : S23) )) (Reps.none _ _))); intro v4462 w24 ho25 hb hg_ hnew_; clear hg_ hnew_; (first | rw [← Ny4461.out] at ho25 | (simp only [Int.reduceToNat] at ho25; rw [← Ny4461.out] at ho25)); have n0_ := Aside0.mk (Kd.R_elder' (by (with_reducible repeat (first | apply Kd.R_alloc | apply Kd.R_drewN | apply Kd.R_drew)); exact (Kd.R_mono (Kd.R_far (p := ⟨gb4460, 2, none⟩) (Kd.R_far (p := ⟨gb4460, 1, none⟩) (Kd.R_far (p := ⟨gb4460, 0, none⟩) (Kd.R_mono HO4456.out (fun k_ hk => (⟨hk, hk.2⟩ : _ ∧ k_ ≠ gb4460))) (fun _ hk => hk.2) (.bool t4457)) (fun _ hk => hk.2) (.int .i64 t4458)) (fun _ hk => hk.2) (.int .i64 t4459)) (fun _ h_ => h_.1))) (Kd.R_base ho25) hb); have n1_ := Aside0.mk (Kd.R_lower (Kd.R_newB (Kd.R_newB (Kd.R_newB (Kd.R_new' ho25 (Kd.R_lt (by (with_reducible repeat (first | apply Kd.R_alloc | apply Kd.R_drewN | apply Kd.R_drew)); exact (Kd.R_mono (Kd.R_far (p := ⟨gb4460, 2, none⟩) (Kd.R_far (p := ⟨gb4460, 1, none⟩) (Kd.R_far (p := ⟨gb4460, 0, none⟩) (Kd.R_mono HO4456.out (fun k_ hk => (⟨hk, hk.2⟩ : _ ∧ k_ ≠ gb4460))) (fun _ hk => hk.2) (.bool t4457)) (fun _ hk => hk.2) (.int .i64 t4458)) (fun _ hk => hk.2) (.int .i64 t4459)) (fun _ h_ => h_.1))))) (g := gb4451) (o := .cells #[.bool a0_0, .int .i64 a0_1, .int .i64 a0_2] 23 (0, 0)) (pk BK4451)) (g := gb4452) (o := .cells #[.bool a1_0, .int .i64 a1_1, .int .i64 a1_2] 23 (0, 0)) (pk BK4452)) (g := gb4460) (o := .cells #[.bool t4457, .int .i64 t4458, .int .i64 t4459] 23 (0, 0)) (pK BK4460)) (below_size (pl HB))); have n2_ := kb BK4451 hb; have n3_ := kb BK4452 hb; have n4_ := kb (o' := .cells #[.bool t4457, .int .i64 t4458, .int .i64 t4459] 23 (0, 0)) BK4460 hb; have n5_ := kh HB hb; clear HO4456; clear BK4451; clear BK4452; clear BK4460; clear HB; have HO4456 := n0_; have HO4463 := n1_; have BK4451 := n2_; have BK4452 := n3_; have BK4460 := n4_; have HB := n5_; clear n0_ n1_ n2_ n3_ n4_ n5_; clear hb ho25; obtain ⟨Ao26, co26, eo26⟩ := Kd.R_slice HO4463.out; subst eo26) | ((with_reducible refine gate_callee (f := 43) rfl ?_); refine goesL_ (some 25) rfl rfl Try.func43 (by kernel_rfl) rfl #[.slice Ao26 y4461.length co26] rfl pa ?_; (with_reducible refine (ints_Join.calls k _ _ y4461 t4464 t4465 t4466 _ ?side1 ?side2 A6.out).mono ?_); (case side1 => repeat (first | exact (Kd.R_reads' HO4463.out).2.2 | (with_reducible refine Kd.C_alloc ?_ _) | (with_reducible refine Kd.C_drewN ?_ _) | (with_reducible refine Kd.C_drew ?_))); (case side2 => exact (Kd.R_reads' HO4463.out).2.1); rintro e w27 ⟨rfl, hb⟩; refine ⟨_, rfl, ?_⟩; have n0_ := Aside0.mk (Kd.R_below (by (with_reducible repeat (first | apply Kd.R_alloc | apply Kd.R_drewN | apply Kd.R_drew)); exact HO4456.out) hb); have n1_ := Aside0.mk (Kd.R_below (by (with_reducible repeat (first | apply Kd.R_alloc | apply Kd.R_drewN | apply Kd.R_drew)); exact HO4463.out) hb); have n2_ := kb BK4451 hb; have n3_ := kb BK4452 hb; have n4_ := kb BK4460 hb; have n5_ := kh HB hb; clear HO4456; clear HO4463; clear BK4451; clear BK4452; clear BK4460; clear HB; have HO4456 := n0_; have HO4463 := n1_; have BK4451 := n2_; have BK4452 := n3_; have BK4460 := n4_; have HB := n5_; clear n0_ n1_ n2_ n3_ n4_ n5_; (try clear hb); (try clear hb2); (try clear hk); (try clear hi)) | ((with_reducible refine gate_dst (N := 7) rfl ?_); refine kx 7 #[.bool false, .int .i64 0, .int .i64 0] 23 ?_; intro gb4467 hg w28 hbox hb; have n0_ := Aside0.mk (Kd.R_below (Kd.R_elderB (by (with_reducible repeat (first | apply Kd.R_alloc | apply Kd.R_drewN | apply Kd.R_drew)); exact HO4456.out) gb4467 (Nat.le_of_eq hg.symm)) hb); have n1_ := Aside0.mk (Kd.R_below (Kd.R_elderB (by (with_reducible repeat (first | apply Kd.R_alloc | apply Kd.R_drewN | apply Kd.R_drew)); exact HO4463.out) gb4467 (Nat.le_of_eq hg.symm)) hb); have n2_ := kb BK4451 hb; have n3_ := kb BK4452 hb; have n4_ := kb BK4460 hb; have n5_ := kh HB hb; have n6_ := Aside0.mk (hbox); have n7_ := kg HB hg; have n8_ := kg HB hg; have n9_ := kn BK4451 hg; have n10_ := km BK4451 hg; have n11_ := kn BK4452 hg; have n12_ := km BK4452 hg; have n13_ := kn BK4460 hg; have n14_ := km BK4460 hg; clear HO4456; clear HO4463; clear BK4451; clear BK4452; clear BK4460; clear HB; have HO4456 := n0_; have HO4463 := n1_; have BK4451 := n2_; have BK4452 := n3_; have BK4460 := n4_; have HB := n5_; have BK4467 := n6_; have GW4467 := n7_; have GE4467 := n8_; have NB4451_4467 := n9_; have NB4467_4451 := n10_; have NB4452_4467 := n11_; have NB4467_4452 := n12_; have NB4460_4467 := n13_; have NB4467_4460 := n14_; clear n0_ n1_ n2_ n3_ n4_ n5_ n6_ n7_ n8_ n9_ n10_ n11_ n12_ n13_ n14_; clear hb hbox hg; have hnb29 := NB4467_4451.out; have hnc29 := NB4451_4467.out; have hnb30 := NB4467_4452.out; have hnc30 := NB4452_4467.out; have hnb31 := NB4467_4460.out; have hnc31 := NB4460_4467.out; have ⟨hcz32_0, hcz32_1, hcz32_2, hfz32_0, hfz32_1, hfz32_2⟩ := kz3f BK4467; have ⟨hcz33_0, hcz33_1, hcz33_2, hfz33_0, hfz33_1, hfz33_2⟩ := kz3f BK4451; have ⟨hcz34_0, hcz34_1, hcz34_2, hfz34_0, hfz34_1, hfz34_2⟩ := kz3f BK4452) | ((with_reducible refine gate_callee (f := 51) rfl ?_); refine kc (some 28) Try.func51 #[.agg #[.bool a0_0, .int .i64 a0_1, .int .i64 a0_2], .agg #[.bool a1_0, .int .i64 a1_1, .int .i64 a1_2]] (ints_Add.calls k a0_0 a0_1 a0_2 a1_0 a1_1 a1_2 t4468 t4469 t4470 _ A7.out) ?_; intro w35 hb; have n0_ := Aside0.mk (Kd.R_below (by (with_reducible repeat (first | apply Kd.R_alloc | apply Kd.R_drewN | apply Kd.R_drew)); exact (Kd.R_mono (Kd.R_far (p := ⟨gb4467, 2, none⟩) (Kd.R_far (p := ⟨gb4467, 1, none⟩) (Kd.R_far (p := ⟨gb4467, 0, none⟩) (Kd.R_mono HO4456.out (fun k_ hk => (⟨hk, hk.2⟩ : _ ∧ k_ ≠ gb4467))) (fun _ hk => hk.2) (.bool t4464)) (fun _ hk => hk.2) (.int .i64 t4465)) (fun _ hk => hk.2) (.int .i64 t4466)) (fun _ h_ => h_.1))) hb); have n1_ := Aside0.mk (Kd.R_below (by (with_reducible repeat (first | apply Kd.R_alloc | apply Kd.R_drewN | apply Kd.R_drew)); exact (Kd.R_mono (Kd.R_far (p := ⟨gb4467, 2, none⟩) (Kd.R_far (p := ⟨gb4467, 1, none⟩) (Kd.R_far (p := ⟨gb4467, 0, none⟩) (Kd.R_mono HO4463.out (fun k_ hk => (⟨hk, hk.2⟩ : _ ∧ k_ ≠ gb4467))) (fun _ hk => hk.2) (.bool t4464)) (fun _ hk => hk.2) (.int .i64 t4465)) (fun _ hk => hk.2) (.int .i64 t4466)) (fun _ h_ => h_.1))) hb); have n2_ := kb BK4451 hb; have n3_ := kb BK4452 hb; have n4_ := kb BK4460 hb; have n5_ := kb (o' := .cells #[.bool t4464, .int .i64 t4465, .int .i64 t4466] 23 (0, 0)) BK4467 hb; have n6_ := kh HB hb; clear HO4456; clear HO4463; clear BK4451; clear BK4452; clear BK4460; clear BK4467; clear HB; have HO4456 := n0_; have HO4463 := n1_; have BK4451 := n2_; have BK4452 := n3_; have BK4460 := n4_; have BK4467 := n5_; have HB := n6_; clear n0_ n1_ n2_ n3_ n4_ n5_ n6_; (try clear hb); (try clear hb2); (try clear hk); (try clear hi)) | ((with_reducible refine gate_dst (N := 8) rfl ?_); refine kx 8 #[.bool false, .int .i64 0, .int .i64 0] 23 ?_; intro gb4471 hg w36 hbox hb; have n0_ := Aside0.mk (Kd.R_below (Kd.R_elderB (by (with_reducible repeat (first | apply Kd.R_alloc | apply Kd.R_drewN | apply Kd.R_drew)); exact HO4456.out) gb4471 (Nat.le_of_eq hg.symm)) hb); have n1_ := Aside0.mk (Kd.R_below (Kd.R_elderB (by (with_reducible repeat (first | apply Kd.R_alloc | apply Kd.R_drewN | apply Kd.R_drew)); exact HO4463.out) gb4471 (Nat.le_of_eq hg.symm)) hb); have n2_ := kb BK4451 hb; have n3_ := kb BK4452 hb; have n4_ := kb BK4460 hb; have n5_ := kb BK4467 hb; have n6_ := kh HB hb; have n7_ := Aside0.mk (hbox); have n8_ := kg HB hg; have n9_ := kg HB hg; have n10_ := kn BK4451 hg; have n11_ := km BK4451 hg; have n12_ := kn BK4452 hg; have n13_ := km BK4452 hg; have n14_ := kn BK4460 hg; have n15_ := km BK4460 hg; have n16_ := kn BK4467 hg; have n17_ := km BK4467 hg; clear HO4456; clear HO4463; clear BK4451; clear BK4452; clear BK4460; clear BK4467; clear HB; have HO4456 := n0_; have HO4463 := n1_; have BK4451 := n2_; have BK4452 := n3_; have BK4460 := n4_; have BK4467 := n5_; have HB := n6_; have BK4471 := n7_; have GW4471 := n8_; have GE4471 := n9_; have NB4451_4471 := n10_; have NB4471_4451 := n11_; have NB4452_4471 := n12_; have NB4471_4452 := n13_; have NB4460_4471 := n14_; have NB4471_4460 := n15_; have NB4467_4471 := n16_; have NB4471_4467 := n17_; clear n0_ n1_ n2_ n3_ n4_ n5_ n6_ n7_ n8_ n9_ n10_ n11_ n12_ n13_ n14_ n15_ n16_ n17_; clear hb hbox hg; have hnb37 := NB4471_4451.out; have hnc37 := NB4451_4471.out; have hnb38 := NB4471_4452.out; have hnc38 := NB4452_4471.out; have hnb39 := NB4471_4460.out; have hnc39 := NB4460_4471.out; have hnb40 := NB4471_4467.out; have hnc40 := NB4467_4471.out; have ⟨hcz41_0, hcz41_1, hcz41_2, hfz41_0, hfz41_1, hfz41_2⟩ := kz3f BK4471; have ⟨hcz42_0, hcz42_1, hcz42_2, hfz42_0, hfz42_1, hfz42_2⟩ := kz3f BK4451; have ⟨hcz43_0, hcz43_1, hcz43_2, hfz43_0, hfz43_1, hfz43_2⟩ := kz3f BK4452) | ((with_reducible refine gate_callee (f := 52) rfl ?_); refine kc (some 31) Try.func52 #[.agg #[.bool a0_0, .int .i64 a0_1, .int .i64 a0_2], .agg #[.bool a1_0, .int .i64 a1_1, .int .i64 a1_2]] (ints_Sub.calls k a0_0 a0_1 a0_2 a1_0 a1_1 a1_2 t4472 t4473 t4474 _ A8.out) ?_; intro w44 hb; have n0_ := Aside0.mk (Kd.R_below (by (with_reducible repeat (first | apply Kd.R_alloc | apply Kd.R_drewN | apply Kd.R_drew)); exact (Kd.R_mono (Kd.R_far (p := ⟨gb4471, 2, none⟩) (Kd.R_far (p := ⟨gb4471, 1, none⟩) (Kd.R_far (p := ⟨gb4471, 0, none⟩) (Kd.R_mono HO4456.out (fun k_ hk => (⟨hk, hk.2⟩ : _ ∧ k_ ≠ gb4471))) (fun _ hk => hk.2) (.bool t4468)) (fun _ hk => hk.2) (.int .i64 t4469)) (fun _ hk => hk.2) (.int .i64 t4470)) (fun _ h_ => h_.1))) hb); have n1_ := Aside0.mk (Kd.R_below (by (with_reducible repeat (first | apply Kd.R_alloc | apply Kd.R_drewN | apply Kd.R_drew)); exact (Kd.R_mono (Kd.R_far (p := ⟨gb4471, 2, none⟩) (Kd.R_far (p := ⟨gb4471, 1, none⟩) (Kd.R_far (p := ⟨gb4471, 0, none⟩) (Kd.R_mono HO4463.out (fun k_ hk => (⟨hk, hk.2⟩ : _ ∧ k_ ≠ gb4471))) (fun _ hk => hk.2) (.bool t4468)) (fun _ hk => hk.2) (.int .i64 t4469)) (fun _ hk => hk.2) (.int .i64 t4470)) (fun _ h_ => h_.1))) hb); have n2_ := kb BK4451 hb; have n3_ := kb BK4452 hb; have n4_ := kb BK4460 hb; have n5_ := kb BK4467 hb; have n6_ := kb (o' := .cells #[.bool t4468, .int .i64 t4469, .int .i64 t4470] 23 (0, 0)) BK4471 hb; have n7_ := kh HB hb; clear HO4456; clear HO4463; clear BK4451; clear BK4452; clear BK4460; clear BK4467; clear BK4471; clear HB; have HO4456 := n0_; have HO4463 := n1_; have BK4451 := n2_; have BK4452 := n3_; have BK4460 := n4_; have BK4467 := n5_; have BK4471 := n6_; have HB := n7_; clear n0_ n1_ n2_ n3_ n4_ n5_ n6_ n7_; (try clear hb); (try clear hb2); (try clear hk); (try clear hi)) | ((with_reducible refine gate_dst (N := 9) rfl ?_); refine kx 9 #[.bool false, .int .i64 0, .int .i64 0] 23 ?_; intro gb4475 hg w45 hbox hb; have n0_ := Aside0.mk (Kd.R_below (Kd.R_elderB (by (with_reducible repeat (first | apply Kd.R_alloc | apply Kd.R_drewN | apply Kd.R_drew)); exact HO4456.out) gb4475 (Nat.le_of_eq hg.symm)) hb); have n1_ := Aside0.mk (Kd.R_below (Kd.R_elderB (by (with_reducible repeat (first | apply Kd.R_alloc | apply Kd.R_drewN | apply Kd.R_drew)); exact HO4463.out) gb4475 (Nat.le_of_eq hg.symm)) hb); have n2_ := kb BK4451 hb; have n3_ := kb BK4452 hb; have n4_ := kb BK4460 hb; have n5_ := kb BK4467 hb; have n6_ := kb BK4471 hb; have n7_ := kh HB hb; have n8_ := Aside0.mk (hbox); have n9_ := kg HB hg; have n10_ := kg HB hg; have n11_ := kn BK4451 hg; have n12_ := km BK4451 hg; have n13_ := kn BK4452 hg; have n14_ := km BK4452 hg; have n15_ := kn BK4460 hg; have n16_ := km BK4460 hg; have n17_ := kn BK4467 hg; have n18_ := km BK4467 hg; have n19_ := kn BK4471 hg; have n20_ := km BK4471 hg; clear HO4456; clear HO4463; clear BK4451; clear BK4452; clear BK4460; clear BK4467; clear BK4471; clear HB; have HO4456 := n0_; have HO4463 := n1_; have BK4451 := n2_; have BK4452 := n3_; have BK4460 := n4_; have BK4467 := n5_; have BK4471 := n6_; have HB := n7_; have BK4475 := n8_; have GW4475 := n9_; have GE4475 := n10_; have NB4451_4475 := n11_; have NB4475_4451 := n12_; have NB4452_4475 := n13_; have NB4475_4452 := n14_; have NB4460_4475 := n15_; have NB4475_4460 := n16_; have NB4467_4475 := n17_; have NB4475_4467 := n18_; have NB4471_4475 := n19_; have NB4475_4471 := n20_; clear n0_ n1_ n2_ n3_ n4_ n5_ n6_ n7_ n8_ n9_ n10_ n11_ n12_ n13_ n14_ n15_ n16_ n17_ n18_ n19_ n20_; clear hb hbox hg; have hnb46 := NB4475_4451.out; have hnc46 := NB4451_4475.out; have hnb47 := NB4475_4452.out; have hnc47 := NB4452_4475.out; have hnb48 := NB4475_4460.out; have hnc48 := NB4460_4475.out; have hnb49 := NB4475_4467.out; have hnc49 := NB4467_4475.out; have hnb50 := NB4475_4471.out; have hnc50 := NB4471_4475.out; have ⟨hcz51_0, hcz51_1, hcz51_2, hfz51_0, hfz51_1, hfz51_2⟩ := kz3f BK4475))
    (try simp only [Act.put, List.setIfInBounds_toArray, List.set_cons_zero, List.set_cons_succ])
    go_cut [37] (fun v37 wc => ∃ (kq : Nat) (x37_8 : Bool), v37 = .bool x37_8 ∧ Aside0 (flyballlaw17_IntsEnds.j0 kq true x37_8 a0_0 a0_1 a0_2 t4457 t4458 t4459 t4464 t4465 t4466 t4468 t4469 t4470 t4472 t4473 t4474 = some r) ∧ Aside0 (kq ≤ k) ∧ Aside0 (wc.heap[gb4451]? = some (.cells #[.bool a0_0, .int .i64 a0_1, .int .i64 a0_2] 23 (0, 0))) ∧ Aside0 (wc.heap[gb4452]? = some (.cells #[.bool a1_0, .int .i64 a1_1, .int .i64 a1_2] 23 (0, 0))) ∧ Aside0 (wc.heap[gb4460]? = some (.cells #[.bool t4457, .int .i64 t4458, .int .i64 t4459] 23 (0, 0))) ∧ Aside0 (wc.heap[gb4467]? = some (.cells #[.bool t4464, .int .i64 t4465, .int .i64 t4466] 23 (0, 0))) ∧ Aside0 (wc.heap[gb4471]? = some (.cells #[.bool t4468, .int .i64 t4469, .int .i64 t4470] 23 (0, 0))) ∧ Aside0 (wc.heap[gb4475]? = some (.cells #[.bool t4472, .int .i64 t4473, .int .i64 t4474] 23 (0, 0))) ∧ Aside0 (Below w.heap.size w wc))
    case first =>
      have H := HC9.out
      clear HC9
      by_cases c52 : t4457 = true
      · subst c52
        rw [if_pos rfl] at H
        have H' := Aside0.mk H
        clear H
        have hnb53 := NB4460_4451.out
        have hnc53 := NB4451_4460.out
        have hnb54 := NB4460_4452.out
        have hnc54 := NB4452_4460.out
        have hnb55 := NB4460_4467.out
        have hnc55 := NB4467_4460.out
        have hnb56 := NB4460_4471.out
        have hnc56 := NB4471_4460.out
        have hnb57 := NB4460_4475.out
        have hnc57 := NB4475_4460.out
        have ⟨hcz58_0, hcz58_1, hcz58_2, hfz58_0, hfz58_1, hfz58_2⟩ := kz3f BK4460
        go_wp2
        go_meet
        case rel => exact ⟨_, (true), (by first | rfl | (simp; done) | (simp [*]; done)), H', ⟨by first | omega | exact Nat.le_refl _⟩, ⟨pk BK4451⟩, ⟨pk BK4452⟩, ⟨pk BK4460⟩, ⟨pk BK4467⟩, ⟨pk BK4471⟩, ⟨pK BK4475⟩, ⟨pl HB⟩⟩
      · replace c52 := Bool.eq_false_iff.mpr c52
        subst c52
        rw [if_neg (show ¬ (false = true) by decide)] at H
        have H' := Aside0.mk H
        clear H
        have hnb59 := NB4460_4451.out
        have hnc59 := NB4451_4460.out
        have hnb60 := NB4460_4452.out
        have hnc60 := NB4452_4460.out
        have hnb61 := NB4460_4467.out
        have hnc61 := NB4467_4460.out
        have hnb62 := NB4460_4471.out
        have hnc62 := NB4471_4460.out
        have hnb63 := NB4460_4475.out
        have hnc63 := NB4475_4460.out
        have ⟨hcz64_0, hcz64_1, hcz64_2, hfz64_0, hfz64_1, hfz64_2⟩ := kz3f BK4460
        have hnb65 := NB4467_4451.out
        have hnc65 := NB4451_4467.out
        have hnb66 := NB4467_4452.out
        have hnc66 := NB4452_4467.out
        have hnb67 := NB4467_4471.out
        have hnc67 := NB4471_4467.out
        have hnb68 := NB4467_4475.out
        have hnc68 := NB4475_4467.out
        have ⟨hcz69_0, hcz69_1, hcz69_2, hfz69_0, hfz69_1, hfz69_2⟩ := kz3f BK4467
        go_wp2
        go_meet
        case rel => exact ⟨_, (t4464), (by first | rfl | (simp; done) | (simp [*]; done)), H', ⟨by first | omega | exact Nat.le_refl _⟩, ⟨pk BK4451⟩, ⟨pk BK4452⟩, ⟨pk BK4460⟩, ⟨pk BK4467⟩, ⟨pk BK4471⟩, ⟨pK BK4475⟩, ⟨pl HB⟩⟩
    case rest =>
      clear HC9
      try clear c1
      try clear c2
      try clear p2
      try clear c3
      try clear c4
      try clear c5
      try clear c6
      try clear c11
      try clear c13
      try clear c20
      try clear c21
      try clear c29
      try clear c30
      try clear c31
      try clear c37
      try clear c38
      try clear c39
      try clear c40
      try clear c43
      try clear c46
      try clear c47
      try clear c48
      try clear c49
      try clear c50
      try clear c51
      try clear c52
      try clear c53
      try clear c54
      try clear c55
      try clear c56
      try clear c57
      try clear c59
      try clear c60
      try clear c61
      try clear c62
      try clear c63
      try clear c65
      try clear c66
      try clear c67
      try clear c68
      try clear hcz14_0
      try clear hcz14_1
      try clear hcz14_2
      try clear hcz22_0
      try clear hcz22_1
      try clear hcz22_2
      try clear hcz23_0
      try clear hcz23_1
      try clear hcz23_2
      try clear hcz32_0
      try clear hcz32_1
      try clear hcz32_2
      try clear hcz33_0
      try clear hcz33_1
      try clear hcz33_2
      try clear hcz34_0
      try clear hcz34_1
      try clear hcz34_2
      try clear hcz41_0
      try clear hcz41_1
      try clear hcz41_2
      try clear hcz42_0
      try clear hcz42_1
      try clear hcz42_2
      try clear hcz43_0
      try clear hcz43_1
      try clear hcz43_2
      try clear hcz51_0
      try clear hcz51_1
      try clear hcz51_2
      try clear hcz58_0
      try clear hcz58_1
      try clear hcz58_2
      try clear hcz64_0
      try clear hcz64_1
      try clear hcz64_2
      try clear hcz69_0
      try clear hcz69_1
      try clear hcz69_2
      try clear hfz14_0
      try clear hfz14_1
      try clear hfz14_2
      try clear hfz22_0
      try clear hfz22_1
      try clear hfz22_2
      try clear hfz23_0
      try clear hfz23_1
      try clear hfz23_2
      try clear hfz32_0
      try clear hfz32_1
      try clear hfz32_2
      try clear hfz33_0
      try clear hfz33_1
      try clear hfz33_2
      try clear hfz34_0
      try clear hfz34_1
      try clear hfz34_2
      try clear hfz41_0
      try clear hfz41_1
      try clear hfz41_2
      try clear hfz42_0
      try clear hfz42_1
      try clear hfz42_2
      try clear hfz43_0
      try clear hfz43_1
      try clear hfz43_2
      try clear hfz51_0
      try clear hfz51_1
      try clear hfz51_2
      try clear hfz58_0
      try clear hfz58_1
      try clear hfz58_2
      try clear hfz64_0
      try clear hfz64_1
      try clear hfz64_2
      try clear hfz69_0
      try clear hfz69_1
      try clear hfz69_2
      obtain ⟨kq, x37_8, rfl, HA, HJ8, BK4451, BK4452, BK4460, BK4467, BK4471, BK4475, HB⟩ := hcut
      cases kq with
      | zero => exact absurd HA.out (by simp [flyballlaw17_IntsEnds.j0])
      | succ kj8 =>
        have H := HA.out
        clear HA
        simp only [flyballlaw17_IntsEnds.j0] at H
        by_cases c70 : x37_8 = true
        · subst c70
          rw [if_pos rfl] at H
          by_cases c71 : true = true
          · clear c71
            (try rw [if_pos rfl] at H)
            by_cases c72 : t4468 = true
            · subst c72
              rw [if_pos rfl] at H
              obtain rfl := Option.some.inj H
              have hnb73 := NB4471_4451.out
              have hnc73 := NB4451_4471.out
              have hnb74 := NB4471_4452.out
              have hnc74 := NB4452_4471.out
              have hnb75 := NB4471_4460.out
              have hnc75 := NB4460_4471.out
              have hnb76 := NB4471_4467.out
              have hnc76 := NB4467_4471.out
              have hnb77 := NB4471_4475.out
              have hnc77 := NB4475_4471.out
              have hcz78_0 : wc.cell? ⟨gb4471, 0, none⟩ = some (.bool true) := bc BK4471 0
              have hcz78_1 : wc.cell? ⟨gb4471, 1, none⟩ = some (.int .i64 t4469) := bc BK4471 1
              have hcz78_2 : wc.cell? ⟨gb4471, 2, none⟩ = some (.int .i64 t4470) := bc BK4471 2
              have hfz78_0 := blk_frozen BK4471.out 0
              have hfz78_1 := blk_frozen BK4471.out 1
              have hfz78_2 := blk_frozen BK4471.out 2
              have hnb79 := NB4475_4451.out
              have hnc79 := NB4451_4475.out
              have hnb80 := NB4475_4452.out
              have hnc80 := NB4452_4475.out
              have hnb81 := NB4475_4460.out
              have hnc81 := NB4460_4475.out
              have hnb82 := NB4475_4467.out
              have hnc82 := NB4467_4475.out
              have hcz83_0 : wc.cell? ⟨gb4475, 0, none⟩ = some (.bool t4472) := bc BK4475 0
              have hcz83_1 : wc.cell? ⟨gb4475, 1, none⟩ = some (.int .i64 t4473) := bc BK4475 1
              have hcz83_2 : wc.cell? ⟨gb4475, 2, none⟩ = some (.int .i64 t4474) := bc BK4475 2
              have hfz83_0 := blk_frozen BK4475.out 0
              have hfz83_1 := blk_frozen BK4475.out 1
              have hfz83_2 := blk_frozen BK4475.out 2
              go_wp2
              go_ret
              exact ⟨pe, pl HB⟩
            · replace c72 := Bool.eq_false_iff.mpr c72
              subst c72
              rw [if_neg (show ¬ (false = true) by decide)] at H
              exact absurd H (by simp)
          · exact absurd rfl c71
        · replace c70 := Bool.eq_false_iff.mpr c70
          subst c70
          rw [if_neg (show ¬ (false = true) by decide)] at H
          obtain ⟨t4476, A840, H⟩ := Option.bind_eq_some_iff.mp H
          have A84 := Aside0.mk A840
          clear A840
          (try dsimp only at H)
          obtain ⟨t4477, A850, H⟩ := Option.bind_eq_some_iff.mp H
          have A85 := Aside0.mk A850
          clear A850
          (try dsimp only at H)
          obtain ⟨t4478, A860, H⟩ := Option.bind_eq_some_iff.mp H
          have A86 := Aside0.mk A860
          clear A860
          (try dsimp only at H)
          obtain ⟨t4479, A870, H⟩ := Option.bind_eq_some_iff.mp H
          have A87 := Aside0.mk A870
          clear A870
          (try dsimp only at H)
          obtain ⟨ji88, hji88⟩ : ∃ j_ : Int, (mn t4476 1099511627775) = j_ := ⟨_, rfl⟩
          replace H : ((ints_Neg.f a0_0 a0_1 a0_2).bind fun bt4480 => (if true = true then (if (!t4468 && (t4469 == (ji88) && (t4470 == (mx t4477 (-1099511627775))))) = true then (if (!t4472 && (t4473 == (mn t4478 1099511627775) && (t4474 == (mx t4479 (-1099511627775))))) = true then (if bt4480.2.1 = (wrap64 (-t4459)) then (some (bt4480.2.2 == (wrap64 (-t4458)))) else (none)) else (none)) else (none)) else (none))) = some r := by first | (rw [hji88] at H; exact H) | (simp only [hji88] at H ⊢; exact H)
          (try rw [hji88] at A84)
          (try rw [hji88] at A85)
          (try rw [hji88] at A86)
          (try rw [hji88] at A87)
          (try (have hji88h : ji88 ≤ 1099511627775 := by (rw [← hji88]; unfold mn; (repeat' split) <;> omega)))
          (try (have hji88g : ji88 ≤ 64 := by omega))
          have hji88_ : (if 1099511627775 < t4476 then 1099511627775 else t4476) = ji88 := hji88
          obtain ⟨ji89, hji89⟩ : ∃ j_ : Int, (mx t4477 (-1099511627775)) = j_ := ⟨_, rfl⟩
          replace H : ((ints_Neg.f a0_0 a0_1 a0_2).bind fun bt4480 => (if true = true then (if (!t4468 && (t4469 == (ji88) && (t4470 == (ji89)))) = true then (if (!t4472 && (t4473 == (mn t4478 1099511627775) && (t4474 == (mx t4479 (-1099511627775))))) = true then (if bt4480.2.1 = (wrap64 (-t4459)) then (some (bt4480.2.2 == (wrap64 (-t4458)))) else (none)) else (none)) else (none)) else (none))) = some r := by first | (rw [hji89] at H; exact H) | (simp only [hji89] at H ⊢; exact H)
          (try rw [hji89] at A84)
          (try rw [hji89] at A85)
          (try rw [hji89] at A86)
          (try rw [hji89] at A87)
          have hji89_ : (if t4477 < (-1099511627775) then (-1099511627775) else t4477) = ji89 := hji89
          obtain ⟨ji90, hji90⟩ : ∃ j_ : Int, (mn t4478 1099511627775) = j_ := ⟨_, rfl⟩
          replace H : ((ints_Neg.f a0_0 a0_1 a0_2).bind fun bt4480 => (if true = true then (if (!t4468 && (t4469 == (ji88) && (t4470 == (ji89)))) = true then (if (!t4472 && (t4473 == (ji90) && (t4474 == (mx t4479 (-1099511627775))))) = true then (if bt4480.2.1 = (wrap64 (-t4459)) then (some (bt4480.2.2 == (wrap64 (-t4458)))) else (none)) else (none)) else (none)) else (none))) = some r := by first | (rw [hji90] at H; exact H) | (simp only [hji90] at H ⊢; exact H)
          (try rw [hji90] at A84)
          (try rw [hji90] at A85)
          (try rw [hji90] at A86)
          (try rw [hji90] at A87)
          (try (have hji90h : ji90 ≤ 1099511627775 := by (rw [← hji90]; unfold mn; (repeat' split) <;> omega)))
          (try (have hji90g : ji90 ≤ 64 := by omega))
          have hji90_ : (if 1099511627775 < t4478 then 1099511627775 else t4478) = ji90 := hji90
          obtain ⟨ji91, hji91⟩ : ∃ j_ : Int, (mx t4479 (-1099511627775)) = j_ := ⟨_, rfl⟩
          replace H : ((ints_Neg.f a0_0 a0_1 a0_2).bind fun bt4480 => (if true = true then (if (!t4468 && (t4469 == (ji88) && (t4470 == (ji89)))) = true then (if (!t4472 && (t4473 == (ji90) && (t4474 == (ji91)))) = true then (if bt4480.2.1 = (wrap64 (-t4459)) then (some (bt4480.2.2 == (wrap64 (-t4458)))) else (none)) else (none)) else (none)) else (none))) = some r := by first | (rw [hji91] at H; exact H) | (simp only [hji91] at H ⊢; exact H)
          (try rw [hji91] at A84)
          (try rw [hji91] at A85)
          (try rw [hji91] at A86)
          (try rw [hji91] at A87)
          have hji91_ : (if t4479 < (-1099511627775) then (-1099511627775) else t4479) = ji91 := hji91
          obtain ⟨⟨t4480, t4481, t4482⟩, A920, H⟩ := Option.bind_eq_some_iff.mp H
          have A92 := Aside0.mk A920
          clear A920
          (try dsimp only at H)
          by_cases c93 : true = true
          · clear c93
            (try rw [if_pos rfl] at H)
            by_cases c94 : (!t4468 && (t4469 == (ji88) && (t4470 == (ji89)))) = true
            · rw [if_pos c94] at H
              have c94b0 : (!t4468 && (t4469 == (ji88) && (t4470 == (ji89)))) = true := c94
              clear c94
              by_cases c95 : (!t4472 && (t4473 == (ji90) && (t4474 == (ji91)))) = true
              · rw [if_pos c95] at H
                have c95b0 : (!t4472 && (t4473 == (ji90) && (t4474 == (ji91)))) = true := c95
                clear c95
                by_cases c96 : t4481 = (wrap64 (-t4459))
                · rw [if_pos c96] at H
                  have c96b0 : (t4481 == (wrap64 (-t4459))) = true := beq_iff_eq.mpr c96
                  have c96b1 : (t4481 != (wrap64 (-t4459))) = false := bne_eq_false_iff_eq.mpr c96
                  clear c96
                  obtain rfl := Option.some.inj H
                  have hnb97 := NB4460_4451.out
                  have hnc97 := NB4451_4460.out
                  have hnb98 := NB4460_4452.out
                  have hnc98 := NB4452_4460.out
                  have hnb99 := NB4460_4467.out
                  have hnc99 := NB4467_4460.out
                  have hnb100 := NB4460_4471.out
                  have hnc100 := NB4471_4460.out
                  have hnb101 := NB4460_4475.out
                  have hnc101 := NB4475_4460.out
                  have hcz102_0 : wc.cell? ⟨gb4460, 0, none⟩ = some (.bool t4457) := bc BK4460 0
                  have hcz102_1 : wc.cell? ⟨gb4460, 1, none⟩ = some (.int .i64 t4458) := bc BK4460 1
                  have hcz102_2 : wc.cell? ⟨gb4460, 2, none⟩ = some (.int .i64 t4459) := bc BK4460 2
                  have hfz102_0 := blk_frozen BK4460.out 0
                  have hfz102_1 := blk_frozen BK4460.out 1
                  have hfz102_2 := blk_frozen BK4460.out 2
                  have hnb103 := NB4467_4451.out
                  have hnc103 := NB4451_4467.out
                  have hnb104 := NB4467_4452.out
                  have hnc104 := NB4452_4467.out
                  have hnb105 := NB4467_4471.out
                  have hnc105 := NB4471_4467.out
                  have hnb106 := NB4467_4475.out
                  have hnc106 := NB4475_4467.out
                  have hcz107_0 : wc.cell? ⟨gb4467, 0, none⟩ = some (.bool t4464) := bc BK4467 0
                  have hcz107_1 : wc.cell? ⟨gb4467, 1, none⟩ = some (.int .i64 t4465) := bc BK4467 1
                  have hcz107_2 : wc.cell? ⟨gb4467, 2, none⟩ = some (.int .i64 t4466) := bc BK4467 2
                  have hfz107_0 := blk_frozen BK4467.out 0
                  have hfz107_1 := blk_frozen BK4467.out 1
                  have hfz107_2 := blk_frozen BK4467.out 2
                  go_wp2_with (first | ((with_reducible refine gate_callee (f := 56) rfl ?_); refine kc (some 51) Try.func56 #[.int .i64 t4458, .int .i64 t4465] (flyballlaw17_sumEnd.calls kj8 t4458 t4465 t4476 _ A84.out) ?_; intro w108 hb; replace BK4451 := kb BK4451 hb; replace BK4452 := kb BK4452 hb; replace BK4460 := kb BK4460 hb; replace BK4467 := kb BK4467 hb; replace BK4471 := kb BK4471 hb; replace BK4475 := kb BK4475 hb; replace HB := kh HB hb; (try clear hb); (try clear hb2); (try clear hk); (try clear hi); have ⟨hcz109_0, hcz109_1, hcz109_2, hfz109_0, hfz109_1, hfz109_2⟩ := kz3f BK4460; have ⟨hcz110_0, hcz110_1, hcz110_2, hfz110_0, hfz110_1, hfz110_2⟩ := kz3f BK4467) | ((with_reducible refine gate_callee (f := 56) rfl ?_); refine kc (some 56) Try.func56 #[.int .i64 t4459, .int .i64 t4466] (flyballlaw17_sumEnd.calls kj8 t4459 t4466 t4477 _ A85.out) ?_; intro w111 hb; replace BK4451 := kb BK4451 hb; replace BK4452 := kb BK4452 hb; replace BK4460 := kb BK4460 hb; replace BK4467 := kb BK4467 hb; replace BK4471 := kb BK4471 hb; replace BK4475 := kb BK4475 hb; replace HB := kh HB hb; (try clear hb); (try clear hb2); (try clear hk); (try clear hi); have ⟨hcz112_0, hcz112_1, hcz112_2, hfz112_0, hfz112_1, hfz112_2⟩ := kz3f BK4460; have ⟨hcz113_0, hcz113_1, hcz113_2, hfz113_0, hfz113_1, hfz113_2⟩ := kz3f BK4467) | ((with_reducible refine gate_callee (f := 56) rfl ?_); refine kc (some 62) Try.func56 #[.int .i64 t4458, .int .i64 (wrap64 (-t4466))] (flyballlaw17_sumEnd.calls kj8 t4458 (wrap64 (-t4466)) t4478 _ A86.out) ?_; intro w114 hb; replace BK4451 := kb BK4451 hb; replace BK4452 := kb BK4452 hb; replace BK4460 := kb BK4460 hb; replace BK4467 := kb BK4467 hb; replace BK4471 := kb BK4471 hb; replace BK4475 := kb BK4475 hb; replace HB := kh HB hb; (try clear hb); (try clear hb2); (try clear hk); (try clear hi); have ⟨hcz115_0, hcz115_1, hcz115_2, hfz115_0, hfz115_1, hfz115_2⟩ := kz3f BK4460; have ⟨hcz116_0, hcz116_1, hcz116_2, hfz116_0, hfz116_1, hfz116_2⟩ := kz3f BK4467) | ((with_reducible refine gate_callee (f := 56) rfl ?_); refine kc (some 68) Try.func56 #[.int .i64 t4459, .int .i64 (wrap64 (-t4465))] (flyballlaw17_sumEnd.calls kj8 t4459 (wrap64 (-t4465)) t4479 _ A87.out) ?_; intro w117 hb; replace BK4451 := kb BK4451 hb; replace BK4452 := kb BK4452 hb; replace BK4460 := kb BK4460 hb; replace BK4467 := kb BK4467 hb; replace BK4471 := kb BK4471 hb; replace BK4475 := kb BK4475 hb; replace HB := kh HB hb; (try clear hb); (try clear hb2); (try clear hk); (try clear hi); have hnb118 := NB4471_4451.out; have hnc118 := NB4451_4471.out; have hnb119 := NB4471_4452.out; have hnc119 := NB4452_4471.out; have hnb120 := NB4471_4475.out; have hnc120 := NB4475_4471.out; have ⟨hcz121_0, hcz121_1, hcz121_2, hfz121_0, hfz121_1, hfz121_2⟩ := kz3f BK4471; have hnb122 := NB4475_4451.out; have hnc122 := NB4451_4475.out; have hnb123 := NB4475_4452.out; have hnc123 := NB4452_4475.out; have ⟨hcz124_0, hcz124_1, hcz124_2, hfz124_0, hfz124_1, hfz124_2⟩ := kz3f BK4475; have hnb125 := NB4451_4452.out; have hnc125 := NB4452_4451.out; have ⟨hcz126_0, hcz126_1, hcz126_2, hfz126_0, hfz126_1, hfz126_2⟩ := kz3f BK4451) | ((with_reducible refine gate_callee (f := 48) rfl ?_); refine kc (some 84) Try.func48 #[.agg #[.bool a0_0, .int .i64 a0_1, .int .i64 a0_2]] (ints_Neg.calls a0_0 a0_1 a0_2 t4480 t4481 t4482 _ A92.out) ?_; intro w127 hb; replace BK4451 := kb BK4451 hb; replace BK4452 := kb BK4452 hb; replace BK4460 := kb BK4460 hb; replace BK4467 := kb BK4467 hb; replace BK4471 := kb BK4471 hb; replace BK4475 := kb BK4475 hb; replace HB := kh HB hb; (try clear hb); (try clear hb2); (try clear hk); (try clear hi)) | ((with_reducible refine gate_dst (N := 16) rfl ?_); refine kx 16 #[.bool false, .int .i64 0, .int .i64 0] 23 ?_; intro gb4483 hg w128 hbox hb; have BK4483 := Aside0.mk (hbox); have GW4483 := kg HB hg; have GE4483 := kg HB hg; have NB4451_4483 := kn BK4451 hg; have NB4483_4451 := km BK4451 hg; have NB4452_4483 := kn BK4452 hg; have NB4483_4452 := km BK4452 hg; have NB4460_4483 := kn BK4460 hg; have NB4483_4460 := km BK4460 hg; have NB4467_4483 := kn BK4467 hg; have NB4483_4467 := km BK4467 hg; have NB4471_4483 := kn BK4471 hg; have NB4483_4471 := km BK4471 hg; have NB4475_4483 := kn BK4475 hg; have NB4483_4475 := km BK4475 hg; replace BK4451 := kb BK4451 hb; replace BK4452 := kb BK4452 hb; replace BK4460 := kb BK4460 hb; replace BK4467 := kb BK4467 hb; replace BK4471 := kb BK4471 hb; replace BK4475 := kb BK4475 hb; replace HB := kh HB hb; clear hb hbox hg; have hnb129 := NB4483_4451.out; have hnc129 := NB4451_4483.out; have hnb130 := NB4483_4452.out; have hnc130 := NB4452_4483.out; have hnb131 := NB4483_4460.out; have hnc131 := NB4460_4483.out; have hnb132 := NB4483_4467.out; have hnc132 := NB4467_4483.out; have hnb133 := NB4483_4471.out; have hnc133 := NB4471_4483.out; have hnb134 := NB4483_4475.out; have hnc134 := NB4475_4483.out; have ⟨hcz135_0, hcz135_1, hcz135_2, hfz135_0, hfz135_1, hfz135_2⟩ := kz3f BK4483; have ⟨hcz136_0, hcz136_1, hcz136_2, hfz136_0, hfz136_1, hfz136_2⟩ := kz3f BK4460))
                  go_ret
                  exact ⟨by first | rfl | (simp [errW_none, errW_some] <;> rfl) | (simp only [← hji88, ← hji89, ← hji90, ← hji91]; first | rfl | (simp [errW_none, errW_some] <;> rfl)) | (simp [*, errW_none, errW_some] <;> rfl), pl HB⟩
                · rw [if_neg c96] at H
                  exact absurd H (by simp)
              · rw [if_neg c95] at H
                exact absurd H (by simp)
            · rw [if_neg c94] at H
              exact absurd H (by simp)
          · exact absurd rfl c93
  · replace c4 := Bool.eq_false_iff.mpr c4
    subst c4
    rw [if_neg (show ¬ (false = true) by decide)] at H
    obtain rfl := Option.some.inj H
    go_enter Try.func11, Try.ntmps11
    go_wp2_with (first | ((with_reducible refine gate_dst (N := 2) rfl ?_); refine kx 2 #[.bool a0_0, .int .i64 a0_1, .int .i64 a0_2] 23 ?_; intro gb4451 hg w137 hbox hb; have BK4451 := Aside0.mk (hbox); have GW4451 := kg HB hg; have GE4451 := kg HB hg; replace HB := kh HB hb; clear hb hbox hg) | ((with_reducible refine gate_dst (N := 3) rfl ?_); refine kx 3 #[.bool a1_0, .int .i64 a1_1, .int .i64 a1_2] 23 ?_; intro gb4452 hg w138 hbox hb; have BK4452 := Aside0.mk (hbox); have GW4452 := kg HB hg; have GE4452 := kg HB hg; have NB4451_4452 := kn BK4451 hg; have NB4452_4451 := km BK4451 hg; replace BK4451 := kb BK4451 hb; replace HB := kh HB hb; clear hb hbox hg) | ((with_reducible refine gate_callee (f := 38) rfl ?_); refine kc (some 17) Try.func38 #[] (flyballlaw17_works.calls k  false _ A3.out) ?_; intro w139 hb; replace BK4451 := kb BK4451 hb; replace BK4452 := kb BK4452 hb; replace HB := kh HB hb; (try clear hb); (try clear hb2); (try clear hk); (try clear hi)))
    go_ret
    exact ⟨pe, pl HB⟩

end Go.Proofs.Ytinmgnlofininaa.PAll
