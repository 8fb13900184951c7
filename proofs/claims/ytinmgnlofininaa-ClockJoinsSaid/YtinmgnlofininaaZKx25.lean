/- Functions of the print, turned to this claim. -/
import Derived.Test.YtinmgnlofininaaZKW
import Derived.Test.YtinmgnlofininaaZKx0
import Derived.Test.YtinmgnlofininaaZKx4
section
namespace Go.Proofs.Ytinmgnlofininaa.PAll
open Go.RowKit Go.Proofs.YtinmgnlofininaaW.PrintWords Go.Proofs.YtinmgnlofininaaW.PrintLast Go.Proofs.YtinmgnlofininaaW.PrintMore
attribute [local go_sem] max2_int min2_int max_two min_two max_three min_three max_four min_four   -- for this text's walks alone
set_option linter.unusedVariables false
set_option linter.unusedSimpArgs false
/-! ### clock_norm: function 61 -/
def clock_norm.f (k : Nat) (a0_0 : Bool) (a0_1 : Int) (a0_2 : Int) (a0_3 : Bool) (a0_4 : Int) (a0_5 : Int) : Option (Bool × Int × Int × Bool × Int × Int) := (ints_Join.f k (([(⟨a0_0, a0_1, a0_2⟩ : S23)] : List (S23)))).bind fun bt7006 => ((ints_Join.f k (([(⟨a0_3, a0_4, a0_5⟩ : S23)] : List (S23)))).bind fun bt7012 => (if bt7006.1 = true then (some (true, 0, 0, true, 0, 0)) else (if bt7012.1 = true then (some (true, 0, 0, true, 0, 0)) else (some (bt7006.1, bt7006.2.1, bt7006.2.2, bt7012.1, bt7012.2.1, bt7012.2.2)))))
theorem clock_norm.mono : ∀ a0 a1 a2 a3 a4 a5 k, LeO (clock_norm.f k a0 a1 a2 a3 a4 a5) (clock_norm.f (k + 1) a0 a1 a2 a3 a4 a5) := by
  intro a0 a1 a2 a3 a4 a5 k
  unfold clock_norm.f
  repeat' first
      | (with_reducible exact ints_Join.mono _ _)
      | (with_reducible exact LeO.refl _)
      | (with_reducible exact LeO.none _)
      | (with_reducible refine LeO.ite ?_ ?_)
      | (with_reducible refine LeO.bind ?_ (fun _ => ?_))
      | exact ints_Join.mono _ _
      | exact LeO.none _
      | refine LeO.ite ?_ ?_
      | refine LeO.bind ?_ (fun _ => ?_)
def clock_norm.T1 : Bool × List (List Nat × List Nat) := (true, [([], []), ([0], [0]), ([1], [1]), ([2], [2]), ([], []), ([4], [4]), ([5], [5]), ([6, 3], [6]), ([0, 1, 2, 3, 4, 5], []), ([8, 3, 7, 0, 1, 2, 3, 4, 5], [3, 8]), ([0, 1, 2, 3, 4, 5, 6, 7, 8, 9], []), ([10, 7, 9, 0, 1, 2, 3, 4, 5, 6, 7, 8, 9], [7, 10])])
def clock_norm.B1 : List Nat := [0, 1, 3, 7, 0, 16, 48, 127, 63, 511, 1023, 2047]
theorem clock_norm.tab1 : rtab .any (opsOf Try.f61 1) = clock_norm.T1 := by kernel_rfl
theorem clock_norm.bits1 : waitsOk clock_norm.T1.2 clock_norm.B1 = true := by kernel_rfl
set_option maxHeartbeats 8000000 in
set_option maxRecDepth 100000 in
theorem clock_norm.calls (k : Nat) (a0_0 : Bool) (a0_1 : Int) (a0_2 : Int) (a0_3 : Bool) (a0_4 : Int) (a0_5 : Int) (r1 : Bool) (r2 : Int) (r3 : Int) (r4 : Bool) (r5 : Int) (r6 : Int) (w : World) (h : clock_norm.f k a0_0 a0_1 a0_2 a0_3 a0_4 a0_5 = some (r1, r2, r3, r4, r5, r6)) :
    Calls Try.prog 61 #[.agg #[.bool a0_0, .int .i64 a0_1, .int .i64 a0_2, .bool a0_3, .int .i64 a0_4, .int .i64 a0_5]] w fun e w' => e = .returned (.agg #[.bool r1, .int .i64 r2, .int .i64 r3, .bool r4, .int .i64 r5, .int .i64 r6]) ∧ Below w.heap.size w w' := by
  have hu25 := Try.underlying25
  have hu23 := Try.underlying23
  have HB := Aside0.mk (Below.refl w.heap.size w)
  have H := h
  clear h
  unfold clock_norm.f at H
  obtain ⟨y7003, hy7003⟩ : ∃ y_ : List (S23), y_ = (([(⟨a0_0, a0_1, a0_2⟩ : S23)] : List (S23))) := ⟨_, rfl⟩
  replace H : ((ints_Join.f k y7003).bind fun bt7006 => ((ints_Join.f k (([(⟨a0_3, a0_4, a0_5⟩ : S23)] : List (S23)))).bind fun bt7012 => (if bt7006.1 = true then (some (true, 0, 0, true, 0, 0)) else (if bt7012.1 = true then (some (true, 0, 0, true, 0, 0)) else (some (bt7006.1, bt7006.2.1, bt7006.2.2, bt7012.1, bt7012.2.1, bt7012.2.2)))))) = some (r1, r2, r3, r4, r5, r6) := by first | (rw [hy7003]; with_reducible exact H) | (have H2_ := (Option.bind_some _ _).symm.trans H; rw [hy7003]; with_reducible exact H2_) | (have H2_ := (Option.bind_some _ _).symm.trans H; with_reducible exact H2_) | with_reducible exact H | (rw [hy7003]; exact H) | exact H
  have Ny7003 := Aside0.mk hy7003
  clear hy7003
  obtain ⟨⟨t7006, t7007, t7008⟩, A20, H⟩ := Option.bind_eq_some_iff.mp H
  have A2 := Aside0.mk A20
  clear A20
  (try dsimp only at H)
  obtain ⟨y7009, hy7009⟩ : ∃ y_ : List (S23), y_ = (([(⟨a0_3, a0_4, a0_5⟩ : S23)] : List (S23))) := ⟨_, rfl⟩
  replace H : ((ints_Join.f k y7009).bind fun bt7012 => (if t7006 = true then (some (true, 0, 0, true, 0, 0)) else (if bt7012.1 = true then (some (true, 0, 0, true, 0, 0)) else (some (t7006, t7007, t7008, bt7012.1, bt7012.2.1, bt7012.2.2))))) = some (r1, r2, r3, r4, r5, r6) := by first | (rw [hy7009]; with_reducible exact H) | (have H2_ := (Option.bind_some _ _).symm.trans H; rw [hy7009]; with_reducible exact H2_) | (have H2_ := (Option.bind_some _ _).symm.trans H; with_reducible exact H2_) | with_reducible exact H | (rw [hy7009]; exact H) | exact H
  have Ny7009 := Aside0.mk hy7009
  clear hy7009
  obtain ⟨⟨t7012, t7013, t7014⟩, A30, H⟩ := Option.bind_eq_some_iff.mp H
  have A3 := Aside0.mk A30
  clear A30
  (try dsimp only at H)
  by_cases c4 : t7006 = true
  · subst c4
    rw [if_pos rfl] at H
    simp only [Option.some.injEq, Prod.mk.injEq] at H
    obtain ⟨rfl, rfl, rfl, rfl, rfl, rfl⟩ := H
    go_enter Try.func61, Try.ntmps61
    try go_wp2_with (first | ((with_reducible refine gate_dst (N := 1) rfl ?_); refine kx 1 #[.bool a0_0, .int .i64 a0_1, .int .i64 a0_2, .bool a0_3, .int .i64 a0_4, .int .i64 a0_5] 25 ?_; intro gb7001 hg w5 hbox hb; have BK7001 := Aside0.mk (hbox); have GW7001 := kg HB hg; have GE7001 := kg HB hg; replace HB := kh HB hb; clear hb hbox hg) | ((with_reducible refine gate_dst (N := 2) rfl ?_); refine kx 2 #[.bool false, .int .i64 0, .int .i64 0, .bool false, .int .i64 0, .int .i64 0] 25 ?_; intro gb7002 hg w6 hbox hb; have BK7002 := Aside0.mk (hbox); have GW7002 := kg HB hg; have GE7002 := kg HB hg; have NB7001_7002 := kn BK7001 hg; have NB7002_7001 := km BK7001 hg; replace BK7001 := kb BK7001 hb; replace HB := kh HB hb; clear hb hbox hg))
    replace BK7001 := Aside0.mk (blk_drew BK7001.out)
    replace BK7002 := Aside0.mk (blk_drew BK7002.out)
    replace HB := Aside0.mk (below_drew1 HB.out)
    refine start_ (n := 12) (S := fun w' => w'.cell? ⟨gb7001, 0, none⟩ = some (.bool a0_0) ∧ w'.cell? ⟨gb7001, 1, none⟩ = some (.int .i64 a0_1) ∧ w'.cell? ⟨gb7001, 2, none⟩ = some (.int .i64 a0_2) ∧ w'.cell? ⟨gb7001, 3, none⟩ = some (.bool a0_3) ∧ w'.cell? ⟨gb7001, 4, none⟩ = some (.int .i64 a0_4) ∧ w'.cell? ⟨gb7001, 5, none⟩ = some (.int .i64 a0_5)) (ds := [9, 11]) #[false, false, false, false, false, false, false, false, false, false, false, false] (by kernel_rfl) rfl rfl ⟨bc BK7001 0, bc BK7001 1, bc BK7001 2, bc BK7001 3, bc BK7001 4, bc BK7001 5⟩ (fun hHeld => ?_); refine with_tabW clock_norm.tab1 clock_norm.bits1 (fun HT_ HW_ => ?_)
    generalize w6.drew = w7 at BK7001 BK7002 HB hHeld ⊢
    refine pur 0 (some 3) #[true, false, false, false, false, false, false, false, false, false, false, false] (any_of HT_.out (by kernel_rfl)) ?_
    refine pur 4 (some 7) #[true, false, false, false, true, false, false, false, false, false, false, false] (any_of HT_.out (by kernel_rfl)) ?_
    refine tak 1 (some 4) #[true, true, false, false, true, false, false, false, false, false, false, false] (take_ofW HT_.out HW_.out (by kernel_rfl)) hHeld ?_
    refine tak 5 (some 8) #[true, true, false, false, true, true, false, false, false, false, false, false] (take_ofW HT_.out HW_.out (by kernel_rfl)) hHeld ?_
    refine join_ (σ := Value × Value) 4 #[true, true, true, true, true, true, true, false, true, false, false, false] (fun s_ => [(5, s_.1), (6, .agg #[.bool true, .int .i64 t7007, .int .i64 t7008]), (9, s_.2), (11, .pointer (some ⟨gb7001, 0, none⟩))]) (fun s_ w' => (w'.cell? ⟨gb7001, 0, none⟩ = some (.bool a0_0) ∧ w'.cell? ⟨gb7001, 1, none⟩ = some (.int .i64 a0_1) ∧ w'.cell? ⟨gb7001, 2, none⟩ = some (.int .i64 a0_2) ∧ w'.cell? ⟨gb7001, 3, none⟩ = some (.bool a0_3) ∧ w'.cell? ⟨gb7001, 4, none⟩ = some (.int .i64 a0_4) ∧ w'.cell? ⟨gb7001, 5, none⟩ = some (.int .i64 a0_5)) ∧ (Kd.R k23 23 w' w.heap.size (fun k_ => some k_ ≠ (s_.2 : Value).ownBlock) s_.1 y7003) ∧ (Kd.R k23 23 w' w.heap.size (fun k_ => some k_ ≠ (s_.1 : Value).ownBlock) s_.2 y7009) ∧ (w'.heap[gb7001]? = some (.cells #[.bool a0_0, .int .i64 a0_1, .int .i64 a0_2, .bool a0_3, .int .i64 a0_4, .int .i64 a0_5] 25 (0, 0))) ∧ (w'.heap[gb7002]? = some (.cells #[.bool false, .int .i64 0, .int .i64 0, .bool false, .int .i64 0, .int .i64 0] 25 (0, 0))) ∧ (Below w.heap.size w w')) ?_ ?_
    rotate_left
    · intro hCont
      refine two_ (i := 2) (j := 6) (Ni := some 5) (Nj := some 9) #[true, true, true, false, true, true, false, false, false, false, false, false] #[true, true, false, false, true, true, true, false, false, false, false, false] rfl rfl rfl rfl (two_of HT_.out (by kernel_rfl)) (by decide) (by decide) (fun K hK => ?_) (fun K hK => ?_)
      · skip
        refine Kd.R_lit_step k23 _ 23 ?hg (N := 5) ?hd (xs := ([(⟨a0_0, a0_1, a0_2⟩ : S23)] : List (S23))) (inner := [.bool a0_0, .int .i64 a0_1, .int .i64 a0_2]) (ok := fun _ => True) (okp := fun _ => True) ?hr ?hp (fun _ hk => hk) trivial (Below.refl _ _) (Nat.le_refl _) (by simp) ?_; (case hd => rfl); (case hg => rfl); (case hr => first | (go_simp; done) | (go_simp; rfl)); (case hp => exact (Reps.c3 (show Kd.M k23 _ _ _ (⟨a0_0, a0_1, a0_2⟩ : S23) [.bool a0_0, .int .i64 a0_1, .int .i64 a0_2] from (k23_mkM _ _ _ (⟨a0_0, a0_1, a0_2⟩ : S23) )) (Reps.none _ _)))
        intro v7004 w8 ho9 hb hg_ hnew_
        clear hg_ hnew_
        (first | rw [← Ny7003.out] at ho9 | (simp only [Int.reduceToNat] at ho9; rw [← Ny7003.out] at ho9))
        have HO7005 := Aside0.mk (Kd.R_lower ho9 (below_size (pl HB)))
        replace BK7001 := kb BK7001 hb
        replace BK7002 := kb BK7002 hb
        replace HB := kh HB hb
        clear hb ho9
        obtain ⟨Ao10, co10, eo10⟩ := Kd.R_slice HO7005.out
        (first | subst eo10 | (injection eo10 with f1_ f2_ f3_; have f4_ := f1_.symm; have f5_ := f3_.symm; clear f1_ f2_ f3_; subst f4_; subst f5_))
        refine hK.out _ _ ⟨bc BK7001 0, bc BK7001 1, bc BK7001 2, bc BK7001 3, bc BK7001 4, bc BK7001 5⟩ (fun hHeld => ?_)
        clear hK K
        refine nrm (some 5) ?_
        refine two_ (i := 3) (j := 6) (Ni := some 6) (Nj := some 9) #[true, true, true, true, true, true, false, false, false, false, false, false] #[true, true, true, false, true, true, true, false, false, false, false, false] rfl rfl rfl rfl (two_of HT_.out (by kernel_rfl)) (by decide) (by decide) (fun K hK => ?_) (fun K hK => ?_)
        · skip
          refine goes_ Try.func43 (by kernel_rfl) rfl #[.slice Ao10 y7003.length co10] (by rfl) rfl rfl pa ?_
          with_reducible refine (ints_Join.calls k _ _ y7003 true t7007 t7008 _ ?side1 ?side2 A2.out).mono ?_
          (case side1 => repeat (first | exact (Kd.R_reads' HO7005.out).2.2 | (with_reducible refine Kd.C_alloc ?_ _) | (with_reducible refine Kd.C_drewN ?_ _) | (with_reducible refine Kd.C_drew ?_)))
          (case side2 => exact (Kd.R_reads' HO7005.out).2.1)
          rintro e w11 ⟨rfl, hb⟩
          refine ⟨_, rfl, ?_⟩
          have n0_ := Aside0.mk (Kd.R_below (by (with_reducible repeat (first | apply Kd.R_alloc | apply Kd.R_drewN | apply Kd.R_drew)); exact HO7005.out) hb)
          have n1_ := kb BK7001 hb
          have n2_ := kb BK7002 hb
          have n3_ := kh HB hb
          clear HO7005
          clear BK7001
          clear BK7002
          clear HB
          have HO7005 := n0_
          have BK7001 := n1_
          have BK7002 := n2_
          have HB := n3_
          clear n0_ n1_ n2_ n3_
          (try clear hb)
          (try clear hb2)
          (try clear hk)
          (try clear hi)
          refine hK.out _ _ ⟨bc BK7001 0, bc BK7001 1, bc BK7001 2, bc BK7001 3, bc BK7001 4, bc BK7001 5⟩ (fun hHeld => ?_)
          clear hK K
          refine nrm (some 6) ?_
          refine pur 8 (some 11) #[true, true, true, true, true, true, false, false, true, false, false, false] (any_of HT_.out (by kernel_rfl)) ?_
          refine one_ (i := 6) (N := some 9) #[true, true, true, true, true, true, true, false, true, false, false, false] rfl rfl (one_of HT_.out (by kernel_rfl)) (by decide) (fun K hK => ?_)
          refine Kd.R_lit_step k23 _ 23 ?hg (N := 9) ?hd (xs := ([(⟨a0_3, a0_4, a0_5⟩ : S23)] : List (S23))) (inner := [.bool a0_3, .int .i64 a0_4, .int .i64 a0_5]) (ok := fun _ => True) (okp := fun _ => True) ?hr ?hp (fun _ hk => hk) trivial (Below.refl _ _) (Nat.le_refl _) (by simp) ?_; (case hd => rfl); (case hg => rfl); (case hr => first | (go_simp; done) | (go_simp; rfl)); (case hp => exact (Reps.c3 (show Kd.M k23 _ _ _ (⟨a0_3, a0_4, a0_5⟩ : S23) [.bool a0_3, .int .i64 a0_4, .int .i64 a0_5] from (k23_mkM _ _ _ (⟨a0_3, a0_4, a0_5⟩ : S23) )) (Reps.none _ _)))
          intro v7010 w12 ho13 hb hg_ hnew_
          clear hg_ hnew_
          (first | rw [← Ny7009.out] at ho13 | (simp only [Int.reduceToNat] at ho13; rw [← Ny7009.out] at ho13))
          have n0_ := Aside0.mk (Kd.R_elder' (by (with_reducible repeat (first | apply Kd.R_alloc | apply Kd.R_drewN | apply Kd.R_drew)); exact HO7005.out) (Kd.R_base ho13) hb)
          have n1_ := Aside0.mk (Kd.R_lower (Kd.R_new' ho13 (Kd.R_lt (by (with_reducible repeat (first | apply Kd.R_alloc | apply Kd.R_drewN | apply Kd.R_drew)); exact HO7005.out))) (below_size (pl HB)))
          have n2_ := kb BK7001 hb
          have n3_ := kb BK7002 hb
          have n4_ := kh HB hb
          clear HO7005
          clear BK7001
          clear BK7002
          clear HB
          have HO7005 := n0_
          have HO7011 := n1_
          have BK7001 := n2_
          have BK7002 := n3_
          have HB := n4_
          clear n0_ n1_ n2_ n3_ n4_
          clear hb ho13
          refine hK.out _ _ ⟨bc BK7001 0, bc BK7001 1, bc BK7001 2, bc BK7001 3, bc BK7001 4, bc BK7001 5⟩ (fun hHeld => ?_)
          clear hK K
          refine nrm (some 9) ?_
          exact norm_ (by simp only [putAll, Act.put, List.setIfInBounds_toArray, List.set_cons_zero, List.set_cons_succ]) (hCont (.slice Ao10 y7003.length co10, v7010) _ ⟨hHeld, (by (with_reducible repeat (first | apply Kd.R_alloc | apply Kd.R_drewN | apply Kd.R_drew)); exact Kd.R_mono HO7005.out (fun _ hk => hk.2)), (by (with_reducible repeat (first | apply Kd.R_alloc | apply Kd.R_drewN | apply Kd.R_drew)); exact Kd.R_mono HO7011.out (fun _ hk => hk.2)), (pk BK7001), (pk BK7002), (pl HB)⟩)
        · skip
          refine Kd.R_lit_step k23 _ 23 ?hg (N := 9) ?hd (xs := ([(⟨a0_3, a0_4, a0_5⟩ : S23)] : List (S23))) (inner := [.bool a0_3, .int .i64 a0_4, .int .i64 a0_5]) (ok := fun _ => True) (okp := fun _ => True) ?hr ?hp (fun _ hk => hk) trivial (Below.refl _ _) (Nat.le_refl _) (by simp) ?_; (case hd => rfl); (case hg => rfl); (case hr => first | (go_simp; done) | (go_simp; rfl)); (case hp => exact (Reps.c3 (show Kd.M k23 _ _ _ (⟨a0_3, a0_4, a0_5⟩ : S23) [.bool a0_3, .int .i64 a0_4, .int .i64 a0_5] from (k23_mkM _ _ _ (⟨a0_3, a0_4, a0_5⟩ : S23) )) (Reps.none _ _)))
          intro v7010 w10 ho11 hb hg_ hnew_
          clear hg_ hnew_
          (first | rw [← Ny7009.out] at ho11 | (simp only [Int.reduceToNat] at ho11; rw [← Ny7009.out] at ho11))
          have n0_ := Aside0.mk (Kd.R_elder' (by (with_reducible repeat (first | apply Kd.R_alloc | apply Kd.R_drewN | apply Kd.R_drew)); exact HO7005.out) (Kd.R_base ho11) hb)
          have n1_ := Aside0.mk (Kd.R_lower (Kd.R_new' ho11 (Kd.R_lt (by (with_reducible repeat (first | apply Kd.R_alloc | apply Kd.R_drewN | apply Kd.R_drew)); exact HO7005.out))) (below_size (pl HB)))
          have n2_ := kb BK7001 hb
          have n3_ := kb BK7002 hb
          have n4_ := kh HB hb
          clear HO7005
          clear BK7001
          clear BK7002
          clear HB
          have HO7005 := n0_
          have HO7011 := n1_
          have BK7001 := n2_
          have BK7002 := n3_
          have HB := n4_
          clear n0_ n1_ n2_ n3_ n4_
          clear hb ho11
          obtain ⟨Ao12, co12, eo12⟩ := Kd.R_slice HO7005.out
          (first | subst eo12 | (injection eo12 with f1_ f2_ f3_; have f4_ := f1_.symm; have f5_ := f3_.symm; clear f1_ f2_ f3_; subst f4_; subst f5_))
          refine hK.out _ _ ⟨bc BK7001 0, bc BK7001 1, bc BK7001 2, bc BK7001 3, bc BK7001 4, bc BK7001 5⟩ (fun hHeld => ?_)
          clear hK K
          refine nrm (some 9) ?_
          refine one_ (i := 3) (N := some 6) #[true, true, true, true, true, true, true, false, false, false, false, false] rfl rfl (one_of HT_.out (by kernel_rfl)) (by decide) (fun K hK => ?_)
          refine goes_ Try.func43 (by kernel_rfl) rfl #[.slice Ao12 y7003.length co12] (by rfl) rfl rfl pa ?_
          with_reducible refine (ints_Join.calls k _ _ y7003 true t7007 t7008 _ ?side1 ?side2 A2.out).mono ?_
          (case side1 => repeat (first | exact (Kd.R_reads' HO7005.out).2.2 | (with_reducible refine Kd.C_alloc ?_ _) | (with_reducible refine Kd.C_drewN ?_ _) | (with_reducible refine Kd.C_drew ?_)))
          (case side2 => exact (Kd.R_reads' HO7005.out).2.1)
          rintro e w13 ⟨rfl, hb⟩
          refine ⟨_, rfl, ?_⟩
          have n0_ := Aside0.mk (Kd.R_below (by (with_reducible repeat (first | apply Kd.R_alloc | apply Kd.R_drewN | apply Kd.R_drew)); exact HO7005.out) hb)
          have n1_ := Aside0.mk (Kd.R_below (by (with_reducible repeat (first | apply Kd.R_alloc | apply Kd.R_drewN | apply Kd.R_drew)); exact HO7011.out) hb)
          have n2_ := kb BK7001 hb
          have n3_ := kb BK7002 hb
          have n4_ := kh HB hb
          clear HO7005
          clear HO7011
          clear BK7001
          clear BK7002
          clear HB
          have HO7005 := n0_
          have HO7011 := n1_
          have BK7001 := n2_
          have BK7002 := n3_
          have HB := n4_
          clear n0_ n1_ n2_ n3_ n4_
          (try clear hb)
          (try clear hb2)
          (try clear hk)
          (try clear hi)
          refine hK.out _ _ ⟨bc BK7001 0, bc BK7001 1, bc BK7001 2, bc BK7001 3, bc BK7001 4, bc BK7001 5⟩ (fun hHeld => ?_)
          clear hK K
          refine nrm (some 6) ?_
          refine pur 8 (some 11) #[true, true, true, true, true, true, true, false, true, false, false, false] (any_of HT_.out (by kernel_rfl)) ?_
          exact norm_ (by simp only [putAll, Act.put, List.setIfInBounds_toArray, List.set_cons_zero, List.set_cons_succ]) (hCont (.slice Ao12 y7003.length co12, v7010) _ ⟨hHeld, (by (with_reducible repeat (first | apply Kd.R_alloc | apply Kd.R_drewN | apply Kd.R_drew)); exact Kd.R_mono HO7005.out (fun _ hk => hk.2)), (by (with_reducible repeat (first | apply Kd.R_alloc | apply Kd.R_drewN | apply Kd.R_drew)); exact Kd.R_mono HO7011.out (fun _ hk => hk.2)), (pk BK7001), (pk BK7002), (pl HB)⟩)
      · skip
        refine Kd.R_lit_step k23 _ 23 ?hg (N := 9) ?hd (xs := ([(⟨a0_3, a0_4, a0_5⟩ : S23)] : List (S23))) (inner := [.bool a0_3, .int .i64 a0_4, .int .i64 a0_5]) (ok := fun _ => True) (okp := fun _ => True) ?hr ?hp (fun _ hk => hk) trivial (Below.refl _ _) (Nat.le_refl _) (by simp) ?_; (case hd => rfl); (case hg => rfl); (case hr => first | (go_simp; done) | (go_simp; rfl)); (case hp => exact (Reps.c3 (show Kd.M k23 _ _ _ (⟨a0_3, a0_4, a0_5⟩ : S23) [.bool a0_3, .int .i64 a0_4, .int .i64 a0_5] from (k23_mkM _ _ _ (⟨a0_3, a0_4, a0_5⟩ : S23) )) (Reps.none _ _)))
        intro v7010 w8 ho9 hb hg_ hnew_
        clear hg_ hnew_
        (first | rw [← Ny7009.out] at ho9 | (simp only [Int.reduceToNat] at ho9; rw [← Ny7009.out] at ho9))
        have HO7011 := Aside0.mk (Kd.R_lower ho9 (below_size (pl HB)))
        replace BK7001 := kb BK7001 hb
        replace BK7002 := kb BK7002 hb
        replace HB := kh HB hb
        clear hb ho9
        refine hK.out _ _ ⟨bc BK7001 0, bc BK7001 1, bc BK7001 2, bc BK7001 3, bc BK7001 4, bc BK7001 5⟩ (fun hHeld => ?_)
        clear hK K
        refine nrm (some 9) ?_
        refine one_ (i := 2) (N := some 5) #[true, true, true, false, true, true, true, false, false, false, false, false] rfl rfl (one_of HT_.out (by kernel_rfl)) (by decide) (fun K hK => ?_)
        refine Kd.R_lit_step k23 _ 23 ?hg (N := 5) ?hd (xs := ([(⟨a0_0, a0_1, a0_2⟩ : S23)] : List (S23))) (inner := [.bool a0_0, .int .i64 a0_1, .int .i64 a0_2]) (ok := fun _ => True) (okp := fun _ => True) ?hr ?hp (fun _ hk => hk) trivial (Below.refl _ _) (Nat.le_refl _) (by simp) ?_; (case hd => rfl); (case hg => rfl); (case hr => first | (go_simp; done) | (go_simp; rfl)); (case hp => exact (Reps.c3 (show Kd.M k23 _ _ _ (⟨a0_0, a0_1, a0_2⟩ : S23) [.bool a0_0, .int .i64 a0_1, .int .i64 a0_2] from (k23_mkM _ _ _ (⟨a0_0, a0_1, a0_2⟩ : S23) )) (Reps.none _ _)))
        intro v7004 w10 ho11 hb hg_ hnew_
        clear hg_ hnew_
        (first | rw [← Ny7003.out] at ho11 | (simp only [Int.reduceToNat] at ho11; rw [← Ny7003.out] at ho11))
        have n0_ := Aside0.mk (Kd.R_elder' (by (with_reducible repeat (first | apply Kd.R_alloc | apply Kd.R_drewN | apply Kd.R_drew)); exact HO7011.out) (Kd.R_base ho11) hb)
        have n1_ := Aside0.mk (Kd.R_lower (Kd.R_new' ho11 (Kd.R_lt (by (with_reducible repeat (first | apply Kd.R_alloc | apply Kd.R_drewN | apply Kd.R_drew)); exact HO7011.out))) (below_size (pl HB)))
        have n2_ := kb BK7001 hb
        have n3_ := kb BK7002 hb
        have n4_ := kh HB hb
        clear HO7011
        clear BK7001
        clear BK7002
        clear HB
        have HO7011 := n0_
        have HO7005 := n1_
        have BK7001 := n2_
        have BK7002 := n3_
        have HB := n4_
        clear n0_ n1_ n2_ n3_ n4_
        clear hb ho11
        obtain ⟨Ao12, co12, eo12⟩ := Kd.R_slice HO7005.out
        (first | subst eo12 | (injection eo12 with f1_ f2_ f3_; have f4_ := f1_.symm; have f5_ := f3_.symm; clear f1_ f2_ f3_; subst f4_; subst f5_))
        refine hK.out _ _ ⟨bc BK7001 0, bc BK7001 1, bc BK7001 2, bc BK7001 3, bc BK7001 4, bc BK7001 5⟩ (fun hHeld => ?_)
        clear hK K
        refine nrm (some 5) ?_
        refine one_ (i := 3) (N := some 6) #[true, true, true, true, true, true, true, false, false, false, false, false] rfl rfl (one_of HT_.out (by kernel_rfl)) (by decide) (fun K hK => ?_)
        refine goes_ Try.func43 (by kernel_rfl) rfl #[.slice Ao12 y7003.length co12] (by rfl) rfl rfl pa ?_
        with_reducible refine (ints_Join.calls k _ _ y7003 true t7007 t7008 _ ?side1 ?side2 A2.out).mono ?_
        (case side1 => repeat (first | exact (Kd.R_reads' HO7005.out).2.2 | (with_reducible refine Kd.C_alloc ?_ _) | (with_reducible refine Kd.C_drewN ?_ _) | (with_reducible refine Kd.C_drew ?_)))
        (case side2 => exact (Kd.R_reads' HO7005.out).2.1)
        rintro e w13 ⟨rfl, hb⟩
        refine ⟨_, rfl, ?_⟩
        have n0_ := Aside0.mk (Kd.R_below (by (with_reducible repeat (first | apply Kd.R_alloc | apply Kd.R_drewN | apply Kd.R_drew)); exact HO7011.out) hb)
        have n1_ := Aside0.mk (Kd.R_below (by (with_reducible repeat (first | apply Kd.R_alloc | apply Kd.R_drewN | apply Kd.R_drew)); exact HO7005.out) hb)
        have n2_ := kb BK7001 hb
        have n3_ := kb BK7002 hb
        have n4_ := kh HB hb
        clear HO7011
        clear HO7005
        clear BK7001
        clear BK7002
        clear HB
        have HO7011 := n0_
        have HO7005 := n1_
        have BK7001 := n2_
        have BK7002 := n3_
        have HB := n4_
        clear n0_ n1_ n2_ n3_ n4_
        (try clear hb)
        (try clear hb2)
        (try clear hk)
        (try clear hi)
        refine hK.out _ _ ⟨bc BK7001 0, bc BK7001 1, bc BK7001 2, bc BK7001 3, bc BK7001 4, bc BK7001 5⟩ (fun hHeld => ?_)
        clear hK K
        refine nrm (some 6) ?_
        refine pur 8 (some 11) #[true, true, true, true, true, true, true, false, true, false, false, false] (any_of HT_.out (by kernel_rfl)) ?_
        exact norm_ (by simp only [putAll, Act.put, List.setIfInBounds_toArray, List.set_cons_zero, List.set_cons_succ]) (hCont (.slice Ao12 y7003.length co12, v7010) _ ⟨hHeld, (by (with_reducible repeat (first | apply Kd.R_alloc | apply Kd.R_drewN | apply Kd.R_drew)); exact Kd.R_mono HO7005.out (fun _ hk => hk.2)), (by (with_reducible repeat (first | apply Kd.R_alloc | apply Kd.R_drewN | apply Kd.R_drew)); exact Kd.R_mono HO7011.out (fun _ hk => hk.2)), (pk BK7001), (pk BK7002), (pl HB)⟩)
    rintro ⟨v7004, v7010⟩ w14 ⟨hS_, h0_, h1_, h2_, h3_, h4_⟩
    have n0_ : Aside0 (Kd.R k23 23 w14 w.heap.size (fun k_ => some k_ ≠ (v7010 : Value).ownBlock) v7004 y7003) := ⟨h0_⟩
    have n1_ : Aside0 (Kd.R k23 23 w14 w.heap.size (fun k_ => some k_ ≠ (v7004 : Value).ownBlock) v7010 y7009) := ⟨h1_⟩
    have n2_ : Aside0 (w14.heap[gb7001]? = some (.cells #[.bool a0_0, .int .i64 a0_1, .int .i64 a0_2, .bool a0_3, .int .i64 a0_4, .int .i64 a0_5] 25 (0, 0))) := ⟨h2_⟩
    have n3_ : Aside0 (w14.heap[gb7002]? = some (.cells #[.bool false, .int .i64 0, .int .i64 0, .bool false, .int .i64 0, .int .i64 0] 25 (0, 0))) := ⟨h3_⟩
    have n4_ : Aside0 (Below w.heap.size w w14) := ⟨h4_⟩
    clear BK7001
    clear BK7002
    clear HB
    clear h0_ h1_ h2_ h3_ h4_
    have HO7005 := n0_
    have HO7011 := n1_
    have BK7001 := n2_
    have BK7002 := n3_
    have HB := n4_
    clear n0_ n1_ n2_ n3_ n4_
    have hHeld : w14.cell? ⟨gb7001, 0, none⟩ = some (.bool a0_0) ∧ w14.cell? ⟨gb7001, 1, none⟩ = some (.int .i64 a0_1) ∧ w14.cell? ⟨gb7001, 2, none⟩ = some (.int .i64 a0_2) ∧ w14.cell? ⟨gb7001, 3, none⟩ = some (.bool a0_3) ∧ w14.cell? ⟨gb7001, 4, none⟩ = some (.int .i64 a0_4) ∧ w14.cell? ⟨gb7001, 5, none⟩ = some (.int .i64 a0_5) := hS_
    obtain ⟨Ao15, co15, eo15⟩ := Kd.R_slice HO7011.out
    (first | subst eo15 | (injection eo15 with f1_ f2_ f3_; have f4_ := f1_.symm; have f5_ := f3_.symm; clear f1_ f2_ f3_; subst f4_; subst f5_))
    refine norm_ (a' := ?_) ?_ ?_
    rotate_left
    · simp only [putAll, Act.put, List.setIfInBounds_toArray, List.set_cons_zero, List.set_cons_succ]
      rfl
    refine one_ (i := 7) (N := some 10) #[true, true, true, true, true, true, true, true, true, false, false, false] rfl rfl (one_of HT_.out (by kernel_rfl)) (by decide) (fun K hK => ?_)
    refine goes_ Try.func43 (by kernel_rfl) rfl #[.slice Ao15 y7009.length co15] (by rfl) rfl rfl pa ?_
    with_reducible refine (ints_Join.calls k _ _ y7009 t7012 t7013 t7014 _ ?side1 ?side2 A3.out).mono ?_
    (case side1 => repeat (first | exact (Kd.R_reads' HO7011.out).2.2 | (with_reducible refine Kd.C_alloc ?_ _) | (with_reducible refine Kd.C_drewN ?_ _) | (with_reducible refine Kd.C_drew ?_)))
    (case side2 => exact (Kd.R_reads' HO7011.out).2.1)
    rintro e w16 ⟨rfl, hb⟩
    refine ⟨_, rfl, ?_⟩
    have n0_ := Aside0.mk (Kd.R_below (by (with_reducible repeat (first | apply Kd.R_alloc | apply Kd.R_drewN | apply Kd.R_drew)); exact HO7005.out) hb)
    have n1_ := Aside0.mk (Kd.R_below (by (with_reducible repeat (first | apply Kd.R_alloc | apply Kd.R_drewN | apply Kd.R_drew)); exact HO7011.out) hb)
    have n2_ := kb BK7001 hb
    have n3_ := kb BK7002 hb
    have n4_ := kh HB hb
    clear HO7005
    clear HO7011
    clear BK7001
    clear BK7002
    clear HB
    have HO7005 := n0_
    have HO7011 := n1_
    have BK7001 := n2_
    have BK7002 := n3_
    have HB := n4_
    clear n0_ n1_ n2_ n3_ n4_
    (try clear hb)
    (try clear hb2)
    (try clear hk)
    (try clear hi)
    refine hK.out _ _ ⟨bc BK7001 0, bc BK7001 1, bc BK7001 2, bc BK7001 3, bc BK7001 4, bc BK7001 5⟩ (fun hHeld => ?_)
    clear hK K
    refine nrm (some 10) ?_
    refine last_ (i := 9) (N := none) #[true, true, true, true, true, true, true, true, true, true, false, false] rfl rfl (one_of HT_.out (by kernel_rfl)) (by decide) (fun K hK => ?_)
    have hs17 : w16.cell? ⟨gb7001, 0, none⟩ = some (.bool a0_0) := bc BK7001 0
    have hfs17 := blk_frozen BK7001.out 0
    have hns17_1 := NB7002_7001.out
    have hms17_1 := NB7001_7002.out
    have hs18 : w16.cell? ⟨gb7001, 1, none⟩ = some (.int .i64 a0_1) := bc BK7001 1
    have hfs18 := blk_frozen BK7001.out 1
    have hs19 : w16.cell? ⟨gb7001, 2, none⟩ = some (.int .i64 a0_2) := bc BK7001 2
    have hfs19 := blk_frozen BK7001.out 2
    refine skip_ (w1 := ?_) (by rfl) rfl ?_ ?_
    rotate_left
    · go_simp
      rfl
    refine hK.out _ _ ?_
    clear hK K
    refine pur 10 (some 12) #[true, true, true, true, true, true, true, true, true, true, true, false] (any_of HT_.out (by kernel_rfl)) ?_
    refine last_ (i := 11) (N := none) #[true, true, true, true, true, true, true, true, true, true, true, true] rfl rfl (one_of HT_.out (by kernel_rfl)) (by decide) (fun K hK => ?_)
    have hs20 : w16.cell? ⟨gb7001, 3, none⟩ = some (.bool a0_3) := bc BK7001 3
    have hfs20 := blk_frozen BK7001.out 3
    have hns20_1 := NB7002_7001.out
    have hms20_1 := NB7001_7002.out
    have hs21 : w16.cell? ⟨gb7001, 4, none⟩ = some (.int .i64 a0_4) := bc BK7001 4
    have hfs21 := blk_frozen BK7001.out 4
    have hs22 : w16.cell? ⟨gb7001, 5, none⟩ = some (.int .i64 a0_5) := bc BK7001 5
    have hfs22 := blk_frozen BK7001.out 5
    refine skip_ (w1 := ?_) (by rfl) rfl ?_ ?_
    rotate_left
    · go_simp
      rfl
    refine hK.out _ _ ?_
    clear hK K
    refine done_ (done_of HT_.out (by kernel_rfl)) ?_
    have hnb23 := NB7001_7002.out
    have hnc23 := NB7002_7001.out
    have ⟨hcz24_0, hcz24_1, hcz24_2, hcz24_3, hcz24_4, hcz24_5, hfz24_0, hfz24_1, hfz24_2, hfz24_3, hfz24_4, hfz24_5⟩ := kz6f BK7001
    have ⟨hcz25_0, hcz25_1, hcz25_2, hcz25_3, hcz25_4, hcz25_5, hfz25_0, hfz25_1, hfz25_2, hfz25_3, hfz25_4, hfz25_5⟩ := kz6f BK7002
    try go_wp2
    refine bodyPost_ret (results_cell_row rfl _ _ gb7002 25 #[.bool true, .int .i64 0, .int .i64 0, .bool true, .int .i64 0, .int .i64 0] (0, 0) _ rfl (pK BK7002) Try.underlying25 rfl (by kernel_rfl)) rfl ?_
    exact ⟨pe, pl HB⟩
  · replace c4 := Bool.eq_false_iff.mpr c4
    subst c4
    rw [if_neg (show ¬ (false = true) by decide)] at H
    by_cases c26 : t7012 = true
    · subst c26
      rw [if_pos rfl] at H
      simp only [Option.some.injEq, Prod.mk.injEq] at H
      obtain ⟨rfl, rfl, rfl, rfl, rfl, rfl⟩ := H
      go_enter Try.func61, Try.ntmps61
      try go_wp2_with (first | ((with_reducible refine gate_dst (N := 1) rfl ?_); refine kx 1 #[.bool a0_0, .int .i64 a0_1, .int .i64 a0_2, .bool a0_3, .int .i64 a0_4, .int .i64 a0_5] 25 ?_; intro gb7001 hg w27 hbox hb; have BK7001 := Aside0.mk (hbox); have GW7001 := kg HB hg; have GE7001 := kg HB hg; replace HB := kh HB hb; clear hb hbox hg) | ((with_reducible refine gate_dst (N := 2) rfl ?_); refine kx 2 #[.bool false, .int .i64 0, .int .i64 0, .bool false, .int .i64 0, .int .i64 0] 25 ?_; intro gb7002 hg w28 hbox hb; have BK7002 := Aside0.mk (hbox); have GW7002 := kg HB hg; have GE7002 := kg HB hg; have NB7001_7002 := kn BK7001 hg; have NB7002_7001 := km BK7001 hg; replace BK7001 := kb BK7001 hb; replace HB := kh HB hb; clear hb hbox hg))
      replace BK7001 := Aside0.mk (blk_drew BK7001.out)
      replace BK7002 := Aside0.mk (blk_drew BK7002.out)
      replace HB := Aside0.mk (below_drew1 HB.out)
      refine start_ (n := 12) (S := fun w' => w'.cell? ⟨gb7001, 0, none⟩ = some (.bool a0_0) ∧ w'.cell? ⟨gb7001, 1, none⟩ = some (.int .i64 a0_1) ∧ w'.cell? ⟨gb7001, 2, none⟩ = some (.int .i64 a0_2) ∧ w'.cell? ⟨gb7001, 3, none⟩ = some (.bool a0_3) ∧ w'.cell? ⟨gb7001, 4, none⟩ = some (.int .i64 a0_4) ∧ w'.cell? ⟨gb7001, 5, none⟩ = some (.int .i64 a0_5)) (ds := [9, 11]) #[false, false, false, false, false, false, false, false, false, false, false, false] (by kernel_rfl) rfl rfl ⟨bc BK7001 0, bc BK7001 1, bc BK7001 2, bc BK7001 3, bc BK7001 4, bc BK7001 5⟩ (fun hHeld => ?_); refine with_tabW clock_norm.tab1 clock_norm.bits1 (fun HT_ HW_ => ?_)
      generalize w28.drew = w29 at BK7001 BK7002 HB hHeld ⊢
      refine pur 0 (some 3) #[true, false, false, false, false, false, false, false, false, false, false, false] (any_of HT_.out (by kernel_rfl)) ?_
      refine pur 4 (some 7) #[true, false, false, false, true, false, false, false, false, false, false, false] (any_of HT_.out (by kernel_rfl)) ?_
      refine tak 1 (some 4) #[true, true, false, false, true, false, false, false, false, false, false, false] (take_ofW HT_.out HW_.out (by kernel_rfl)) hHeld ?_
      refine tak 5 (some 8) #[true, true, false, false, true, true, false, false, false, false, false, false] (take_ofW HT_.out HW_.out (by kernel_rfl)) hHeld ?_
      refine join_ (σ := Value × Value) 4 #[true, true, true, true, true, true, true, false, true, false, false, false] (fun s_ => [(5, s_.1), (6, .agg #[.bool false, .int .i64 t7007, .int .i64 t7008]), (9, s_.2), (11, .pointer (some ⟨gb7001, 0, none⟩))]) (fun s_ w' => (w'.cell? ⟨gb7001, 0, none⟩ = some (.bool a0_0) ∧ w'.cell? ⟨gb7001, 1, none⟩ = some (.int .i64 a0_1) ∧ w'.cell? ⟨gb7001, 2, none⟩ = some (.int .i64 a0_2) ∧ w'.cell? ⟨gb7001, 3, none⟩ = some (.bool a0_3) ∧ w'.cell? ⟨gb7001, 4, none⟩ = some (.int .i64 a0_4) ∧ w'.cell? ⟨gb7001, 5, none⟩ = some (.int .i64 a0_5)) ∧ (Kd.R k23 23 w' w.heap.size (fun k_ => some k_ ≠ (s_.2 : Value).ownBlock) s_.1 y7003) ∧ (Kd.R k23 23 w' w.heap.size (fun k_ => some k_ ≠ (s_.1 : Value).ownBlock) s_.2 y7009) ∧ (w'.heap[gb7001]? = some (.cells #[.bool a0_0, .int .i64 a0_1, .int .i64 a0_2, .bool a0_3, .int .i64 a0_4, .int .i64 a0_5] 25 (0, 0))) ∧ (w'.heap[gb7002]? = some (.cells #[.bool false, .int .i64 0, .int .i64 0, .bool false, .int .i64 0, .int .i64 0] 25 (0, 0))) ∧ (Below w.heap.size w w')) ?_ ?_
      rotate_left
      · intro hCont
        refine two_ (i := 2) (j := 6) (Ni := some 5) (Nj := some 9) #[true, true, true, false, true, true, false, false, false, false, false, false] #[true, true, false, false, true, true, true, false, false, false, false, false] rfl rfl rfl rfl (two_of HT_.out (by kernel_rfl)) (by decide) (by decide) (fun K hK => ?_) (fun K hK => ?_)
        · skip
          refine Kd.R_lit_step k23 _ 23 ?hg (N := 5) ?hd (xs := ([(⟨a0_0, a0_1, a0_2⟩ : S23)] : List (S23))) (inner := [.bool a0_0, .int .i64 a0_1, .int .i64 a0_2]) (ok := fun _ => True) (okp := fun _ => True) ?hr ?hp (fun _ hk => hk) trivial (Below.refl _ _) (Nat.le_refl _) (by simp) ?_; (case hd => rfl); (case hg => rfl); (case hr => first | (go_simp; done) | (go_simp; rfl)); (case hp => exact (Reps.c3 (show Kd.M k23 _ _ _ (⟨a0_0, a0_1, a0_2⟩ : S23) [.bool a0_0, .int .i64 a0_1, .int .i64 a0_2] from (k23_mkM _ _ _ (⟨a0_0, a0_1, a0_2⟩ : S23) )) (Reps.none _ _)))
          intro v7004 w30 ho31 hb hg_ hnew_
          clear hg_ hnew_
          (first | rw [← Ny7003.out] at ho31 | (simp only [Int.reduceToNat] at ho31; rw [← Ny7003.out] at ho31))
          have HO7005 := Aside0.mk (Kd.R_lower ho31 (below_size (pl HB)))
          replace BK7001 := kb BK7001 hb
          replace BK7002 := kb BK7002 hb
          replace HB := kh HB hb
          clear hb ho31
          obtain ⟨Ao32, co32, eo32⟩ := Kd.R_slice HO7005.out
          (first | subst eo32 | (injection eo32 with f1_ f2_ f3_; have f4_ := f1_.symm; have f5_ := f3_.symm; clear f1_ f2_ f3_; subst f4_; subst f5_))
          refine hK.out _ _ ⟨bc BK7001 0, bc BK7001 1, bc BK7001 2, bc BK7001 3, bc BK7001 4, bc BK7001 5⟩ (fun hHeld => ?_)
          clear hK K
          refine nrm (some 5) ?_
          refine two_ (i := 3) (j := 6) (Ni := some 6) (Nj := some 9) #[true, true, true, true, true, true, false, false, false, false, false, false] #[true, true, true, false, true, true, true, false, false, false, false, false] rfl rfl rfl rfl (two_of HT_.out (by kernel_rfl)) (by decide) (by decide) (fun K hK => ?_) (fun K hK => ?_)
          · skip
            refine goes_ Try.func43 (by kernel_rfl) rfl #[.slice Ao32 y7003.length co32] (by rfl) rfl rfl pa ?_
            with_reducible refine (ints_Join.calls k _ _ y7003 false t7007 t7008 _ ?side1 ?side2 A2.out).mono ?_
            (case side1 => repeat (first | exact (Kd.R_reads' HO7005.out).2.2 | (with_reducible refine Kd.C_alloc ?_ _) | (with_reducible refine Kd.C_drewN ?_ _) | (with_reducible refine Kd.C_drew ?_)))
            (case side2 => exact (Kd.R_reads' HO7005.out).2.1)
            rintro e w33 ⟨rfl, hb⟩
            refine ⟨_, rfl, ?_⟩
            have n0_ := Aside0.mk (Kd.R_below (by (with_reducible repeat (first | apply Kd.R_alloc | apply Kd.R_drewN | apply Kd.R_drew)); exact HO7005.out) hb)
            have n1_ := kb BK7001 hb
            have n2_ := kb BK7002 hb
            have n3_ := kh HB hb
            clear HO7005
            clear BK7001
            clear BK7002
            clear HB
            have HO7005 := n0_
            have BK7001 := n1_
            have BK7002 := n2_
            have HB := n3_
            clear n0_ n1_ n2_ n3_
            (try clear hb)
            (try clear hb2)
            (try clear hk)
            (try clear hi)
            refine hK.out _ _ ⟨bc BK7001 0, bc BK7001 1, bc BK7001 2, bc BK7001 3, bc BK7001 4, bc BK7001 5⟩ (fun hHeld => ?_)
            clear hK K
            refine nrm (some 6) ?_
            refine pur 8 (some 11) #[true, true, true, true, true, true, false, false, true, false, false, false] (any_of HT_.out (by kernel_rfl)) ?_
            refine one_ (i := 6) (N := some 9) #[true, true, true, true, true, true, true, false, true, false, false, false] rfl rfl (one_of HT_.out (by kernel_rfl)) (by decide) (fun K hK => ?_)
            refine Kd.R_lit_step k23 _ 23 ?hg (N := 9) ?hd (xs := ([(⟨a0_3, a0_4, a0_5⟩ : S23)] : List (S23))) (inner := [.bool a0_3, .int .i64 a0_4, .int .i64 a0_5]) (ok := fun _ => True) (okp := fun _ => True) ?hr ?hp (fun _ hk => hk) trivial (Below.refl _ _) (Nat.le_refl _) (by simp) ?_; (case hd => rfl); (case hg => rfl); (case hr => first | (go_simp; done) | (go_simp; rfl)); (case hp => exact (Reps.c3 (show Kd.M k23 _ _ _ (⟨a0_3, a0_4, a0_5⟩ : S23) [.bool a0_3, .int .i64 a0_4, .int .i64 a0_5] from (k23_mkM _ _ _ (⟨a0_3, a0_4, a0_5⟩ : S23) )) (Reps.none _ _)))
            intro v7010 w34 ho35 hb hg_ hnew_
            clear hg_ hnew_
            (first | rw [← Ny7009.out] at ho35 | (simp only [Int.reduceToNat] at ho35; rw [← Ny7009.out] at ho35))
            have n0_ := Aside0.mk (Kd.R_elder' (by (with_reducible repeat (first | apply Kd.R_alloc | apply Kd.R_drewN | apply Kd.R_drew)); exact HO7005.out) (Kd.R_base ho35) hb)
            have n1_ := Aside0.mk (Kd.R_lower (Kd.R_new' ho35 (Kd.R_lt (by (with_reducible repeat (first | apply Kd.R_alloc | apply Kd.R_drewN | apply Kd.R_drew)); exact HO7005.out))) (below_size (pl HB)))
            have n2_ := kb BK7001 hb
            have n3_ := kb BK7002 hb
            have n4_ := kh HB hb
            clear HO7005
            clear BK7001
            clear BK7002
            clear HB
            have HO7005 := n0_
            have HO7011 := n1_
            have BK7001 := n2_
            have BK7002 := n3_
            have HB := n4_
            clear n0_ n1_ n2_ n3_ n4_
            clear hb ho35
            refine hK.out _ _ ⟨bc BK7001 0, bc BK7001 1, bc BK7001 2, bc BK7001 3, bc BK7001 4, bc BK7001 5⟩ (fun hHeld => ?_)
            clear hK K
            refine nrm (some 9) ?_
            exact norm_ (by simp only [putAll, Act.put, List.setIfInBounds_toArray, List.set_cons_zero, List.set_cons_succ]) (hCont (.slice Ao32 y7003.length co32, v7010) _ ⟨hHeld, (by (with_reducible repeat (first | apply Kd.R_alloc | apply Kd.R_drewN | apply Kd.R_drew)); exact Kd.R_mono HO7005.out (fun _ hk => hk.2)), (by (with_reducible repeat (first | apply Kd.R_alloc | apply Kd.R_drewN | apply Kd.R_drew)); exact Kd.R_mono HO7011.out (fun _ hk => hk.2)), (pk BK7001), (pk BK7002), (pl HB)⟩)
          · skip
            refine Kd.R_lit_step k23 _ 23 ?hg (N := 9) ?hd (xs := ([(⟨a0_3, a0_4, a0_5⟩ : S23)] : List (S23))) (inner := [.bool a0_3, .int .i64 a0_4, .int .i64 a0_5]) (ok := fun _ => True) (okp := fun _ => True) ?hr ?hp (fun _ hk => hk) trivial (Below.refl _ _) (Nat.le_refl _) (by simp) ?_; (case hd => rfl); (case hg => rfl); (case hr => first | (go_simp; done) | (go_simp; rfl)); (case hp => exact (Reps.c3 (show Kd.M k23 _ _ _ (⟨a0_3, a0_4, a0_5⟩ : S23) [.bool a0_3, .int .i64 a0_4, .int .i64 a0_5] from (k23_mkM _ _ _ (⟨a0_3, a0_4, a0_5⟩ : S23) )) (Reps.none _ _)))
            intro v7010 w32 ho33 hb hg_ hnew_
            clear hg_ hnew_
            (first | rw [← Ny7009.out] at ho33 | (simp only [Int.reduceToNat] at ho33; rw [← Ny7009.out] at ho33))
            have n0_ := Aside0.mk (Kd.R_elder' (by (with_reducible repeat (first | apply Kd.R_alloc | apply Kd.R_drewN | apply Kd.R_drew)); exact HO7005.out) (Kd.R_base ho33) hb)
            have n1_ := Aside0.mk (Kd.R_lower (Kd.R_new' ho33 (Kd.R_lt (by (with_reducible repeat (first | apply Kd.R_alloc | apply Kd.R_drewN | apply Kd.R_drew)); exact HO7005.out))) (below_size (pl HB)))
            have n2_ := kb BK7001 hb
            have n3_ := kb BK7002 hb
            have n4_ := kh HB hb
            clear HO7005
            clear BK7001
            clear BK7002
            clear HB
            have HO7005 := n0_
            have HO7011 := n1_
            have BK7001 := n2_
            have BK7002 := n3_
            have HB := n4_
            clear n0_ n1_ n2_ n3_ n4_
            clear hb ho33
            obtain ⟨Ao34, co34, eo34⟩ := Kd.R_slice HO7005.out
            (first | subst eo34 | (injection eo34 with f1_ f2_ f3_; have f4_ := f1_.symm; have f5_ := f3_.symm; clear f1_ f2_ f3_; subst f4_; subst f5_))
            refine hK.out _ _ ⟨bc BK7001 0, bc BK7001 1, bc BK7001 2, bc BK7001 3, bc BK7001 4, bc BK7001 5⟩ (fun hHeld => ?_)
            clear hK K
            refine nrm (some 9) ?_
            refine one_ (i := 3) (N := some 6) #[true, true, true, true, true, true, true, false, false, false, false, false] rfl rfl (one_of HT_.out (by kernel_rfl)) (by decide) (fun K hK => ?_)
            refine goes_ Try.func43 (by kernel_rfl) rfl #[.slice Ao34 y7003.length co34] (by rfl) rfl rfl pa ?_
            with_reducible refine (ints_Join.calls k _ _ y7003 false t7007 t7008 _ ?side1 ?side2 A2.out).mono ?_
            (case side1 => repeat (first | exact (Kd.R_reads' HO7005.out).2.2 | (with_reducible refine Kd.C_alloc ?_ _) | (with_reducible refine Kd.C_drewN ?_ _) | (with_reducible refine Kd.C_drew ?_)))
            (case side2 => exact (Kd.R_reads' HO7005.out).2.1)
            rintro e w35 ⟨rfl, hb⟩
            refine ⟨_, rfl, ?_⟩
            have n0_ := Aside0.mk (Kd.R_below (by (with_reducible repeat (first | apply Kd.R_alloc | apply Kd.R_drewN | apply Kd.R_drew)); exact HO7005.out) hb)
            have n1_ := Aside0.mk (Kd.R_below (by (with_reducible repeat (first | apply Kd.R_alloc | apply Kd.R_drewN | apply Kd.R_drew)); exact HO7011.out) hb)
            have n2_ := kb BK7001 hb
            have n3_ := kb BK7002 hb
            have n4_ := kh HB hb
            clear HO7005
            clear HO7011
            clear BK7001
            clear BK7002
            clear HB
            have HO7005 := n0_
            have HO7011 := n1_
            have BK7001 := n2_
            have BK7002 := n3_
            have HB := n4_
            clear n0_ n1_ n2_ n3_ n4_
            (try clear hb)
            (try clear hb2)
            (try clear hk)
            (try clear hi)
            refine hK.out _ _ ⟨bc BK7001 0, bc BK7001 1, bc BK7001 2, bc BK7001 3, bc BK7001 4, bc BK7001 5⟩ (fun hHeld => ?_)
            clear hK K
            refine nrm (some 6) ?_
            refine pur 8 (some 11) #[true, true, true, true, true, true, true, false, true, false, false, false] (any_of HT_.out (by kernel_rfl)) ?_
            exact norm_ (by simp only [putAll, Act.put, List.setIfInBounds_toArray, List.set_cons_zero, List.set_cons_succ]) (hCont (.slice Ao34 y7003.length co34, v7010) _ ⟨hHeld, (by (with_reducible repeat (first | apply Kd.R_alloc | apply Kd.R_drewN | apply Kd.R_drew)); exact Kd.R_mono HO7005.out (fun _ hk => hk.2)), (by (with_reducible repeat (first | apply Kd.R_alloc | apply Kd.R_drewN | apply Kd.R_drew)); exact Kd.R_mono HO7011.out (fun _ hk => hk.2)), (pk BK7001), (pk BK7002), (pl HB)⟩)
        · skip
          refine Kd.R_lit_step k23 _ 23 ?hg (N := 9) ?hd (xs := ([(⟨a0_3, a0_4, a0_5⟩ : S23)] : List (S23))) (inner := [.bool a0_3, .int .i64 a0_4, .int .i64 a0_5]) (ok := fun _ => True) (okp := fun _ => True) ?hr ?hp (fun _ hk => hk) trivial (Below.refl _ _) (Nat.le_refl _) (by simp) ?_; (case hd => rfl); (case hg => rfl); (case hr => first | (go_simp; done) | (go_simp; rfl)); (case hp => exact (Reps.c3 (show Kd.M k23 _ _ _ (⟨a0_3, a0_4, a0_5⟩ : S23) [.bool a0_3, .int .i64 a0_4, .int .i64 a0_5] from (k23_mkM _ _ _ (⟨a0_3, a0_4, a0_5⟩ : S23) )) (Reps.none _ _)))
          intro v7010 w30 ho31 hb hg_ hnew_
          clear hg_ hnew_
          (first | rw [← Ny7009.out] at ho31 | (simp only [Int.reduceToNat] at ho31; rw [← Ny7009.out] at ho31))
          have HO7011 := Aside0.mk (Kd.R_lower ho31 (below_size (pl HB)))
          replace BK7001 := kb BK7001 hb
          replace BK7002 := kb BK7002 hb
          replace HB := kh HB hb
          clear hb ho31
          refine hK.out _ _ ⟨bc BK7001 0, bc BK7001 1, bc BK7001 2, bc BK7001 3, bc BK7001 4, bc BK7001 5⟩ (fun hHeld => ?_)
          clear hK K
          refine nrm (some 9) ?_
          refine one_ (i := 2) (N := some 5) #[true, true, true, false, true, true, true, false, false, false, false, false] rfl rfl (one_of HT_.out (by kernel_rfl)) (by decide) (fun K hK => ?_)
          refine Kd.R_lit_step k23 _ 23 ?hg (N := 5) ?hd (xs := ([(⟨a0_0, a0_1, a0_2⟩ : S23)] : List (S23))) (inner := [.bool a0_0, .int .i64 a0_1, .int .i64 a0_2]) (ok := fun _ => True) (okp := fun _ => True) ?hr ?hp (fun _ hk => hk) trivial (Below.refl _ _) (Nat.le_refl _) (by simp) ?_; (case hd => rfl); (case hg => rfl); (case hr => first | (go_simp; done) | (go_simp; rfl)); (case hp => exact (Reps.c3 (show Kd.M k23 _ _ _ (⟨a0_0, a0_1, a0_2⟩ : S23) [.bool a0_0, .int .i64 a0_1, .int .i64 a0_2] from (k23_mkM _ _ _ (⟨a0_0, a0_1, a0_2⟩ : S23) )) (Reps.none _ _)))
          intro v7004 w32 ho33 hb hg_ hnew_
          clear hg_ hnew_
          (first | rw [← Ny7003.out] at ho33 | (simp only [Int.reduceToNat] at ho33; rw [← Ny7003.out] at ho33))
          have n0_ := Aside0.mk (Kd.R_elder' (by (with_reducible repeat (first | apply Kd.R_alloc | apply Kd.R_drewN | apply Kd.R_drew)); exact HO7011.out) (Kd.R_base ho33) hb)
          have n1_ := Aside0.mk (Kd.R_lower (Kd.R_new' ho33 (Kd.R_lt (by (with_reducible repeat (first | apply Kd.R_alloc | apply Kd.R_drewN | apply Kd.R_drew)); exact HO7011.out))) (below_size (pl HB)))
          have n2_ := kb BK7001 hb
          have n3_ := kb BK7002 hb
          have n4_ := kh HB hb
          clear HO7011
          clear BK7001
          clear BK7002
          clear HB
          have HO7011 := n0_
          have HO7005 := n1_
          have BK7001 := n2_
          have BK7002 := n3_
          have HB := n4_
          clear n0_ n1_ n2_ n3_ n4_
          clear hb ho33
          obtain ⟨Ao34, co34, eo34⟩ := Kd.R_slice HO7005.out
          (first | subst eo34 | (injection eo34 with f1_ f2_ f3_; have f4_ := f1_.symm; have f5_ := f3_.symm; clear f1_ f2_ f3_; subst f4_; subst f5_))
          refine hK.out _ _ ⟨bc BK7001 0, bc BK7001 1, bc BK7001 2, bc BK7001 3, bc BK7001 4, bc BK7001 5⟩ (fun hHeld => ?_)
          clear hK K
          refine nrm (some 5) ?_
          refine one_ (i := 3) (N := some 6) #[true, true, true, true, true, true, true, false, false, false, false, false] rfl rfl (one_of HT_.out (by kernel_rfl)) (by decide) (fun K hK => ?_)
          refine goes_ Try.func43 (by kernel_rfl) rfl #[.slice Ao34 y7003.length co34] (by rfl) rfl rfl pa ?_
          with_reducible refine (ints_Join.calls k _ _ y7003 false t7007 t7008 _ ?side1 ?side2 A2.out).mono ?_
          (case side1 => repeat (first | exact (Kd.R_reads' HO7005.out).2.2 | (with_reducible refine Kd.C_alloc ?_ _) | (with_reducible refine Kd.C_drewN ?_ _) | (with_reducible refine Kd.C_drew ?_)))
          (case side2 => exact (Kd.R_reads' HO7005.out).2.1)
          rintro e w35 ⟨rfl, hb⟩
          refine ⟨_, rfl, ?_⟩
          have n0_ := Aside0.mk (Kd.R_below (by (with_reducible repeat (first | apply Kd.R_alloc | apply Kd.R_drewN | apply Kd.R_drew)); exact HO7011.out) hb)
          have n1_ := Aside0.mk (Kd.R_below (by (with_reducible repeat (first | apply Kd.R_alloc | apply Kd.R_drewN | apply Kd.R_drew)); exact HO7005.out) hb)
          have n2_ := kb BK7001 hb
          have n3_ := kb BK7002 hb
          have n4_ := kh HB hb
          clear HO7011
          clear HO7005
          clear BK7001
          clear BK7002
          clear HB
          have HO7011 := n0_
          have HO7005 := n1_
          have BK7001 := n2_
          have BK7002 := n3_
          have HB := n4_
          clear n0_ n1_ n2_ n3_ n4_
          (try clear hb)
          (try clear hb2)
          (try clear hk)
          (try clear hi)
          refine hK.out _ _ ⟨bc BK7001 0, bc BK7001 1, bc BK7001 2, bc BK7001 3, bc BK7001 4, bc BK7001 5⟩ (fun hHeld => ?_)
          clear hK K
          refine nrm (some 6) ?_
          refine pur 8 (some 11) #[true, true, true, true, true, true, true, false, true, false, false, false] (any_of HT_.out (by kernel_rfl)) ?_
          exact norm_ (by simp only [putAll, Act.put, List.setIfInBounds_toArray, List.set_cons_zero, List.set_cons_succ]) (hCont (.slice Ao34 y7003.length co34, v7010) _ ⟨hHeld, (by (with_reducible repeat (first | apply Kd.R_alloc | apply Kd.R_drewN | apply Kd.R_drew)); exact Kd.R_mono HO7005.out (fun _ hk => hk.2)), (by (with_reducible repeat (first | apply Kd.R_alloc | apply Kd.R_drewN | apply Kd.R_drew)); exact Kd.R_mono HO7011.out (fun _ hk => hk.2)), (pk BK7001), (pk BK7002), (pl HB)⟩)
      rintro ⟨v7004, v7010⟩ w36 ⟨hS_, h0_, h1_, h2_, h3_, h4_⟩
      have n0_ : Aside0 (Kd.R k23 23 w36 w.heap.size (fun k_ => some k_ ≠ (v7010 : Value).ownBlock) v7004 y7003) := ⟨h0_⟩
      have n1_ : Aside0 (Kd.R k23 23 w36 w.heap.size (fun k_ => some k_ ≠ (v7004 : Value).ownBlock) v7010 y7009) := ⟨h1_⟩
      have n2_ : Aside0 (w36.heap[gb7001]? = some (.cells #[.bool a0_0, .int .i64 a0_1, .int .i64 a0_2, .bool a0_3, .int .i64 a0_4, .int .i64 a0_5] 25 (0, 0))) := ⟨h2_⟩
      have n3_ : Aside0 (w36.heap[gb7002]? = some (.cells #[.bool false, .int .i64 0, .int .i64 0, .bool false, .int .i64 0, .int .i64 0] 25 (0, 0))) := ⟨h3_⟩
      have n4_ : Aside0 (Below w.heap.size w w36) := ⟨h4_⟩
      clear BK7001
      clear BK7002
      clear HB
      clear h0_ h1_ h2_ h3_ h4_
      have HO7005 := n0_
      have HO7011 := n1_
      have BK7001 := n2_
      have BK7002 := n3_
      have HB := n4_
      clear n0_ n1_ n2_ n3_ n4_
      have hHeld : w36.cell? ⟨gb7001, 0, none⟩ = some (.bool a0_0) ∧ w36.cell? ⟨gb7001, 1, none⟩ = some (.int .i64 a0_1) ∧ w36.cell? ⟨gb7001, 2, none⟩ = some (.int .i64 a0_2) ∧ w36.cell? ⟨gb7001, 3, none⟩ = some (.bool a0_3) ∧ w36.cell? ⟨gb7001, 4, none⟩ = some (.int .i64 a0_4) ∧ w36.cell? ⟨gb7001, 5, none⟩ = some (.int .i64 a0_5) := hS_
      obtain ⟨Ao37, co37, eo37⟩ := Kd.R_slice HO7011.out
      (first | subst eo37 | (injection eo37 with f1_ f2_ f3_; have f4_ := f1_.symm; have f5_ := f3_.symm; clear f1_ f2_ f3_; subst f4_; subst f5_))
      refine norm_ (a' := ?_) ?_ ?_
      rotate_left
      · simp only [putAll, Act.put, List.setIfInBounds_toArray, List.set_cons_zero, List.set_cons_succ]
        rfl
      refine one_ (i := 7) (N := some 10) #[true, true, true, true, true, true, true, true, true, false, false, false] rfl rfl (one_of HT_.out (by kernel_rfl)) (by decide) (fun K hK => ?_)
      refine goes_ Try.func43 (by kernel_rfl) rfl #[.slice Ao37 y7009.length co37] (by rfl) rfl rfl pa ?_
      with_reducible refine (ints_Join.calls k _ _ y7009 true t7013 t7014 _ ?side1 ?side2 A3.out).mono ?_
      (case side1 => repeat (first | exact (Kd.R_reads' HO7011.out).2.2 | (with_reducible refine Kd.C_alloc ?_ _) | (with_reducible refine Kd.C_drewN ?_ _) | (with_reducible refine Kd.C_drew ?_)))
      (case side2 => exact (Kd.R_reads' HO7011.out).2.1)
      rintro e w38 ⟨rfl, hb⟩
      refine ⟨_, rfl, ?_⟩
      have n0_ := Aside0.mk (Kd.R_below (by (with_reducible repeat (first | apply Kd.R_alloc | apply Kd.R_drewN | apply Kd.R_drew)); exact HO7005.out) hb)
      have n1_ := Aside0.mk (Kd.R_below (by (with_reducible repeat (first | apply Kd.R_alloc | apply Kd.R_drewN | apply Kd.R_drew)); exact HO7011.out) hb)
      have n2_ := kb BK7001 hb
      have n3_ := kb BK7002 hb
      have n4_ := kh HB hb
      clear HO7005
      clear HO7011
      clear BK7001
      clear BK7002
      clear HB
      have HO7005 := n0_
      have HO7011 := n1_
      have BK7001 := n2_
      have BK7002 := n3_
      have HB := n4_
      clear n0_ n1_ n2_ n3_ n4_
      (try clear hb)
      (try clear hb2)
      (try clear hk)
      (try clear hi)
      refine hK.out _ _ ⟨bc BK7001 0, bc BK7001 1, bc BK7001 2, bc BK7001 3, bc BK7001 4, bc BK7001 5⟩ (fun hHeld => ?_)
      clear hK K
      refine nrm (some 10) ?_
      refine last_ (i := 9) (N := none) #[true, true, true, true, true, true, true, true, true, true, false, false] rfl rfl (one_of HT_.out (by kernel_rfl)) (by decide) (fun K hK => ?_)
      have hs39 : w38.cell? ⟨gb7001, 0, none⟩ = some (.bool a0_0) := bc BK7001 0
      have hfs39 := blk_frozen BK7001.out 0
      have hns39_1 := NB7002_7001.out
      have hms39_1 := NB7001_7002.out
      have hs40 : w38.cell? ⟨gb7001, 1, none⟩ = some (.int .i64 a0_1) := bc BK7001 1
      have hfs40 := blk_frozen BK7001.out 1
      have hs41 : w38.cell? ⟨gb7001, 2, none⟩ = some (.int .i64 a0_2) := bc BK7001 2
      have hfs41 := blk_frozen BK7001.out 2
      refine skip_ (w1 := ?_) (by rfl) rfl ?_ ?_
      rotate_left
      · go_simp
        rfl
      refine hK.out _ _ ?_
      clear hK K
      refine pur 10 (some 12) #[true, true, true, true, true, true, true, true, true, true, true, false] (any_of HT_.out (by kernel_rfl)) ?_
      refine last_ (i := 11) (N := none) #[true, true, true, true, true, true, true, true, true, true, true, true] rfl rfl (one_of HT_.out (by kernel_rfl)) (by decide) (fun K hK => ?_)
      have hs42 : w38.cell? ⟨gb7001, 3, none⟩ = some (.bool a0_3) := bc BK7001 3
      have hfs42 := blk_frozen BK7001.out 3
      have hns42_1 := NB7002_7001.out
      have hms42_1 := NB7001_7002.out
      have hs43 : w38.cell? ⟨gb7001, 4, none⟩ = some (.int .i64 a0_4) := bc BK7001 4
      have hfs43 := blk_frozen BK7001.out 4
      have hs44 : w38.cell? ⟨gb7001, 5, none⟩ = some (.int .i64 a0_5) := bc BK7001 5
      have hfs44 := blk_frozen BK7001.out 5
      refine skip_ (w1 := ?_) (by rfl) rfl ?_ ?_
      rotate_left
      · go_simp
        rfl
      refine hK.out _ _ ?_
      clear hK K
      refine done_ (done_of HT_.out (by kernel_rfl)) ?_
      have hnb45 := NB7001_7002.out
      have hnc45 := NB7002_7001.out
      have ⟨hcz46_0, hcz46_1, hcz46_2, hcz46_3, hcz46_4, hcz46_5, hfz46_0, hfz46_1, hfz46_2, hfz46_3, hfz46_4, hfz46_5⟩ := kz6f BK7001
      have ⟨hcz47_0, hcz47_1, hcz47_2, hcz47_3, hcz47_4, hcz47_5, hfz47_0, hfz47_1, hfz47_2, hfz47_3, hfz47_4, hfz47_5⟩ := kz6f BK7002
      try go_wp2
      refine bodyPost_ret (results_cell_row rfl _ _ gb7002 25 #[.bool true, .int .i64 0, .int .i64 0, .bool true, .int .i64 0, .int .i64 0] (0, 0) _ rfl (pK BK7002) Try.underlying25 rfl (by kernel_rfl)) rfl ?_
      exact ⟨pe, pl HB⟩
    · replace c26 := Bool.eq_false_iff.mpr c26
      subst c26
      rw [if_neg (show ¬ (false = true) by decide)] at H
      simp only [Option.some.injEq, Prod.mk.injEq] at H
      obtain ⟨rfl, rfl, rfl, rfl, rfl, rfl⟩ := H
      go_enter Try.func61, Try.ntmps61
      try go_wp2_with (first | ((with_reducible refine gate_dst (N := 1) rfl ?_); refine kx 1 #[.bool a0_0, .int .i64 a0_1, .int .i64 a0_2, .bool a0_3, .int .i64 a0_4, .int .i64 a0_5] 25 ?_; intro gb7001 hg w48 hbox hb; have BK7001 := Aside0.mk (hbox); have GW7001 := kg HB hg; have GE7001 := kg HB hg; replace HB := kh HB hb; clear hb hbox hg) | ((with_reducible refine gate_dst (N := 2) rfl ?_); refine kx 2 #[.bool false, .int .i64 0, .int .i64 0, .bool false, .int .i64 0, .int .i64 0] 25 ?_; intro gb7002 hg w49 hbox hb; have BK7002 := Aside0.mk (hbox); have GW7002 := kg HB hg; have GE7002 := kg HB hg; have NB7001_7002 := kn BK7001 hg; have NB7002_7001 := km BK7001 hg; replace BK7001 := kb BK7001 hb; replace HB := kh HB hb; clear hb hbox hg))
      replace BK7001 := Aside0.mk (blk_drew BK7001.out)
      replace BK7002 := Aside0.mk (blk_drew BK7002.out)
      replace HB := Aside0.mk (below_drew1 HB.out)
      refine start_ (n := 12) (S := fun w' => w'.cell? ⟨gb7001, 0, none⟩ = some (.bool a0_0) ∧ w'.cell? ⟨gb7001, 1, none⟩ = some (.int .i64 a0_1) ∧ w'.cell? ⟨gb7001, 2, none⟩ = some (.int .i64 a0_2) ∧ w'.cell? ⟨gb7001, 3, none⟩ = some (.bool a0_3) ∧ w'.cell? ⟨gb7001, 4, none⟩ = some (.int .i64 a0_4) ∧ w'.cell? ⟨gb7001, 5, none⟩ = some (.int .i64 a0_5)) (ds := [9, 11]) #[false, false, false, false, false, false, false, false, false, false, false, false] (by kernel_rfl) rfl rfl ⟨bc BK7001 0, bc BK7001 1, bc BK7001 2, bc BK7001 3, bc BK7001 4, bc BK7001 5⟩ (fun hHeld => ?_); refine with_tabW clock_norm.tab1 clock_norm.bits1 (fun HT_ HW_ => ?_)
      generalize w49.drew = w50 at BK7001 BK7002 HB hHeld ⊢
      refine pur 0 (some 3) #[true, false, false, false, false, false, false, false, false, false, false, false] (any_of HT_.out (by kernel_rfl)) ?_
      refine pur 4 (some 7) #[true, false, false, false, true, false, false, false, false, false, false, false] (any_of HT_.out (by kernel_rfl)) ?_
      refine tak 1 (some 4) #[true, true, false, false, true, false, false, false, false, false, false, false] (take_ofW HT_.out HW_.out (by kernel_rfl)) hHeld ?_
      refine tak 5 (some 8) #[true, true, false, false, true, true, false, false, false, false, false, false] (take_ofW HT_.out HW_.out (by kernel_rfl)) hHeld ?_
      refine join_ (σ := Value × Value) 4 #[true, true, true, true, true, true, true, false, true, false, false, false] (fun s_ => [(5, s_.1), (6, .agg #[.bool false, .int .i64 t7007, .int .i64 t7008]), (9, s_.2), (11, .pointer (some ⟨gb7001, 0, none⟩))]) (fun s_ w' => (w'.cell? ⟨gb7001, 0, none⟩ = some (.bool a0_0) ∧ w'.cell? ⟨gb7001, 1, none⟩ = some (.int .i64 a0_1) ∧ w'.cell? ⟨gb7001, 2, none⟩ = some (.int .i64 a0_2) ∧ w'.cell? ⟨gb7001, 3, none⟩ = some (.bool a0_3) ∧ w'.cell? ⟨gb7001, 4, none⟩ = some (.int .i64 a0_4) ∧ w'.cell? ⟨gb7001, 5, none⟩ = some (.int .i64 a0_5)) ∧ (Kd.R k23 23 w' w.heap.size (fun k_ => some k_ ≠ (s_.2 : Value).ownBlock) s_.1 y7003) ∧ (Kd.R k23 23 w' w.heap.size (fun k_ => some k_ ≠ (s_.1 : Value).ownBlock) s_.2 y7009) ∧ (w'.heap[gb7001]? = some (.cells #[.bool a0_0, .int .i64 a0_1, .int .i64 a0_2, .bool a0_3, .int .i64 a0_4, .int .i64 a0_5] 25 (0, 0))) ∧ (w'.heap[gb7002]? = some (.cells #[.bool false, .int .i64 0, .int .i64 0, .bool false, .int .i64 0, .int .i64 0] 25 (0, 0))) ∧ (Below w.heap.size w w')) ?_ ?_
      rotate_left
      · intro hCont
        refine two_ (i := 2) (j := 6) (Ni := some 5) (Nj := some 9) #[true, true, true, false, true, true, false, false, false, false, false, false] #[true, true, false, false, true, true, true, false, false, false, false, false] rfl rfl rfl rfl (two_of HT_.out (by kernel_rfl)) (by decide) (by decide) (fun K hK => ?_) (fun K hK => ?_)
        · skip
          refine Kd.R_lit_step k23 _ 23 ?hg (N := 5) ?hd (xs := ([(⟨a0_0, a0_1, a0_2⟩ : S23)] : List (S23))) (inner := [.bool a0_0, .int .i64 a0_1, .int .i64 a0_2]) (ok := fun _ => True) (okp := fun _ => True) ?hr ?hp (fun _ hk => hk) trivial (Below.refl _ _) (Nat.le_refl _) (by simp) ?_; (case hd => rfl); (case hg => rfl); (case hr => first | (go_simp; done) | (go_simp; rfl)); (case hp => exact (Reps.c3 (show Kd.M k23 _ _ _ (⟨a0_0, a0_1, a0_2⟩ : S23) [.bool a0_0, .int .i64 a0_1, .int .i64 a0_2] from (k23_mkM _ _ _ (⟨a0_0, a0_1, a0_2⟩ : S23) )) (Reps.none _ _)))
          intro v7004 w51 ho52 hb hg_ hnew_
          clear hg_ hnew_
          (first | rw [← Ny7003.out] at ho52 | (simp only [Int.reduceToNat] at ho52; rw [← Ny7003.out] at ho52))
          have HO7005 := Aside0.mk (Kd.R_lower ho52 (below_size (pl HB)))
          replace BK7001 := kb BK7001 hb
          replace BK7002 := kb BK7002 hb
          replace HB := kh HB hb
          clear hb ho52
          obtain ⟨Ao53, co53, eo53⟩ := Kd.R_slice HO7005.out
          (first | subst eo53 | (injection eo53 with f1_ f2_ f3_; have f4_ := f1_.symm; have f5_ := f3_.symm; clear f1_ f2_ f3_; subst f4_; subst f5_))
          refine hK.out _ _ ⟨bc BK7001 0, bc BK7001 1, bc BK7001 2, bc BK7001 3, bc BK7001 4, bc BK7001 5⟩ (fun hHeld => ?_)
          clear hK K
          refine nrm (some 5) ?_
          refine two_ (i := 3) (j := 6) (Ni := some 6) (Nj := some 9) #[true, true, true, true, true, true, false, false, false, false, false, false] #[true, true, true, false, true, true, true, false, false, false, false, false] rfl rfl rfl rfl (two_of HT_.out (by kernel_rfl)) (by decide) (by decide) (fun K hK => ?_) (fun K hK => ?_)
          · skip
            refine goes_ Try.func43 (by kernel_rfl) rfl #[.slice Ao53 y7003.length co53] (by rfl) rfl rfl pa ?_
            with_reducible refine (ints_Join.calls k _ _ y7003 false t7007 t7008 _ ?side1 ?side2 A2.out).mono ?_
            (case side1 => repeat (first | exact (Kd.R_reads' HO7005.out).2.2 | (with_reducible refine Kd.C_alloc ?_ _) | (with_reducible refine Kd.C_drewN ?_ _) | (with_reducible refine Kd.C_drew ?_)))
            (case side2 => exact (Kd.R_reads' HO7005.out).2.1)
            rintro e w54 ⟨rfl, hb⟩
            refine ⟨_, rfl, ?_⟩
            have n0_ := Aside0.mk (Kd.R_below (by (with_reducible repeat (first | apply Kd.R_alloc | apply Kd.R_drewN | apply Kd.R_drew)); exact HO7005.out) hb)
            have n1_ := kb BK7001 hb
            have n2_ := kb BK7002 hb
            have n3_ := kh HB hb
            clear HO7005
            clear BK7001
            clear BK7002
            clear HB
            have HO7005 := n0_
            have BK7001 := n1_
            have BK7002 := n2_
            have HB := n3_
            clear n0_ n1_ n2_ n3_
            (try clear hb)
            (try clear hb2)
            (try clear hk)
            (try clear hi)
            refine hK.out _ _ ⟨bc BK7001 0, bc BK7001 1, bc BK7001 2, bc BK7001 3, bc BK7001 4, bc BK7001 5⟩ (fun hHeld => ?_)
            clear hK K
            refine nrm (some 6) ?_
            refine pur 8 (some 11) #[true, true, true, true, true, true, false, false, true, false, false, false] (any_of HT_.out (by kernel_rfl)) ?_
            refine one_ (i := 6) (N := some 9) #[true, true, true, true, true, true, true, false, true, false, false, false] rfl rfl (one_of HT_.out (by kernel_rfl)) (by decide) (fun K hK => ?_)
            refine Kd.R_lit_step k23 _ 23 ?hg (N := 9) ?hd (xs := ([(⟨a0_3, a0_4, a0_5⟩ : S23)] : List (S23))) (inner := [.bool a0_3, .int .i64 a0_4, .int .i64 a0_5]) (ok := fun _ => True) (okp := fun _ => True) ?hr ?hp (fun _ hk => hk) trivial (Below.refl _ _) (Nat.le_refl _) (by simp) ?_; (case hd => rfl); (case hg => rfl); (case hr => first | (go_simp; done) | (go_simp; rfl)); (case hp => exact (Reps.c3 (show Kd.M k23 _ _ _ (⟨a0_3, a0_4, a0_5⟩ : S23) [.bool a0_3, .int .i64 a0_4, .int .i64 a0_5] from (k23_mkM _ _ _ (⟨a0_3, a0_4, a0_5⟩ : S23) )) (Reps.none _ _)))
            intro v7010 w55 ho56 hb hg_ hnew_
            clear hg_ hnew_
            (first | rw [← Ny7009.out] at ho56 | (simp only [Int.reduceToNat] at ho56; rw [← Ny7009.out] at ho56))
            have n0_ := Aside0.mk (Kd.R_elder' (by (with_reducible repeat (first | apply Kd.R_alloc | apply Kd.R_drewN | apply Kd.R_drew)); exact HO7005.out) (Kd.R_base ho56) hb)
            have n1_ := Aside0.mk (Kd.R_lower (Kd.R_new' ho56 (Kd.R_lt (by (with_reducible repeat (first | apply Kd.R_alloc | apply Kd.R_drewN | apply Kd.R_drew)); exact HO7005.out))) (below_size (pl HB)))
            have n2_ := kb BK7001 hb
            have n3_ := kb BK7002 hb
            have n4_ := kh HB hb
            clear HO7005
            clear BK7001
            clear BK7002
            clear HB
            have HO7005 := n0_
            have HO7011 := n1_
            have BK7001 := n2_
            have BK7002 := n3_
            have HB := n4_
            clear n0_ n1_ n2_ n3_ n4_
            clear hb ho56
            refine hK.out _ _ ⟨bc BK7001 0, bc BK7001 1, bc BK7001 2, bc BK7001 3, bc BK7001 4, bc BK7001 5⟩ (fun hHeld => ?_)
            clear hK K
            refine nrm (some 9) ?_
            exact norm_ (by simp only [putAll, Act.put, List.setIfInBounds_toArray, List.set_cons_zero, List.set_cons_succ]) (hCont (.slice Ao53 y7003.length co53, v7010) _ ⟨hHeld, (by (with_reducible repeat (first | apply Kd.R_alloc | apply Kd.R_drewN | apply Kd.R_drew)); exact Kd.R_mono HO7005.out (fun _ hk => hk.2)), (by (with_reducible repeat (first | apply Kd.R_alloc | apply Kd.R_drewN | apply Kd.R_drew)); exact Kd.R_mono HO7011.out (fun _ hk => hk.2)), (pk BK7001), (pk BK7002), (pl HB)⟩)
          · skip
            refine Kd.R_lit_step k23 _ 23 ?hg (N := 9) ?hd (xs := ([(⟨a0_3, a0_4, a0_5⟩ : S23)] : List (S23))) (inner := [.bool a0_3, .int .i64 a0_4, .int .i64 a0_5]) (ok := fun _ => True) (okp := fun _ => True) ?hr ?hp (fun _ hk => hk) trivial (Below.refl _ _) (Nat.le_refl _) (by simp) ?_; (case hd => rfl); (case hg => rfl); (case hr => first | (go_simp; done) | (go_simp; rfl)); (case hp => exact (Reps.c3 (show Kd.M k23 _ _ _ (⟨a0_3, a0_4, a0_5⟩ : S23) [.bool a0_3, .int .i64 a0_4, .int .i64 a0_5] from (k23_mkM _ _ _ (⟨a0_3, a0_4, a0_5⟩ : S23) )) (Reps.none _ _)))
            intro v7010 w53 ho54 hb hg_ hnew_
            clear hg_ hnew_
            (first | rw [← Ny7009.out] at ho54 | (simp only [Int.reduceToNat] at ho54; rw [← Ny7009.out] at ho54))
            have n0_ := Aside0.mk (Kd.R_elder' (by (with_reducible repeat (first | apply Kd.R_alloc | apply Kd.R_drewN | apply Kd.R_drew)); exact HO7005.out) (Kd.R_base ho54) hb)
            have n1_ := Aside0.mk (Kd.R_lower (Kd.R_new' ho54 (Kd.R_lt (by (with_reducible repeat (first | apply Kd.R_alloc | apply Kd.R_drewN | apply Kd.R_drew)); exact HO7005.out))) (below_size (pl HB)))
            have n2_ := kb BK7001 hb
            have n3_ := kb BK7002 hb
            have n4_ := kh HB hb
            clear HO7005
            clear BK7001
            clear BK7002
            clear HB
            have HO7005 := n0_
            have HO7011 := n1_
            have BK7001 := n2_
            have BK7002 := n3_
            have HB := n4_
            clear n0_ n1_ n2_ n3_ n4_
            clear hb ho54
            obtain ⟨Ao55, co55, eo55⟩ := Kd.R_slice HO7005.out
            (first | subst eo55 | (injection eo55 with f1_ f2_ f3_; have f4_ := f1_.symm; have f5_ := f3_.symm; clear f1_ f2_ f3_; subst f4_; subst f5_))
            refine hK.out _ _ ⟨bc BK7001 0, bc BK7001 1, bc BK7001 2, bc BK7001 3, bc BK7001 4, bc BK7001 5⟩ (fun hHeld => ?_)
            clear hK K
            refine nrm (some 9) ?_
            refine one_ (i := 3) (N := some 6) #[true, true, true, true, true, true, true, false, false, false, false, false] rfl rfl (one_of HT_.out (by kernel_rfl)) (by decide) (fun K hK => ?_)
            refine goes_ Try.func43 (by kernel_rfl) rfl #[.slice Ao55 y7003.length co55] (by rfl) rfl rfl pa ?_
            with_reducible refine (ints_Join.calls k _ _ y7003 false t7007 t7008 _ ?side1 ?side2 A2.out).mono ?_
            (case side1 => repeat (first | exact (Kd.R_reads' HO7005.out).2.2 | (with_reducible refine Kd.C_alloc ?_ _) | (with_reducible refine Kd.C_drewN ?_ _) | (with_reducible refine Kd.C_drew ?_)))
            (case side2 => exact (Kd.R_reads' HO7005.out).2.1)
            rintro e w56 ⟨rfl, hb⟩
            refine ⟨_, rfl, ?_⟩
            have n0_ := Aside0.mk (Kd.R_below (by (with_reducible repeat (first | apply Kd.R_alloc | apply Kd.R_drewN | apply Kd.R_drew)); exact HO7005.out) hb)
            have n1_ := Aside0.mk (Kd.R_below (by (with_reducible repeat (first | apply Kd.R_alloc | apply Kd.R_drewN | apply Kd.R_drew)); exact HO7011.out) hb)
            have n2_ := kb BK7001 hb
            have n3_ := kb BK7002 hb
            have n4_ := kh HB hb
            clear HO7005
            clear HO7011
            clear BK7001
            clear BK7002
            clear HB
            have HO7005 := n0_
            have HO7011 := n1_
            have BK7001 := n2_
            have BK7002 := n3_
            have HB := n4_
            clear n0_ n1_ n2_ n3_ n4_
            (try clear hb)
            (try clear hb2)
            (try clear hk)
            (try clear hi)
            refine hK.out _ _ ⟨bc BK7001 0, bc BK7001 1, bc BK7001 2, bc BK7001 3, bc BK7001 4, bc BK7001 5⟩ (fun hHeld => ?_)
            clear hK K
            refine nrm (some 6) ?_
            refine pur 8 (some 11) #[true, true, true, true, true, true, true, false, true, false, false, false] (any_of HT_.out (by kernel_rfl)) ?_
            exact norm_ (by simp only [putAll, Act.put, List.setIfInBounds_toArray, List.set_cons_zero, List.set_cons_succ]) (hCont (.slice Ao55 y7003.length co55, v7010) _ ⟨hHeld, (by (with_reducible repeat (first | apply Kd.R_alloc | apply Kd.R_drewN | apply Kd.R_drew)); exact Kd.R_mono HO7005.out (fun _ hk => hk.2)), (by (with_reducible repeat (first | apply Kd.R_alloc | apply Kd.R_drewN | apply Kd.R_drew)); exact Kd.R_mono HO7011.out (fun _ hk => hk.2)), (pk BK7001), (pk BK7002), (pl HB)⟩)
        · skip
          refine Kd.R_lit_step k23 _ 23 ?hg (N := 9) ?hd (xs := ([(⟨a0_3, a0_4, a0_5⟩ : S23)] : List (S23))) (inner := [.bool a0_3, .int .i64 a0_4, .int .i64 a0_5]) (ok := fun _ => True) (okp := fun _ => True) ?hr ?hp (fun _ hk => hk) trivial (Below.refl _ _) (Nat.le_refl _) (by simp) ?_; (case hd => rfl); (case hg => rfl); (case hr => first | (go_simp; done) | (go_simp; rfl)); (case hp => exact (Reps.c3 (show Kd.M k23 _ _ _ (⟨a0_3, a0_4, a0_5⟩ : S23) [.bool a0_3, .int .i64 a0_4, .int .i64 a0_5] from (k23_mkM _ _ _ (⟨a0_3, a0_4, a0_5⟩ : S23) )) (Reps.none _ _)))
          intro v7010 w51 ho52 hb hg_ hnew_
          clear hg_ hnew_
          (first | rw [← Ny7009.out] at ho52 | (simp only [Int.reduceToNat] at ho52; rw [← Ny7009.out] at ho52))
          have HO7011 := Aside0.mk (Kd.R_lower ho52 (below_size (pl HB)))
          replace BK7001 := kb BK7001 hb
          replace BK7002 := kb BK7002 hb
          replace HB := kh HB hb
          clear hb ho52
          refine hK.out _ _ ⟨bc BK7001 0, bc BK7001 1, bc BK7001 2, bc BK7001 3, bc BK7001 4, bc BK7001 5⟩ (fun hHeld => ?_)
          clear hK K
          refine nrm (some 9) ?_
          refine one_ (i := 2) (N := some 5) #[true, true, true, false, true, true, true, false, false, false, false, false] rfl rfl (one_of HT_.out (by kernel_rfl)) (by decide) (fun K hK => ?_)
          refine Kd.R_lit_step k23 _ 23 ?hg (N := 5) ?hd (xs := ([(⟨a0_0, a0_1, a0_2⟩ : S23)] : List (S23))) (inner := [.bool a0_0, .int .i64 a0_1, .int .i64 a0_2]) (ok := fun _ => True) (okp := fun _ => True) ?hr ?hp (fun _ hk => hk) trivial (Below.refl _ _) (Nat.le_refl _) (by simp) ?_; (case hd => rfl); (case hg => rfl); (case hr => first | (go_simp; done) | (go_simp; rfl)); (case hp => exact (Reps.c3 (show Kd.M k23 _ _ _ (⟨a0_0, a0_1, a0_2⟩ : S23) [.bool a0_0, .int .i64 a0_1, .int .i64 a0_2] from (k23_mkM _ _ _ (⟨a0_0, a0_1, a0_2⟩ : S23) )) (Reps.none _ _)))
          intro v7004 w53 ho54 hb hg_ hnew_
          clear hg_ hnew_
          (first | rw [← Ny7003.out] at ho54 | (simp only [Int.reduceToNat] at ho54; rw [← Ny7003.out] at ho54))
          have n0_ := Aside0.mk (Kd.R_elder' (by (with_reducible repeat (first | apply Kd.R_alloc | apply Kd.R_drewN | apply Kd.R_drew)); exact HO7011.out) (Kd.R_base ho54) hb)
          have n1_ := Aside0.mk (Kd.R_lower (Kd.R_new' ho54 (Kd.R_lt (by (with_reducible repeat (first | apply Kd.R_alloc | apply Kd.R_drewN | apply Kd.R_drew)); exact HO7011.out))) (below_size (pl HB)))
          have n2_ := kb BK7001 hb
          have n3_ := kb BK7002 hb
          have n4_ := kh HB hb
          clear HO7011
          clear BK7001
          clear BK7002
          clear HB
          have HO7011 := n0_
          have HO7005 := n1_
          have BK7001 := n2_
          have BK7002 := n3_
          have HB := n4_
          clear n0_ n1_ n2_ n3_ n4_
          clear hb ho54
          obtain ⟨Ao55, co55, eo55⟩ := Kd.R_slice HO7005.out
          (first | subst eo55 | (injection eo55 with f1_ f2_ f3_; have f4_ := f1_.symm; have f5_ := f3_.symm; clear f1_ f2_ f3_; subst f4_; subst f5_))
          refine hK.out _ _ ⟨bc BK7001 0, bc BK7001 1, bc BK7001 2, bc BK7001 3, bc BK7001 4, bc BK7001 5⟩ (fun hHeld => ?_)
          clear hK K
          refine nrm (some 5) ?_
          refine one_ (i := 3) (N := some 6) #[true, true, true, true, true, true, true, false, false, false, false, false] rfl rfl (one_of HT_.out (by kernel_rfl)) (by decide) (fun K hK => ?_)
          refine goes_ Try.func43 (by kernel_rfl) rfl #[.slice Ao55 y7003.length co55] (by rfl) rfl rfl pa ?_
          with_reducible refine (ints_Join.calls k _ _ y7003 false t7007 t7008 _ ?side1 ?side2 A2.out).mono ?_
          (case side1 => repeat (first | exact (Kd.R_reads' HO7005.out).2.2 | (with_reducible refine Kd.C_alloc ?_ _) | (with_reducible refine Kd.C_drewN ?_ _) | (with_reducible refine Kd.C_drew ?_)))
          (case side2 => exact (Kd.R_reads' HO7005.out).2.1)
          rintro e w56 ⟨rfl, hb⟩
          refine ⟨_, rfl, ?_⟩
          have n0_ := Aside0.mk (Kd.R_below (by (with_reducible repeat (first | apply Kd.R_alloc | apply Kd.R_drewN | apply Kd.R_drew)); exact HO7011.out) hb)
          have n1_ := Aside0.mk (Kd.R_below (by (with_reducible repeat (first | apply Kd.R_alloc | apply Kd.R_drewN | apply Kd.R_drew)); exact HO7005.out) hb)
          have n2_ := kb BK7001 hb
          have n3_ := kb BK7002 hb
          have n4_ := kh HB hb
          clear HO7011
          clear HO7005
          clear BK7001
          clear BK7002
          clear HB
          have HO7011 := n0_
          have HO7005 := n1_
          have BK7001 := n2_
          have BK7002 := n3_
          have HB := n4_
          clear n0_ n1_ n2_ n3_ n4_
          (try clear hb)
          (try clear hb2)
          (try clear hk)
          (try clear hi)
          refine hK.out _ _ ⟨bc BK7001 0, bc BK7001 1, bc BK7001 2, bc BK7001 3, bc BK7001 4, bc BK7001 5⟩ (fun hHeld => ?_)
          clear hK K
          refine nrm (some 6) ?_
          refine pur 8 (some 11) #[true, true, true, true, true, true, true, false, true, false, false, false] (any_of HT_.out (by kernel_rfl)) ?_
          exact norm_ (by simp only [putAll, Act.put, List.setIfInBounds_toArray, List.set_cons_zero, List.set_cons_succ]) (hCont (.slice Ao55 y7003.length co55, v7010) _ ⟨hHeld, (by (with_reducible repeat (first | apply Kd.R_alloc | apply Kd.R_drewN | apply Kd.R_drew)); exact Kd.R_mono HO7005.out (fun _ hk => hk.2)), (by (with_reducible repeat (first | apply Kd.R_alloc | apply Kd.R_drewN | apply Kd.R_drew)); exact Kd.R_mono HO7011.out (fun _ hk => hk.2)), (pk BK7001), (pk BK7002), (pl HB)⟩)
      rintro ⟨v7004, v7010⟩ w57 ⟨hS_, h0_, h1_, h2_, h3_, h4_⟩
      have n0_ : Aside0 (Kd.R k23 23 w57 w.heap.size (fun k_ => some k_ ≠ (v7010 : Value).ownBlock) v7004 y7003) := ⟨h0_⟩
      have n1_ : Aside0 (Kd.R k23 23 w57 w.heap.size (fun k_ => some k_ ≠ (v7004 : Value).ownBlock) v7010 y7009) := ⟨h1_⟩
      have n2_ : Aside0 (w57.heap[gb7001]? = some (.cells #[.bool a0_0, .int .i64 a0_1, .int .i64 a0_2, .bool a0_3, .int .i64 a0_4, .int .i64 a0_5] 25 (0, 0))) := ⟨h2_⟩
      have n3_ : Aside0 (w57.heap[gb7002]? = some (.cells #[.bool false, .int .i64 0, .int .i64 0, .bool false, .int .i64 0, .int .i64 0] 25 (0, 0))) := ⟨h3_⟩
      have n4_ : Aside0 (Below w.heap.size w w57) := ⟨h4_⟩
      clear BK7001
      clear BK7002
      clear HB
      clear h0_ h1_ h2_ h3_ h4_
      have HO7005 := n0_
      have HO7011 := n1_
      have BK7001 := n2_
      have BK7002 := n3_
      have HB := n4_
      clear n0_ n1_ n2_ n3_ n4_
      have hHeld : w57.cell? ⟨gb7001, 0, none⟩ = some (.bool a0_0) ∧ w57.cell? ⟨gb7001, 1, none⟩ = some (.int .i64 a0_1) ∧ w57.cell? ⟨gb7001, 2, none⟩ = some (.int .i64 a0_2) ∧ w57.cell? ⟨gb7001, 3, none⟩ = some (.bool a0_3) ∧ w57.cell? ⟨gb7001, 4, none⟩ = some (.int .i64 a0_4) ∧ w57.cell? ⟨gb7001, 5, none⟩ = some (.int .i64 a0_5) := hS_
      obtain ⟨Ao58, co58, eo58⟩ := Kd.R_slice HO7011.out
      (first | subst eo58 | (injection eo58 with f1_ f2_ f3_; have f4_ := f1_.symm; have f5_ := f3_.symm; clear f1_ f2_ f3_; subst f4_; subst f5_))
      refine norm_ (a' := ?_) ?_ ?_
      rotate_left
      · simp only [putAll, Act.put, List.setIfInBounds_toArray, List.set_cons_zero, List.set_cons_succ]
        rfl
      refine one_ (i := 7) (N := some 10) #[true, true, true, true, true, true, true, true, true, false, false, false] rfl rfl (one_of HT_.out (by kernel_rfl)) (by decide) (fun K hK => ?_)
      refine goes_ Try.func43 (by kernel_rfl) rfl #[.slice Ao58 y7009.length co58] (by rfl) rfl rfl pa ?_
      with_reducible refine (ints_Join.calls k _ _ y7009 false t7013 t7014 _ ?side1 ?side2 A3.out).mono ?_
      (case side1 => repeat (first | exact (Kd.R_reads' HO7011.out).2.2 | (with_reducible refine Kd.C_alloc ?_ _) | (with_reducible refine Kd.C_drewN ?_ _) | (with_reducible refine Kd.C_drew ?_)))
      (case side2 => exact (Kd.R_reads' HO7011.out).2.1)
      rintro e w59 ⟨rfl, hb⟩
      refine ⟨_, rfl, ?_⟩
      have n0_ := Aside0.mk (Kd.R_below (by (with_reducible repeat (first | apply Kd.R_alloc | apply Kd.R_drewN | apply Kd.R_drew)); exact HO7005.out) hb)
      have n1_ := Aside0.mk (Kd.R_below (by (with_reducible repeat (first | apply Kd.R_alloc | apply Kd.R_drewN | apply Kd.R_drew)); exact HO7011.out) hb)
      have n2_ := kb BK7001 hb
      have n3_ := kb BK7002 hb
      have n4_ := kh HB hb
      clear HO7005
      clear HO7011
      clear BK7001
      clear BK7002
      clear HB
      have HO7005 := n0_
      have HO7011 := n1_
      have BK7001 := n2_
      have BK7002 := n3_
      have HB := n4_
      clear n0_ n1_ n2_ n3_ n4_
      (try clear hb)
      (try clear hb2)
      (try clear hk)
      (try clear hi)
      refine hK.out _ _ ⟨bc BK7001 0, bc BK7001 1, bc BK7001 2, bc BK7001 3, bc BK7001 4, bc BK7001 5⟩ (fun hHeld => ?_)
      clear hK K
      refine nrm (some 10) ?_
      refine last_ (i := 9) (N := none) #[true, true, true, true, true, true, true, true, true, true, false, false] rfl rfl (one_of HT_.out (by kernel_rfl)) (by decide) (fun K hK => ?_)
      have hs60 : w59.cell? ⟨gb7001, 0, none⟩ = some (.bool a0_0) := bc BK7001 0
      have hfs60 := blk_frozen BK7001.out 0
      have hns60_1 := NB7002_7001.out
      have hms60_1 := NB7001_7002.out
      have hs61 : w59.cell? ⟨gb7001, 1, none⟩ = some (.int .i64 a0_1) := bc BK7001 1
      have hfs61 := blk_frozen BK7001.out 1
      have hs62 : w59.cell? ⟨gb7001, 2, none⟩ = some (.int .i64 a0_2) := bc BK7001 2
      have hfs62 := blk_frozen BK7001.out 2
      refine skip_ (w1 := ?_) (by rfl) rfl ?_ ?_
      rotate_left
      · go_simp
        rfl
      refine hK.out _ _ ?_
      clear hK K
      refine pur 10 (some 12) #[true, true, true, true, true, true, true, true, true, true, true, false] (any_of HT_.out (by kernel_rfl)) ?_
      refine last_ (i := 11) (N := none) #[true, true, true, true, true, true, true, true, true, true, true, true] rfl rfl (one_of HT_.out (by kernel_rfl)) (by decide) (fun K hK => ?_)
      have hs63 : w59.cell? ⟨gb7001, 3, none⟩ = some (.bool a0_3) := bc BK7001 3
      have hfs63 := blk_frozen BK7001.out 3
      have hns63_1 := NB7002_7001.out
      have hms63_1 := NB7001_7002.out
      have hs64 : w59.cell? ⟨gb7001, 4, none⟩ = some (.int .i64 a0_4) := bc BK7001 4
      have hfs64 := blk_frozen BK7001.out 4
      have hs65 : w59.cell? ⟨gb7001, 5, none⟩ = some (.int .i64 a0_5) := bc BK7001 5
      have hfs65 := blk_frozen BK7001.out 5
      refine skip_ (w1 := ?_) (by rfl) rfl ?_ ?_
      rotate_left
      · go_simp
        rfl
      refine hK.out _ _ ?_
      clear hK K
      refine done_ (done_of HT_.out (by kernel_rfl)) ?_
      have hnb66 := NB7001_7002.out
      have hnc66 := NB7002_7001.out
      have ⟨hcz67_0, hcz67_1, hcz67_2, hcz67_3, hcz67_4, hcz67_5, hfz67_0, hfz67_1, hfz67_2, hfz67_3, hfz67_4, hfz67_5⟩ := kz6f BK7001
      have ⟨hcz68_0, hcz68_1, hcz68_2, hcz68_3, hcz68_4, hcz68_5, hfz68_0, hfz68_1, hfz68_2, hfz68_3, hfz68_4, hfz68_5⟩ := kz6f BK7002
      try go_wp2
      refine bodyPost_ret (results_cell_row rfl _ _ gb7002 25 #[.bool false, .int .i64 t7007, .int .i64 t7008, .bool false, .int .i64 t7013, .int .i64 t7014] (0, 0) _ rfl (pK BK7002) Try.underlying25 rfl (by kernel_rfl)) rfl ?_
      exact ⟨pe, pl HB⟩
end Go.Proofs.Ytinmgnlofininaa.PAll
end
