/- Functions of the print, turned to this claim. -/
import Derived.Test.YtdchdapllehppaaZDW
import Derived.Test.YtdchdapllehppaaZDx0
import Derived.Test.YtdchdapllehppaaZDx13
section
namespace Go.Proofs.Ytdchdapllehppaa.PAll
open Go.RowKit Go.Proofs.YtdchdapllehppaaW.PrintWords Go.Proofs.YtdchdapllehppaaW.PrintLast Go.Proofs.YtdchdapllehppaaW.PrintMore
attribute [local go_sem] max2_int min2_int max_two min_two max_three min_three max_four min_four   -- for this text's walks alone
set_option linter.unusedVariables false
set_option linter.unusedSimpArgs false
/-! ### flyballref01_Div: function 14 -/
def flyballref01_Div.l0 : Nat → List Bool → List Bool → List Bool → List Bool → Int → Option (List Bool × List Bool)
  | 0, _, _, _, _, _ => none
  | k + 1, x0, x1, x6, x7, x8 => if x8 ≥ 0 then (if 0 ≤ x8 then (if x8 < (x0.length : Int) then ((some (([rdOf false x0 x8] : List Bool) : List Bool)).bind fun y4605 => (if y4605.length + x7.length < 140737488355328 then ((some (y4605 ++ x7 : List Bool)).bind fun y4608 => ((flyballref01_Cmp.f k y4608 x1).bind fun t4611 => (if t4611 ≥ 0 then ((flyballref01_Sub.f k y4608 x1 (y4608.length : Int)).bind fun bt4612 => (if x8 < (x6.length : Int) then ((flyballref01_Len.f k bt4612.1).bind fun t4617 => (if 0 ≤ t4617 then (if t4617 ≤ (bt4612.1.length : Int) then (flyballref01_Div.l0 k x0 x1 (x6.set (x8 : Int).toNat true) (bt4612.1.take (t4617 : Int).toNat) (wrap64 (x8 - 1))) else (none)) else (none))) else (none))) else ((flyballref01_Len.f k y4608).bind fun t4621 => (if 0 ≤ t4621 then (if t4621 ≤ (y4608.length : Int) then (flyballref01_Div.l0 k x0 x1 x6 (y4608.take (t4621 : Int).toNat) (wrap64 (x8 - 1))) else (none)) else (none)))))) else (none))) else (none)) else (none)) else (some (x6, x7))
def flyballref01_Div.f (k : Nat) (l0 : List Bool) (l1 : List Bool) : Option (List Bool × List Bool) := if 0 ≤ (l0.length : Int) then (if ((l0.length : Int) : Int).toNat ≤ 281474976710656 then (flyballref01_Div.l0 k l0 l1 (List.replicate ((l0.length : Int) : Int).toNat false) ([] : List Bool) (wrap64 ((l0.length : Int) - 1))) else (none)) else (none)
theorem flyballref01_Div.mono_l : ∀ k, (∀ y0 y1 y2 y3 y4, LeO (flyballref01_Div.l0 k y0 y1 y2 y3 y4) (flyballref01_Div.l0 (k + 1) y0 y1 y2 y3 y4))
  | 0 => fun _ _ _ _ _ r h => by simp [flyballref01_Div.l0] at h
  | k + 1 => by
    have ih0 := flyballref01_Div.mono_l k
    · intro y0 y1 y2 y3 y4
      unfold flyballref01_Div.l0
      repeat' first
      | (with_reducible exact ih0 _ _ _ _ _)
      | (with_reducible exact flyballref01_Cmp.mono _ _ _)
      | (with_reducible exact flyballref01_Len.mono _ _)
      | (with_reducible exact flyballref01_Sub.mono _ _ _ _)
      | (with_reducible exact LeO.refl _)
      | (with_reducible exact LeO.none _)
      | (with_reducible refine LeO.ite ?_ ?_)
      | (with_reducible refine LeO.bind ?_ (fun _ => ?_))
      | exact ih0 _ _ _ _ _
      | exact flyballref01_Cmp.mono _ _ _
      | exact flyballref01_Len.mono _ _
      | exact flyballref01_Sub.mono _ _ _ _
      | exact LeO.none _
      | refine LeO.ite ?_ ?_
      | refine LeO.bind ?_ (fun _ => ?_)
theorem flyballref01_Div.mono : ∀ a0 a1 k, LeO (flyballref01_Div.f k a0 a1) (flyballref01_Div.f (k + 1) a0 a1) := by
  intro a0 a1 k
  have ih0 := flyballref01_Div.mono_l k
  unfold flyballref01_Div.f
  repeat' first
      | (with_reducible exact ih0 _ _ _ _ _)
      | (with_reducible exact flyballref01_Cmp.mono _ _ _)
      | (with_reducible exact flyballref01_Len.mono _ _)
      | (with_reducible exact flyballref01_Sub.mono _ _ _ _)
      | (with_reducible exact LeO.refl _)
      | (with_reducible exact LeO.none _)
      | (with_reducible refine LeO.ite ?_ ?_)
      | (with_reducible refine LeO.bind ?_ (fun _ => ?_))
      | exact ih0 _ _ _ _ _
      | exact flyballref01_Cmp.mono _ _ _
      | exact flyballref01_Len.mono _ _
      | exact flyballref01_Sub.mono _ _ _ _
      | exact LeO.none _
      | refine LeO.ite ?_ ?_
      | refine LeO.bind ?_ (fun _ => ?_)
set_option maxHeartbeats 8000000 in
set_option maxRecDepth 100000 in
theorem flyballref01_Div.calls (k : Nat) (A0 : Option Addr) (c0 : Nat) (l0 : List Bool) (A1 : Option Addr) (c1 : Nat) (l1 : List Bool) (r1 : List Bool) (r2 : List Bool) (w : World) (hr0 : Kd.C Kd.bool w A0 l0.length l0) (hc0 : l0.length ≤ c0) (hr1 : Kd.C Kd.bool w A1 l1.length l1) (hc1 : l1.length ≤ c1) (h : flyballref01_Div.f k l0 l1 = some (r1, r2)) :
    Calls Try.prog 14 #[.slice A0 l0.length c0, .slice A1 l1.length c1] w fun e w' => ∃ v0_ v1_ : Value, e = .returned (.tuple #[v0_, v1_]) ∧ Kd.R Kd.bool 4 w' w.heap.size (fun k_ => some k_ ≠ (v1_ : Value).ownBlock) v0_ r1 ∧ Kd.R Kd.bool 4 w' w.heap.size (fun k_ => some k_ ≠ (v0_ : Value).ownBlock) v1_ r2 ∧ Below w.heap.size w w' := by
  have HR0 := Aside0.mk hr0
  have HC0 := Aside0.mk hc0
  clear hr0 hc0
  have HR1 := Aside0.mk hr1
  have HC1 := Aside0.mk hc1
  clear hr1 hc1
  have HB := Aside0.mk (Below.refl w.heap.size w)
  have H := h
  clear h
  unfold flyballref01_Div.f at H
  by_cases c3 : 0 ≤ (l0.length : Int)
  · rw [if_pos c3] at H
    have c3b0 := eq_true c3
    have c3b1 : decide (0 ≤ (l0.length : Int)) = true := decide_eq_true c3
    clear c3
    by_cases c4 : ((l0.length : Int) : Int).toNat ≤ 281474976710656
    · rw [if_pos c4] at H
      have c4b0 := eq_true c4
      have c4b1 : decide (((l0.length : Int) : Int).toNat ≤ 281474976710656) = true := decide_eq_true c4
      clear c4
      obtain ⟨y4601, hy4601⟩ : ∃ y_ : List Bool, y_ = (List.replicate ((l0.length : Int) : Int).toNat false) := ⟨_, rfl⟩
      replace H : (flyballref01_Div.l0 k l0 l1 y4601 ([] : List Bool) (wrap64 ((l0.length : Int) - 1))) = some (r1, r2) := by first | (rw [hy4601]; with_reducible exact H) | (have H2_ := (Option.bind_some _ _).symm.trans H; rw [hy4601]; with_reducible exact H2_) | (have H2_ := (Option.bind_some _ _).symm.trans H; with_reducible exact H2_) | with_reducible exact H | (rw [hy4601]; exact H) | exact H
      have Ny4601 := Aside0.mk hy4601
      clear hy4601
      have H' := Aside0.mk H
      clear H
      go_enter Try.func14, Try.ntmps14
      go_wp2_with (first | ((with_reducible refine gate_dst (N := 12) rfl ?_); refine Kd.R_make Kd.bool _ 4 rfl (N := 12) rfl 32 _ _ rfl (l0.length : Int) rfl rfl Try.underlying32 (.bool false) 1 info4 rfl (by decide) (by omega) false (ok := fun _ => True) (okp := fun _ => True) rfl (fun _ hk => hk) trivial (of_decide_eq_true (by first | (with_reducible assumption) | assumption)) (Nat.le_trans (Nat.mul_le_mul_right _ (of_decide_eq_true (by first | (with_reducible assumption) | assumption) : (l0.length : Int).toNat ≤ 281474976710656)) (by omega)) (Below.refl _ _) (Nat.le_refl _) ?_; intro v4602 w5 ho6 hb hg_ hnew_; clear hg_ hnew_; (first | rw [← Ny4601.out] at ho6 | (simp only [Int.reduceToNat] at ho6; rw [← Ny4601.out] at ho6)); have HO4603 := Aside0.mk (Kd.R_lower ho6 (below_size (pl HB))); replace HB := kh HB hb; clear hb ho6))
      go_loopg [7, 8] k (fun kq v7 v8 w' => ∃ (x6_1 : List Bool) (x7_1 : List Bool) (x8_1 : Int), v8 = .int .i64 x8_1 ∧ Aside0 (flyballref01_Div.l0 kq l0 l1 x6_1 x7_1 x8_1 = some (r1, r2)) ∧ Aside0 (kq ≤ k) ∧ Aside0 (Kd.R Kd.bool 4 w' w.heap.size (fun k_ => some k_ ≠ (v7 : Value).ownBlock) v4602 x6_1) ∧ Aside0 (Kd.R Kd.bool 4 w' w.heap.size (fun k_ => some k_ ≠ (v4602 : Value).ownBlock) v7 x7_1) ∧ Aside0 (Below w.heap.size w w'))
      case atStart => exact ⟨(y4601), (([] : List Bool)), (wrap64 ((l0.length : Int) - 1)), (by first | rfl | (simp; done) | (simp [*]; done)), H', ⟨Nat.le_refl _⟩, ⟨by (with_reducible repeat (first | apply Kd.R_alloc | apply Kd.R_drewN | apply Kd.R_drew)); exact Kd.R_mono HO4603.out (fun _ hk => (by simp [Value.ownBlock]))⟩, ⟨by first | exact Kd.R_nil _ _ _ _ _ | exact Kd.N_nil _ _ _ _ _ | exact Kd.V_nil _ _ _ _ _ | exact Kd.Q_nil _ _ _ _ _ | exact Kd.S_nil _ _ _ _ _⟩, ⟨pl HB⟩⟩
      case round =>
        clear H'
        try clear c1
        try clear p2
        try clear c3
        try clear c3b0
        try clear c3b1
        try clear c4
        try clear c4b0
        try clear c4b1
        try clear p6
        obtain ⟨x6_1, x7_1, x8_1, rfl, HA, HK1, HO_6, HO_7, HB⟩ := hrel
        cases gk with
        | zero => exact absurd HA.out (by simp [flyballref01_Div.l0])
        | succ k1 =>
          have H := HA.out
          clear HA
          simp only [flyballref01_Div.l0] at H
          by_cases c7 : x8_1 ≥ 0
          · rw [if_pos c7] at H
            have c7b0 : decide (0 ≤ x8_1) = true := decide_eq_true c7
            clear c7
            by_cases c8 : 0 ≤ x8_1
            · rw [if_pos c8] at H
              have c8b0 : decide (0 ≤ x8_1) = true := decide_eq_true c8
              clear c8
              by_cases c9 : x8_1 < (l0.length : Int)
              · rw [if_pos c9] at H
                have c9b0 : decide (x8_1 < (l0.length : Int)) = true := decide_eq_true c9
                clear c9
                obtain ⟨y4605, hy4605⟩ : ∃ y_ : List Bool, y_ = (([rdOf false l0 x8_1] : List Bool)) := ⟨_, rfl⟩
                replace H : (if y4605.length + x7_1.length < 140737488355328 then ((some (y4605 ++ x7_1 : List Bool)).bind fun y4608 => ((flyballref01_Cmp.f k1 y4608 l1).bind fun t4611 => (if t4611 ≥ 0 then ((flyballref01_Sub.f k1 y4608 l1 (y4608.length : Int)).bind fun bt4612 => (if x8_1 < (x6_1.length : Int) then ((flyballref01_Len.f k1 bt4612.1).bind fun t4617 => (if 0 ≤ t4617 then (if t4617 ≤ (bt4612.1.length : Int) then (flyballref01_Div.l0 k1 l0 l1 (x6_1.set (x8_1 : Int).toNat true) (bt4612.1.take (t4617 : Int).toNat) (wrap64 (x8_1 - 1))) else (none)) else (none))) else (none))) else ((flyballref01_Len.f k1 y4608).bind fun t4621 => (if 0 ≤ t4621 then (if t4621 ≤ (y4608.length : Int) then (flyballref01_Div.l0 k1 l0 l1 x6_1 (y4608.take (t4621 : Int).toNat) (wrap64 (x8_1 - 1))) else (none)) else (none)))))) else (none)) = some (r1, r2) := by first | (rw [hy4605]; with_reducible exact H) | (have H2_ := (Option.bind_some _ _).symm.trans H; rw [hy4605]; with_reducible exact H2_) | (have H2_ := (Option.bind_some _ _).symm.trans H; with_reducible exact H2_) | with_reducible exact H | (rw [hy4605]; exact H) | exact H
                have Ny4605 := Aside0.mk hy4605
                clear hy4605
                by_cases c10 : y4605.length + x7_1.length < 140737488355328
                · rw [if_pos c10] at H
                  have LMc10 := Aside0.mk c10
                  clear c10
                  obtain ⟨y4608, hy4608⟩ : ∃ y_ : List Bool, y_ = (y4605 ++ x7_1) := ⟨_, rfl⟩
                  replace H : ((flyballref01_Cmp.f k1 y4608 l1).bind fun t4611 => (if t4611 ≥ 0 then ((flyballref01_Sub.f k1 y4608 l1 (y4608.length : Int)).bind fun bt4612 => (if x8_1 < (x6_1.length : Int) then ((flyballref01_Len.f k1 bt4612.1).bind fun t4617 => (if 0 ≤ t4617 then (if t4617 ≤ (bt4612.1.length : Int) then (flyballref01_Div.l0 k1 l0 l1 (x6_1.set (x8_1 : Int).toNat true) (bt4612.1.take (t4617 : Int).toNat) (wrap64 (x8_1 - 1))) else (none)) else (none))) else (none))) else ((flyballref01_Len.f k1 y4608).bind fun t4621 => (if 0 ≤ t4621 then (if t4621 ≤ (y4608.length : Int) then (flyballref01_Div.l0 k1 l0 l1 x6_1 (y4608.take (t4621 : Int).toNat) (wrap64 (x8_1 - 1))) else (none)) else (none))))) = some (r1, r2) := by first | (rw [hy4608]; with_reducible exact H) | (have H2_ := (Option.bind_some _ _).symm.trans H; rw [hy4608]; with_reducible exact H2_) | (have H2_ := (Option.bind_some _ _).symm.trans H; with_reducible exact H2_) | with_reducible exact H | (rw [hy4608]; exact H) | exact H
                  have Ny4608 := Aside0.mk hy4608
                  clear hy4608
                  obtain ⟨t4611, A110, H⟩ := Option.bind_eq_some_iff.mp H
                  have A11 := Aside0.mk A110
                  clear A110
                  (try dsimp only at H)
                  by_cases c12 : t4611 ≥ 0
                  · rw [if_pos c12] at H
                    have c12b0 : decide (0 ≤ t4611) = true := decide_eq_true c12
                    clear c12
                    obtain ⟨⟨t4612, t4613⟩, A130, H⟩ := Option.bind_eq_some_iff.mp H
                    have A13 := Aside0.mk A130
                    clear A130
                    (try dsimp only at H)
                    by_cases c14 : x8_1 < (x6_1.length : Int)
                    · rw [if_pos c14] at H
                      have c14b0 : decide (x8_1 < (x6_1.length : Int)) = true := decide_eq_true c14
                      clear c14
                      obtain ⟨y4616, hy4616⟩ : ∃ y_ : List Bool, y_ = (x6_1.set (x8_1 : Int).toNat true) := ⟨_, rfl⟩
                      replace H : ((flyballref01_Len.f k1 t4612).bind fun t4617 => (if 0 ≤ t4617 then (if t4617 ≤ (t4612.length : Int) then (flyballref01_Div.l0 k1 l0 l1 y4616 (t4612.take (t4617 : Int).toNat) (wrap64 (x8_1 - 1))) else (none)) else (none))) = some (r1, r2) := by first | (rw [hy4616]; with_reducible exact H) | (have H2_ := (Option.bind_some _ _).symm.trans H; rw [hy4616]; with_reducible exact H2_) | (have H2_ := (Option.bind_some _ _).symm.trans H; with_reducible exact H2_) | with_reducible exact H | (rw [hy4616]; exact H) | exact H
                      have Ny4616 := Aside0.mk hy4616
                      clear hy4616
                      obtain ⟨t4617, A160, H⟩ := Option.bind_eq_some_iff.mp H
                      have A16 := Aside0.mk A160
                      clear A160
                      (try dsimp only at H)
                      by_cases c17 : 0 ≤ t4617
                      · rw [if_pos c17] at H
                        have c17b0 := eq_true c17
                        have c17b1 : decide (0 ≤ t4617) = true := decide_eq_true c17
                        clear c17
                        by_cases c18 : t4617 ≤ (t4612.length : Int)
                        · rw [if_pos c18] at H
                          have c18b0 := eq_true c18
                          have c18b1 : decide (t4617 ≤ (t4612.length : Int)) = true := decide_eq_true c18
                          clear c18
                          obtain ⟨y4618, hy4618⟩ : ∃ y_ : List Bool, y_ = (t4612.take (t4617 : Int).toNat) := ⟨_, rfl⟩
                          replace H : (flyballref01_Div.l0 k1 l0 l1 y4616 y4618 (wrap64 (x8_1 - 1))) = some (r1, r2) := by first | (rw [hy4618]; with_reducible exact H) | (have H2_ := (Option.bind_some _ _).symm.trans H; rw [hy4618]; with_reducible exact H2_) | (have H2_ := (Option.bind_some _ _).symm.trans H; with_reducible exact H2_) | with_reducible exact H | (rw [hy4618]; exact H) | exact H
                          have Ny4618 := Aside0.mk hy4618
                          clear hy4618
                          have H' := Aside0.mk H
                          clear H
                          have p4604 : 0 ≤ (x8_1 : Int) := of_decide_eq_true (by first | (with_reducible assumption) | assumption)
                          have q4604 : x8_1 < (l0.length : Int) := of_decide_eq_true (by first | (with_reducible assumption) | assumption)
                          obtain ⟨ad4604, e4604, hx4604_0⟩ := Kd.at_bool HR0.out x8_1 p4604 q4604
                          cases e4604
                          replace hx4604_0 := (HB.out.cell (World.block_lt_of_cell? w _ hx4604_0)).trans hx4604_0
                          replace p4604 := eq_true p4604
                          replace q4604 := eq_true q4604
                          go_wp2_with (first | ((with_reducible refine gate_dst (N := 24) rfl ?_); refine Kd.R_lit Kd.bool _ 4 ?hg (N := 24) ?hd (xs := ([rdOf false l0 x8_1] : List Bool)) (inner := [.bool (rdOf false l0 x8_1)]) (ok := fun _ => True) (okp := fun _ => True) ?hr ?hp (fun _ hk => hk) trivial (Below.refl _ _) (Nat.le_refl _) (by simp) ?_; (case hd => rfl); (case hg => rfl); (case hr => first | (go_simp; done) | (go_simp; rfl)); (case hp => exact (Reps.one (show Kd.M Kd.bool _ _ _ (rdOf false l0 x8_1) [.bool (rdOf false l0 x8_1)] from rfl) (Reps.none _ _))); intro v4606 w19 ho20 hb hg_ hnew_; clear hg_ hnew_; (first | rw [← Ny4605.out] at ho20 | (simp only [Int.reduceToNat] at ho20; rw [← Ny4605.out] at ho20)); have n0_ := Aside0.mk (Kd.R_elder' (by (with_reducible repeat (first | apply Kd.R_alloc | apply Kd.R_drewN | apply Kd.R_drew)); exact HO_6.out) (Kd.R_base ho20) hb); have n1_ := Aside0.mk (Kd.R_elder' (by (with_reducible repeat (first | apply Kd.R_alloc | apply Kd.R_drewN | apply Kd.R_drew)); exact HO_7.out) (Kd.R_base ho20) hb); have n2_ := Aside0.mk (Kd.R_lower (Kd.R_new' (Kd.R_new' ho20 (Kd.R_lt (by (with_reducible repeat (first | apply Kd.R_alloc | apply Kd.R_drewN | apply Kd.R_drew)); exact HO_6.out))) (Kd.R_lt (by (with_reducible repeat (first | apply Kd.R_alloc | apply Kd.R_drewN | apply Kd.R_drew)); exact HO_7.out))) (below_size (pl HB))); have n3_ := kh HB hb; clear HO_6; clear HO_7; clear HB; have HO_6 := n0_; have HO_7 := n1_; have HO4607 := n2_; have HB := n3_; clear n0_ n1_ n2_ n3_; clear hb ho20; obtain ⟨Ao22, co22, eo22⟩ := Kd.R_slice HO_7.out; subst eo22) | ((with_reducible refine gate_builtin (b := .append) (xs := #[.tmp 25, .tmp 26]) rfl ?_); at_builtin; refine Kd.R_append_rows Kd.bool (w0 := w) w.heap.size rfl (.tmp 25) (.tmp 26) 32 4 (.bool false) 1 rfl Try.underlying32 info4 rfl (by decide) (by omega) v4606 y4605 x7_1 _ _ _ (fun k_ => some k_ ≠ (v4602 : Value).ownBlock ∧ some k_ ≠ (.slice Ao22 x7_1.length co22 : Value).ownBlock) (fun _ => False) rfl rfl ?aO ?aR (fun _ _ h => h) (fun _ h => h.elim) ?aF ?aB ?aS ?aL ?_; (case aR => repeat (first | exact (Kd.R_reads' HO_7.out).2.2 | (with_reducible refine Kd.C_alloc ?_ _) | (with_reducible refine Kd.C_drewN ?_ _) | (with_reducible refine Kd.C_drew ?_))); (case aB => exact (pl HB)); (case aF => exact (fun k_ hk => ⟨Kd.fresh' (Kd.R_lt (by (with_reducible repeat (first | apply Kd.R_alloc | apply Kd.R_drewN | apply Kd.R_drew)); exact HO_6.out)) k_ hk, Kd.fresh' (Kd.R_lt (by (with_reducible repeat (first | apply Kd.R_alloc | apply Kd.R_drewN | apply Kd.R_drew)); exact HO_7.out)) k_ hk⟩)); (case aO => exact (by (with_reducible repeat (first | apply Kd.R_alloc | apply Kd.R_drewN | apply Kd.R_drew)); exact Kd.R_mono HO4607.out (fun _ hk => ⟨hk.1.2, hk.2⟩))); (case aS => exact (below_size (pl HB))); (case aL => have := LMc10.out; omega); intro v4609 w21 ho hb hg hat; rw [← Ny4608.out] at ho; have n0_ := Aside0.mk (Kd.R_after (ok := (fun k_ => some k_ ≠ (.slice Ao22 x7_1.length co22 : Value).ownBlock)) (by (with_reducible repeat (first | apply Kd.R_alloc | apply Kd.R_drewN | apply Kd.R_drew)); exact HO_6.out) hg hat); have n1_ := Aside0.mk (Kd.R_after (ok := (fun k_ => some k_ ≠ (v4602 : Value).ownBlock)) (by (with_reducible repeat (first | apply Kd.R_alloc | apply Kd.R_drewN | apply Kd.R_drew)); exact HO_7.out) hg hat); have n2_ := Aside0.mk (hb); have n3_ := Aside0.mk (ho); clear HO_6; clear HO_7; clear HB; clear HO4607; have HO_6 := n0_; have HO_7 := n1_; have HB := n2_; have HO4610 := n3_; clear n0_ n1_ n2_ n3_; clear ho hb hg hat; obtain ⟨Ao23, co23, eo23⟩ := Kd.R_slice HO4610.out; subst eo23) | ((with_reducible refine gate_callee (f := 18) rfl ?_); refine goesL_ (some 31) rfl rfl Try.func18 (by kernel_rfl) rfl #[.slice Ao23 y4608.length co23, .slice A1 l1.length c1] rfl pa ?_; (with_reducible refine (flyballref01_Cmp.calls k1 _ _ y4608 _ _ l1 t4611 _ ?side1 ?side2 ?side3 ?side4 A11.out).mono ?_); (case side1 => repeat (first | exact (Kd.R_reads' HO4610.out).2.2 | (with_reducible refine Kd.C_alloc ?_ _) | (with_reducible refine Kd.C_drewN ?_ _) | (with_reducible refine Kd.C_drew ?_))); (case side2 => exact (Kd.R_reads' HO4610.out).2.1); (case side3 => repeat (first | exact (Kd.C_below HR1.out HB.out) | (with_reducible refine Kd.C_alloc ?_ _) | (with_reducible refine Kd.C_drewN ?_ _) | (with_reducible refine Kd.C_drew ?_))); (case side4 => exact HC1.out); rintro e w24 ⟨rfl, hb⟩; refine ⟨_, rfl, ?_⟩; have n0_ := Aside0.mk (Kd.R_below (by (with_reducible repeat (first | apply Kd.R_alloc | apply Kd.R_drewN | apply Kd.R_drew)); exact HO_6.out) hb); have n1_ := Aside0.mk (Kd.R_below (by (with_reducible repeat (first | apply Kd.R_alloc | apply Kd.R_drewN | apply Kd.R_drew)); exact HO_7.out) hb); have n2_ := Aside0.mk (Kd.R_below (by (with_reducible repeat (first | apply Kd.R_alloc | apply Kd.R_drewN | apply Kd.R_drew)); exact HO4610.out) hb); have n3_ := kh HB hb; clear HO_6; clear HO_7; clear HO4610; clear HB; have HO_6 := n0_; have HO_7 := n1_; have HO4610 := n2_; have HB := n3_; clear n0_ n1_ n2_ n3_; (try clear hb); (try clear hb2); (try clear hk); (try clear hi)) | ((with_reducible refine gate_callee (f := 32) rfl ?_); refine goesL_ (some 38) rfl rfl Try.func32 (by kernel_rfl) rfl #[.slice Ao23 y4608.length co23, .slice A1 l1.length c1, .int .i64 (y4608.length : Int)] rfl pa ?_; (with_reducible refine (flyballref01_Sub.calls k1 _ _ y4608 _ _ l1 (y4608.length : Int) t4612 t4613 _ ?side1 ?side2 ?side3 ?side4 A13.out).mono ?_); (case side1 => repeat (first | exact (Kd.R_reads' HO4610.out).2.2 | (with_reducible refine Kd.C_alloc ?_ _) | (with_reducible refine Kd.C_drewN ?_ _) | (with_reducible refine Kd.C_drew ?_))); (case side2 => exact (Kd.R_reads' HO4610.out).2.1); (case side3 => repeat (first | exact (Kd.C_below HR1.out HB.out) | (with_reducible refine Kd.C_alloc ?_ _) | (with_reducible refine Kd.C_drewN ?_ _) | (with_reducible refine Kd.C_drew ?_))); (case side4 => exact HC1.out); rintro e w25 ⟨v4614, rfl, ho0, hb⟩; refine ⟨_, rfl, ?_⟩; have n0_ := Aside0.mk (Kd.R_elder' (by (with_reducible repeat (first | apply Kd.R_alloc | apply Kd.R_drewN | apply Kd.R_drew)); exact HO_6.out) (Kd.R_base ho0) hb); have n1_ := Aside0.mk (Kd.R_elder' (by (with_reducible repeat (first | apply Kd.R_alloc | apply Kd.R_drewN | apply Kd.R_drew)); exact HO_7.out) (Kd.R_base ho0) hb); have n2_ := Aside0.mk (Kd.R_elder' (by (with_reducible repeat (first | apply Kd.R_alloc | apply Kd.R_drewN | apply Kd.R_drew)); exact HO4610.out) (Kd.R_base ho0) hb); have n3_ := Aside0.mk (Kd.R_lower (Kd.R_new' (Kd.R_new' (Kd.R_new' ho0 (Kd.R_lt (by (with_reducible repeat (first | apply Kd.R_alloc | apply Kd.R_drewN | apply Kd.R_drew)); exact HO_6.out))) (Kd.R_lt (by (with_reducible repeat (first | apply Kd.R_alloc | apply Kd.R_drewN | apply Kd.R_drew)); exact HO_7.out))) (Kd.R_lt (by (with_reducible repeat (first | apply Kd.R_alloc | apply Kd.R_drewN | apply Kd.R_drew)); exact HO4610.out))) (below_size (pl HB))); have n4_ := kh HB hb; clear HO_6; clear HO_7; clear HO4610; clear HB; have HO_6 := n0_; have HO_7 := n1_; have HO4610 := n2_; have HO4615 := n3_; have HB := n4_; clear n0_ n1_ n2_ n3_ n4_; (try clear hb); (try clear hb2); (try clear hk); (try clear hi); (try clear ho0); have p15 : 0 ≤ (x8_1 : Int) := of_decide_eq_true (by first | (with_reducible assumption) | assumption); have q15 : (x8_1 : Int) < ((x6_1.length : Int) : Int) := of_decide_eq_true (by first | (with_reducible assumption) | assumption); obtain ⟨go15, co15, eo15, gb15, gl15, cl15, HG15⟩ := Kd.R_form HO_6.out (by omega); (first | cases eo15 | (injection eo15 with ea_ en_ ec_; (first | subst ea_ | (injection ea_ with ea_; subst ea_)); subst ec_; clear en_)); have GB15 := Aside0.mk gb15; have GG15 := Aside0.mk HG15; clear gb15 gl15 HG15; obtain ⟨hx15_0, hf15_0⟩ := Kd.R_celln false HO_6.out (x8_1 : Int) p15 q15; replace p15 := eq_true p15; replace q15 := eq_true q15; have n_ := Aside0.mk (Kd.R_mono (ok' := (fun k_ => some k_ ≠ (.slice Ao22 x7_1.length co22 : Value).ownBlock ∧ some k_ ≠ (.slice Ao23 y4608.length co23 : Value).ownBlock ∧ some k_ ≠ (v4614 : Value).ownBlock)) HO_6.out (fun k_ hk => ⟨hk.1.1, ⟨hk.1.2, hk.2⟩⟩)); clear HO_6; have HO_6 := n_; clear n_; obtain ⟨hy26_, hz26_⟩ := Kd.R_celln false HO_6.out (x8_1 : Int) (of_decide_eq_true (by first | (with_reducible assumption) | assumption)) (of_decide_eq_true (by first | (with_reducible assumption) | assumption)); have HP26 := Kd.R_putg HO_6.out (x8_1 : Int) true) | ((with_reducible refine gate_store (t := 4) (p := 43) rfl ?_); refine store_event (t := 4) (p := 43) (v := ?vo_w27) (w1 := (w25.setCell ⟨go15, (x8_1 : Int).toNat, none⟩ (.bool true))) ?hg ?ho ?hn ?hr ?_; (case ho => rfl); (case hg => rfl); (case hn => rfl); (case hr => first | (go_simp; done) | (go_simp; rfl)); intro w27 hw; have hg : w25.grownBy w27 (some go15) := (by rw [hw]; exact HP26.2); have hp_ : Kd.R Kd.bool 4 w27 w.heap.size (fun k_ => some k_ ≠ (.slice Ao22 x7_1.length co22 : Value).ownBlock ∧ some k_ ≠ (.slice Ao23 y4608.length co23 : Value).ownBlock ∧ some k_ ≠ (v4614 : Value).ownBlock) (.slice (some ⟨go15, 0, none⟩) x6_1.length co15) y4616 := (by rw [hw, Ny4616.out]; exact HP26.1); clear HP26; have n0_ := Aside0.mk (hp_); have n1_ := Aside0.mk (Kd.R_after (v := (.slice (some ⟨go15, 0, none⟩) x6_1.length co15)) (v1 := (.slice (some ⟨go15, 0, none⟩) x6_1.length co15)) (ok := (fun k_ => some k_ ≠ (.slice Ao23 y4608.length co23 : Value).ownBlock ∧ some k_ ≠ (v4614 : Value).ownBlock)) (by (with_reducible repeat (first | apply Kd.R_alloc | apply Kd.R_drewN | apply Kd.R_drew)); exact Kd.R_mono HO_7.out (fun _ hk => ⟨⟨hk.1.2, hk.2⟩, hk.1.1⟩)) hg (.inl rfl)); have n2_ := Aside0.mk (Kd.R_after (v := (.slice (some ⟨go15, 0, none⟩) x6_1.length co15)) (v1 := (.slice (some ⟨go15, 0, none⟩) x6_1.length co15)) (ok := (fun k_ => some k_ ≠ (.slice Ao22 x7_1.length co22 : Value).ownBlock ∧ some k_ ≠ (v4614 : Value).ownBlock)) (by (with_reducible repeat (first | apply Kd.R_alloc | apply Kd.R_drewN | apply Kd.R_drew)); exact Kd.R_mono HO4610.out (fun _ hk => ⟨⟨hk.1.2, hk.2⟩, hk.1.1⟩)) hg (.inl rfl)); have n3_ := Aside0.mk (Kd.R_after (v := (.slice (some ⟨go15, 0, none⟩) x6_1.length co15)) (v1 := (.slice (some ⟨go15, 0, none⟩) x6_1.length co15)) (ok := (fun k_ => some k_ ≠ (.slice Ao22 x7_1.length co22 : Value).ownBlock ∧ some k_ ≠ (.slice Ao23 y4608.length co23 : Value).ownBlock)) (by (with_reducible repeat (first | apply Kd.R_alloc | apply Kd.R_drewN | apply Kd.R_drew)); exact Kd.R_mono HO4615.out (fun _ hk => ⟨⟨hk.1.2, hk.2⟩, hk.1.1.2⟩)) hg (.inl rfl)); have n4_ := Aside0.mk ((by rw [hw]; exact below_set (HB.out) GB15.out : Below w.heap.size w w27)); clear HO_6; clear HO_7; clear HO4610; clear HO4615; clear HB; have HO_6 := n0_; have HO_7 := n1_; have HO4610 := n2_; have HO4615 := n3_; have HB := n4_; clear n0_ n1_ n2_ n3_ n4_; clear hg hw hp_; obtain ⟨Ao28, co28, eo28⟩ := Kd.R_slice HO4615.out; subst eo28) | ((with_reducible refine gate_callee (f := 35) rfl ?_); refine goesL_ (some 46) rfl rfl Try.func35 (by kernel_rfl) rfl #[.slice Ao28 t4612.length co28] rfl pa ?_; (with_reducible refine (flyballref01_Len.calls k1 _ _ t4612 t4617 _ ?side1 ?side2 A16.out).mono ?_); (case side1 => repeat (first | exact (Kd.R_reads' HO4615.out).2.2 | (with_reducible refine Kd.C_alloc ?_ _) | (with_reducible refine Kd.C_drewN ?_ _) | (with_reducible refine Kd.C_drew ?_))); (case side2 => exact (Kd.R_reads' HO4615.out).2.1); rintro e w' ⟨rfl, ⟨nd, rfl⟩⟩; refine ⟨_, rfl, ?_⟩; have q29 : (t4617 : Int) ≤ ((t4612.length : Int) : Int) := of_decide_eq_true (by first | (with_reducible assumption) | assumption); obtain ⟨i029, hi029, _, hsz29, _⟩ := info_parts info4; have hcut29 := cut_to (P := Try.prog) 32 4 .i64 Try.underlying32 hi029 Ao28 t4612.length co28 t4617 (of_decide_eq_true (by first | (with_reducible assumption) | assumption)) q29 (Kd.R_reads' HO4615.out).2.1; have hr29 := Kd.R_take (m := (t4617 : Int).toNat) HO4615.out (by omega); have hy29 : y4618.length = (t4617 : Int).toNat := (by rw [Ny4618.out, List.length_take]; omega); rw [← Ny4618.out] at hr29; rw [← hy29] at hr29 hcut29; clear hy29 hi029 hsz29 HO4615; have HO4620 := Aside0.mk hr29; clear hr29; replace q29 := eq_true q29))
                          go_roundg k1
                          case measure => have := HK1.out; omega
                          case rel => exact ⟨(y4616), (y4618), (wrap64 (x8_1 - 1)), (by first | rfl | (simp; done) | (simp [*]; done)), H', ⟨by have := HK1.out; omega⟩, ⟨by (with_reducible repeat (first | apply Kd.R_alloc | apply Kd.R_drewN | apply Kd.R_drew)); exact Kd.R_mono HO_6.out (fun _ hk => by first | exact hk.2.2 | exact own_len hk.2.2)⟩, ⟨by (with_reducible repeat (first | apply Kd.R_alloc | apply Kd.R_drewN | apply Kd.R_drew)); exact Kd.R_mono HO4620.out (fun _ hk => by first | exact hk.2 | exact own_len hk.2)⟩, ⟨pl HB⟩⟩
                        · rw [if_neg c18] at H
                          exact absurd H (by simp)
                      · rw [if_neg c17] at H
                        exact absurd H (by simp)
                    · rw [if_neg c14] at H
                      exact absurd H (by simp)
                  · rw [if_neg c12] at H
                    have c12b0 : decide (0 ≤ t4611) = false := decide_eq_false c12
                    clear c12
                    obtain ⟨t4621, A300, H⟩ := Option.bind_eq_some_iff.mp H
                    have A30 := Aside0.mk A300
                    clear A300
                    (try dsimp only at H)
                    by_cases c31 : 0 ≤ t4621
                    · rw [if_pos c31] at H
                      have c31b0 := eq_true c31
                      have c31b1 : decide (0 ≤ t4621) = true := decide_eq_true c31
                      clear c31
                      by_cases c32 : t4621 ≤ (y4608.length : Int)
                      · rw [if_pos c32] at H
                        have c32b0 := eq_true c32
                        have c32b1 : decide (t4621 ≤ (y4608.length : Int)) = true := decide_eq_true c32
                        clear c32
                        obtain ⟨y4622, hy4622⟩ : ∃ y_ : List Bool, y_ = (y4608.take (t4621 : Int).toNat) := ⟨_, rfl⟩
                        replace H : (flyballref01_Div.l0 k1 l0 l1 x6_1 y4622 (wrap64 (x8_1 - 1))) = some (r1, r2) := by first | (rw [hy4622]; with_reducible exact H) | (have H2_ := (Option.bind_some _ _).symm.trans H; rw [hy4622]; with_reducible exact H2_) | (have H2_ := (Option.bind_some _ _).symm.trans H; with_reducible exact H2_) | with_reducible exact H | (rw [hy4622]; exact H) | exact H
                        have Ny4622 := Aside0.mk hy4622
                        clear hy4622
                        have H' := Aside0.mk H
                        clear H
                        have p4604 : 0 ≤ (x8_1 : Int) := of_decide_eq_true (by first | (with_reducible assumption) | assumption)
                        have q4604 : x8_1 < (l0.length : Int) := of_decide_eq_true (by first | (with_reducible assumption) | assumption)
                        obtain ⟨ad4604, e4604, hx4604_0⟩ := Kd.at_bool HR0.out x8_1 p4604 q4604
                        cases e4604
                        replace hx4604_0 := (HB.out.cell (World.block_lt_of_cell? w _ hx4604_0)).trans hx4604_0
                        replace p4604 := eq_true p4604
                        replace q4604 := eq_true q4604
                        go_wp2_with (first | ((with_reducible refine gate_dst (N := 24) rfl ?_); refine Kd.R_lit Kd.bool _ 4 ?hg (N := 24) ?hd (xs := ([rdOf false l0 x8_1] : List Bool)) (inner := [.bool (rdOf false l0 x8_1)]) (ok := fun _ => True) (okp := fun _ => True) ?hr ?hp (fun _ hk => hk) trivial (Below.refl _ _) (Nat.le_refl _) (by simp) ?_; (case hd => rfl); (case hg => rfl); (case hr => first | (go_simp; done) | (go_simp; rfl)); (case hp => exact (Reps.one (show Kd.M Kd.bool _ _ _ (rdOf false l0 x8_1) [.bool (rdOf false l0 x8_1)] from rfl) (Reps.none _ _))); intro v4606 w33 ho34 hb hg_ hnew_; clear hg_ hnew_; (first | rw [← Ny4605.out] at ho34 | (simp only [Int.reduceToNat] at ho34; rw [← Ny4605.out] at ho34)); have n0_ := Aside0.mk (Kd.R_elder' (by (with_reducible repeat (first | apply Kd.R_alloc | apply Kd.R_drewN | apply Kd.R_drew)); exact HO_6.out) (Kd.R_base ho34) hb); have n1_ := Aside0.mk (Kd.R_elder' (by (with_reducible repeat (first | apply Kd.R_alloc | apply Kd.R_drewN | apply Kd.R_drew)); exact HO_7.out) (Kd.R_base ho34) hb); have n2_ := Aside0.mk (Kd.R_lower (Kd.R_new' (Kd.R_new' ho34 (Kd.R_lt (by (with_reducible repeat (first | apply Kd.R_alloc | apply Kd.R_drewN | apply Kd.R_drew)); exact HO_6.out))) (Kd.R_lt (by (with_reducible repeat (first | apply Kd.R_alloc | apply Kd.R_drewN | apply Kd.R_drew)); exact HO_7.out))) (below_size (pl HB))); have n3_ := kh HB hb; clear HO_6; clear HO_7; clear HB; have HO_6 := n0_; have HO_7 := n1_; have HO4607 := n2_; have HB := n3_; clear n0_ n1_ n2_ n3_; clear hb ho34; obtain ⟨Ao36, co36, eo36⟩ := Kd.R_slice HO_7.out; subst eo36) | ((with_reducible refine gate_builtin (b := .append) (xs := #[.tmp 25, .tmp 26]) rfl ?_); at_builtin; refine Kd.R_append_rows Kd.bool (w0 := w) w.heap.size rfl (.tmp 25) (.tmp 26) 32 4 (.bool false) 1 rfl Try.underlying32 info4 rfl (by decide) (by omega) v4606 y4605 x7_1 _ _ _ (fun k_ => some k_ ≠ (v4602 : Value).ownBlock ∧ some k_ ≠ (.slice Ao36 x7_1.length co36 : Value).ownBlock) (fun _ => False) rfl rfl ?aO ?aR (fun _ _ h => h) (fun _ h => h.elim) ?aF ?aB ?aS ?aL ?_; (case aR => repeat (first | exact (Kd.R_reads' HO_7.out).2.2 | (with_reducible refine Kd.C_alloc ?_ _) | (with_reducible refine Kd.C_drewN ?_ _) | (with_reducible refine Kd.C_drew ?_))); (case aB => exact (pl HB)); (case aF => exact (fun k_ hk => ⟨Kd.fresh' (Kd.R_lt (by (with_reducible repeat (first | apply Kd.R_alloc | apply Kd.R_drewN | apply Kd.R_drew)); exact HO_6.out)) k_ hk, Kd.fresh' (Kd.R_lt (by (with_reducible repeat (first | apply Kd.R_alloc | apply Kd.R_drewN | apply Kd.R_drew)); exact HO_7.out)) k_ hk⟩)); (case aO => exact (by (with_reducible repeat (first | apply Kd.R_alloc | apply Kd.R_drewN | apply Kd.R_drew)); exact Kd.R_mono HO4607.out (fun _ hk => ⟨hk.1.2, hk.2⟩))); (case aS => exact (below_size (pl HB))); (case aL => have := LMc10.out; omega); intro v4609 w35 ho hb hg hat; rw [← Ny4608.out] at ho; have n0_ := Aside0.mk (Kd.R_after (ok := (fun k_ => some k_ ≠ (.slice Ao36 x7_1.length co36 : Value).ownBlock)) (by (with_reducible repeat (first | apply Kd.R_alloc | apply Kd.R_drewN | apply Kd.R_drew)); exact HO_6.out) hg hat); have n1_ := Aside0.mk (Kd.R_after (ok := (fun k_ => some k_ ≠ (v4602 : Value).ownBlock)) (by (with_reducible repeat (first | apply Kd.R_alloc | apply Kd.R_drewN | apply Kd.R_drew)); exact HO_7.out) hg hat); have n2_ := Aside0.mk (hb); have n3_ := Aside0.mk (ho); clear HO_6; clear HO_7; clear HB; clear HO4607; have HO_6 := n0_; have HO_7 := n1_; have HB := n2_; have HO4610 := n3_; clear n0_ n1_ n2_ n3_; clear ho hb hg hat; obtain ⟨Ao37, co37, eo37⟩ := Kd.R_slice HO4610.out; subst eo37) | ((with_reducible refine gate_callee (f := 18) rfl ?_); refine goesL_ (some 31) rfl rfl Try.func18 (by kernel_rfl) rfl #[.slice Ao37 y4608.length co37, .slice A1 l1.length c1] rfl pa ?_; (with_reducible refine (flyballref01_Cmp.calls k1 _ _ y4608 _ _ l1 t4611 _ ?side1 ?side2 ?side3 ?side4 A11.out).mono ?_); (case side1 => repeat (first | exact (Kd.R_reads' HO4610.out).2.2 | (with_reducible refine Kd.C_alloc ?_ _) | (with_reducible refine Kd.C_drewN ?_ _) | (with_reducible refine Kd.C_drew ?_))); (case side2 => exact (Kd.R_reads' HO4610.out).2.1); (case side3 => repeat (first | exact (Kd.C_below HR1.out HB.out) | (with_reducible refine Kd.C_alloc ?_ _) | (with_reducible refine Kd.C_drewN ?_ _) | (with_reducible refine Kd.C_drew ?_))); (case side4 => exact HC1.out); rintro e w38 ⟨rfl, hb⟩; refine ⟨_, rfl, ?_⟩; have n0_ := Aside0.mk (Kd.R_below (by (with_reducible repeat (first | apply Kd.R_alloc | apply Kd.R_drewN | apply Kd.R_drew)); exact HO_6.out) hb); have n1_ := Aside0.mk (Kd.R_below (by (with_reducible repeat (first | apply Kd.R_alloc | apply Kd.R_drewN | apply Kd.R_drew)); exact HO_7.out) hb); have n2_ := Aside0.mk (Kd.R_below (by (with_reducible repeat (first | apply Kd.R_alloc | apply Kd.R_drewN | apply Kd.R_drew)); exact HO4610.out) hb); have n3_ := kh HB hb; clear HO_6; clear HO_7; clear HO4610; clear HB; have HO_6 := n0_; have HO_7 := n1_; have HO4610 := n2_; have HB := n3_; clear n0_ n1_ n2_ n3_; (try clear hb); (try clear hb2); (try clear hk); (try clear hi)) | ((with_reducible refine gate_callee (f := 35) rfl ?_); refine goesL_ (some 46) rfl rfl Try.func35 (by kernel_rfl) rfl #[.slice Ao37 y4608.length co37] rfl pa ?_; (with_reducible refine (flyballref01_Len.calls k1 _ _ y4608 t4621 _ ?side1 ?side2 A30.out).mono ?_); (case side1 => repeat (first | exact (Kd.R_reads' HO4610.out).2.2 | (with_reducible refine Kd.C_alloc ?_ _) | (with_reducible refine Kd.C_drewN ?_ _) | (with_reducible refine Kd.C_drew ?_))); (case side2 => exact (Kd.R_reads' HO4610.out).2.1); rintro e w' ⟨rfl, ⟨nd, rfl⟩⟩; refine ⟨_, rfl, ?_⟩; have q39 : (t4621 : Int) ≤ ((y4608.length : Int) : Int) := of_decide_eq_true (by first | (with_reducible assumption) | assumption); obtain ⟨i039, hi039, _, hsz39, _⟩ := info_parts info4; have hcut39 := cut_to (P := Try.prog) 32 4 .i64 Try.underlying32 hi039 Ao37 y4608.length co37 t4621 (of_decide_eq_true (by first | (with_reducible assumption) | assumption)) q39 (Kd.R_reads' HO4610.out).2.1; have hr39 := Kd.R_take (m := (t4621 : Int).toNat) HO4610.out (by omega); have hy39 : y4622.length = (t4621 : Int).toNat := (by rw [Ny4622.out, List.length_take]; omega); rw [← Ny4622.out] at hr39; rw [← hy39] at hr39 hcut39; clear hy39 hi039 hsz39 HO4610; have HO4624 := Aside0.mk hr39; clear hr39; replace q39 := eq_true q39))
                        go_roundg k1
                        case measure => have := HK1.out; omega
                        case rel => exact ⟨(x6_1), (y4622), (wrap64 (x8_1 - 1)), (by first | rfl | (simp; done) | (simp [*]; done)), H', ⟨by have := HK1.out; omega⟩, ⟨by (with_reducible repeat (first | apply Kd.R_alloc | apply Kd.R_drewN | apply Kd.R_drew)); exact Kd.R_mono HO_6.out (fun _ hk => by first | exact hk.2 | exact own_len hk.2)⟩, ⟨by (with_reducible repeat (first | apply Kd.R_alloc | apply Kd.R_drewN | apply Kd.R_drew)); exact Kd.R_mono HO4624.out (fun _ hk => by first | exact hk.1 | exact own_len hk.1)⟩, ⟨pl HB⟩⟩
                      · rw [if_neg c32] at H
                        exact absurd H (by simp)
                    · rw [if_neg c31] at H
                      exact absurd H (by simp)
                · rw [if_neg c10] at H
                  exact absurd H (by simp)
              · rw [if_neg c9] at H
                exact absurd H (by simp)
            · rw [if_neg c8] at H
              exact absurd H (by simp)
          · rw [if_neg c7] at H
            have c7b0 : decide (0 ≤ x8_1) = false := decide_eq_false c7
            clear c7
            simp only [Option.some.injEq, Prod.mk.injEq] at H
            obtain ⟨rfl, rfl⟩ := H
            go_wp2
            go_ret2
            exact ⟨_, _, pe, by (with_reducible repeat (first | apply Kd.R_alloc | apply Kd.R_drewN | apply Kd.R_drew)); exact HO_6.out, by (with_reducible repeat (first | apply Kd.R_alloc | apply Kd.R_drewN | apply Kd.R_drew)); exact HO_7.out, pl HB⟩
    · rw [if_neg c4] at H
      exact absurd H (by simp)
  · rw [if_neg c3] at H
    exact absurd H (by simp)
/-! ### flyballref01_Of: function 16 -/
mutual
def flyballref01_Of.l0 : Nat → List Int → List Bool → Int → Option (List Bool)
  | 0, _, _, _ => none
  | k + 1, x0, x3, x4 => if x4 < (x0.length : Int) then (flyballref01_Of.l1 k x0 x3 x4 0) else (some x3)
def flyballref01_Of.l1 : Nat → List Int → List Bool → Int → Int → Option (List Bool)
  | 0, _, _, _, _ => none
  | k + 1, x0, x3, x4, x5 => if x5 < 64 then (if 0 ≤ x4 then (if x4 < (x0.length : Int) then (if 0 ≤ (IntKind.u64.wrap (x5)) then (if x3.length < 140737488355328 then (flyballref01_Of.l1 k x0 (x3 ++ [((Go.bits .and .u64 (shr .u64 (rd x0 x4) (IntKind.u64.wrap (x5))) 1) == 1)]) x4 (wrap64 (x5 + 1))) else (none)) else (none)) else (none)) else (none)) else (flyballref01_Of.l0 k x0 x3 (wrap64 (x4 + 1)))
end
def flyballref01_Of.f (k : Nat) (l0 : List Int) : Option (List Bool) := flyballref01_Of.l0 k l0 ([] : List Bool) 0
theorem flyballref01_Of.mono_l : ∀ k, (∀ y0 y1 y2, LeO (flyballref01_Of.l0 k y0 y1 y2) (flyballref01_Of.l0 (k + 1) y0 y1 y2)) ∧ (∀ y0 y1 y2 y3, LeO (flyballref01_Of.l1 k y0 y1 y2 y3) (flyballref01_Of.l1 (k + 1) y0 y1 y2 y3))
  | 0 => ⟨fun _ _ _ r h => by simp [flyballref01_Of.l0] at h, fun _ _ _ _ r h => by simp [flyballref01_Of.l1] at h⟩
  | k + 1 => by
    obtain ⟨ih0, ih1⟩ := flyballref01_Of.mono_l k
    refine ⟨?_, ?_⟩
    · intro y0 y1 y2
      unfold flyballref01_Of.l0
      repeat' first
      | (with_reducible exact ih0 _ _ _)
      | (with_reducible exact ih1 _ _ _ _)
      | (with_reducible exact LeO.refl _)
      | (with_reducible exact LeO.none _)
      | (with_reducible refine LeO.ite ?_ ?_)
      | (with_reducible refine LeO.bind ?_ (fun _ => ?_))
      | exact ih0 _ _ _
      | exact ih1 _ _ _ _
      | exact LeO.none _
      | refine LeO.ite ?_ ?_
      | refine LeO.bind ?_ (fun _ => ?_)
    · intro y0 y1 y2 y3
      unfold flyballref01_Of.l1
      repeat' first
      | (with_reducible exact ih0 _ _ _)
      | (with_reducible exact ih1 _ _ _ _)
      | (with_reducible exact LeO.refl _)
      | (with_reducible exact LeO.none _)
      | (with_reducible refine LeO.ite ?_ ?_)
      | (with_reducible refine LeO.bind ?_ (fun _ => ?_))
      | exact ih0 _ _ _
      | exact ih1 _ _ _ _
      | exact LeO.none _
      | refine LeO.ite ?_ ?_
      | refine LeO.bind ?_ (fun _ => ?_)
theorem flyballref01_Of.mono : ∀ a0 k, LeO (flyballref01_Of.f k a0) (flyballref01_Of.f (k + 1) a0) := by
  intro a0 k
  obtain ⟨ih0, ih1⟩ := flyballref01_Of.mono_l k
  unfold flyballref01_Of.f
  repeat' first
      | (with_reducible exact ih0 _ _ _)
      | (with_reducible exact ih1 _ _ _ _)
      | (with_reducible exact LeO.refl _)
      | (with_reducible exact LeO.none _)
      | (with_reducible refine LeO.ite ?_ ?_)
      | (with_reducible refine LeO.bind ?_ (fun _ => ?_))
      | exact ih0 _ _ _
      | exact ih1 _ _ _ _
      | exact LeO.none _
      | refine LeO.ite ?_ ?_
      | refine LeO.bind ?_ (fun _ => ?_)
set_option maxHeartbeats 8000000 in
set_option maxRecDepth 100000 in
theorem flyballref01_Of.calls (k : Nat) (A0 : Option Addr) (c0 : Nat) (l0 : List Int) (r : List Bool) (w : World) (hr0 : Kd.C (Kd.int .u64) w A0 l0.length l0) (hc0 : l0.length ≤ c0) (h : flyballref01_Of.f k l0 = some r) :
    Calls Try.prog 16 #[.slice A0 l0.length c0] w fun e w' => ∃ v0_ : Value, e = .returned (v0_) ∧ Kd.R Kd.bool 4 w' w.heap.size (fun _ => True) v0_ r ∧ Below w.heap.size w w' := by
  have HR0 := Aside0.mk hr0
  have HC0 := Aside0.mk hc0
  clear hr0 hc0
  have HB := Aside0.mk (Below.refl w.heap.size w)
  have H := h
  clear h
  unfold flyballref01_Of.f at H
  have H' := Aside0.mk H
  clear H
  go_enter Try.func16, Try.ntmps16
  go_wp2
  go_loopg [3, 4] k (fun kq v3 v4 w' => ∃ (x3_1 : List Bool) (x4_1 : Int), v4 = .int .i64 x4_1 ∧ Aside0 (flyballref01_Of.l0 kq l0 x3_1 x4_1 = some r) ∧ Aside0 (kq ≤ k) ∧ Aside0 (Kd.R Kd.bool 4 w' w.heap.size (fun _ => True) v3 x3_1) ∧ Aside0 (Below w.heap.size w w'))
  case atStart => exact ⟨(([] : List Bool)), (0), (by first | rfl | (simp; done) | (simp [*]; done)), H', ⟨Nat.le_refl _⟩, ⟨by first | exact Kd.R_nil _ _ _ _ _ | exact Kd.N_nil _ _ _ _ _ | exact Kd.V_nil _ _ _ _ _ | exact Kd.Q_nil _ _ _ _ _ | exact Kd.S_nil _ _ _ _ _⟩, ⟨pl HB⟩⟩
  case round =>
    clear H'
    try clear c1
    obtain ⟨x3_1, x4_1, rfl, HA, HK1, HO_3, HB⟩ := hrel
    cases gk with
    | zero => exact absurd HA.out (by simp [flyballref01_Of.l0])
    | succ k1 =>
      have H := HA.out
      clear HA
      simp only [flyballref01_Of.l0] at H
      by_cases c2 : x4_1 < (l0.length : Int)
      · rw [if_pos c2] at H
        have c2b0 : decide (x4_1 < (l0.length : Int)) = true := decide_eq_true c2
        clear c2
        have H' := Aside0.mk H
        clear H
        go_wp2
        go_loopg [3, 5] k1 (fun kq v3 v5 w' => ∃ (x3_2 : List Bool) (x5_2 : Int), v5 = .int .i64 x5_2 ∧ Aside0 (flyballref01_Of.l1 kq l0 x3_2 x4_1 x5_2 = some r) ∧ Aside0 (kq ≤ k1) ∧ Aside0 (Kd.R Kd.bool 4 w' w.heap.size (fun _ => True) v3 x3_2) ∧ Aside0 (Below w.heap.size w w'))
        case atStart => exact ⟨(x3_1), (0), (by first | rfl | (simp; done) | (simp [*]; done)), H', ⟨Nat.le_refl _⟩, ⟨by (with_reducible repeat (first | apply Kd.R_alloc | apply Kd.R_drewN | apply Kd.R_drew)); exact HO_3.out⟩, ⟨pl HB⟩⟩
        case round =>
          clear H'
          try clear c1
          try clear c2
          try clear c2b0
          try clear p2
          obtain ⟨x3_2, x5_2, rfl, HA, HK2, HO_3, HB⟩ := hrel
          cases gk with
          | zero => exact absurd HA.out (by simp [flyballref01_Of.l1])
          | succ k2 =>
            have H := HA.out
            clear HA
            simp only [flyballref01_Of.l1] at H
            by_cases c3 : x5_2 < 64
            · rw [if_pos c3] at H
              have c3b0 : decide (x5_2 < 64) = true := decide_eq_true c3
              clear c3
              by_cases c4 : 0 ≤ x4_1
              · rw [if_pos c4] at H
                have c4b0 : decide (0 ≤ x4_1) = true := decide_eq_true c4
                clear c4
                by_cases c5 : x4_1 < (l0.length : Int)
                · rw [if_pos c5] at H
                  have c5b0 : decide (x4_1 < (l0.length : Int)) = true := decide_eq_true c5
                  clear c5
                  obtain ⟨ji6, hji6⟩ : ∃ j_ : Int, (IntKind.u64.wrap (x5_2)) = j_ := ⟨_, rfl⟩
                  replace H : (if 0 ≤ (ji6) then (if x3_2.length < 140737488355328 then (flyballref01_Of.l1 k2 l0 (x3_2 ++ [((Go.bits .and .u64 (shr .u64 (rd l0 x4_1) (ji6)) 1) == 1)]) x4_1 (wrap64 (x5_2 + 1))) else (none)) else (none)) = some r := by first | (rw [hji6] at H; exact H) | (simp only [hji6] at H ⊢; exact H)
                  by_cases c7 : 0 ≤ (ji6)
                  · rw [if_pos c7] at H
                    have c7b0 := eq_true c7
                    have c7b1 : decide (0 ≤ (ji6)) = true := decide_eq_true c7
                    clear c7
                    obtain ⟨ji8, hji8⟩ : ∃ j_ : Int, (shr .u64 (rd l0 x4_1) (ji6)) = j_ := ⟨_, rfl⟩
                    replace H : (if x3_2.length < 140737488355328 then (flyballref01_Of.l1 k2 l0 (x3_2 ++ [((Go.bits .and .u64 (ji8) 1) == 1)]) x4_1 (wrap64 (x5_2 + 1))) else (none)) = some r := by first | (rw [hji8] at H; exact H) | (simp only [hji8] at H ⊢; exact H)
                    have hji8_ : ((rd l0 x4_1) / 2 ^ min (ji6).toNat 64) = ji8 := hji8
                    have hji8z : (ji6) ≤ 64 → ((rd l0 x4_1) / 2 ^ (ji6).toNat) = ji8 := shr_small hji8
                    by_cases c9 : x3_2.length < 140737488355328
                    · rw [if_pos c9] at H
                      have LMc9 := Aside0.mk c9
                      clear c9
                      obtain ⟨y4752, hy4752⟩ : ∃ y_ : List Bool, y_ = (x3_2 ++ [((Go.bits .and .u64 (ji8) 1) == 1)]) := ⟨_, rfl⟩
                      replace H : (flyballref01_Of.l1 k2 l0 y4752 x4_1 (wrap64 (x5_2 + 1))) = some r := by first | (rw [hy4752]; with_reducible exact H) | (have H2_ := (Option.bind_some _ _).symm.trans H; rw [hy4752]; with_reducible exact H2_) | (have H2_ := (Option.bind_some _ _).symm.trans H; with_reducible exact H2_) | with_reducible exact H | (rw [hy4752]; exact H) | exact H
                      have Ny4752 := Aside0.mk hy4752
                      clear hy4752
                      have H' := Aside0.mk H
                      clear H
                      have p4751 : 0 ≤ (x4_1 : Int) := of_decide_eq_true (by first | (with_reducible assumption) | assumption)
                      have q4751 : x4_1 < (l0.length : Int) := of_decide_eq_true (by first | (with_reducible assumption) | assumption)
                      obtain ⟨ad4751, e4751, hx4751_0⟩ := Kd.at_int HR0.out x4_1 p4751 q4751
                      cases e4751
                      replace hx4751_0 := (HB.out.cell (World.block_lt_of_cell? w _ hx4751_0)).trans hx4751_0
                      replace p4751 := eq_true p4751
                      replace q4751 := eq_true q4751
                      go_wp2_with (first | ((with_reducible refine gate_builtin (b := .append) (xs := #[.tmp 16, .tmp 26]) rfl ?_); at_builtin; refine Kd.R_append Kd.bool (w0 := w) w.heap.size rfl (.tmp 16) (.tmp 26) 32 4 (.bool false) 1 rfl Try.underlying32 info4 rfl (by decide) (by omega) u3 x3_2 ((Go.bits .and .u64 (ji8) 1) == 1) [.bool ((Go.bits .and .u64 (ji8) 1) == 1)] (fun _ => True) (fun _ => False) rfl rfl ?aP (fun _ hk => hk.elim) ?aF ?aO ?aB ?aS ?aL ?_; (case aP => exact rfl); (case aB => exact (pl HB)); (case aF => exact (fun _ _ => trivial)); (case aO => exact (by (with_reducible repeat (first | apply Kd.R_alloc | apply Kd.R_drewN | apply Kd.R_drew)); exact HO_3.out)); (case aS => exact (below_size (pl HB))); (case aL => have := LMc9.out; omega); intro v4753 w10 ho hb hg hat; rw [← Ny4752.out] at ho; have HO4754 := Aside0.mk (ho); replace HB := Aside0.mk (hb); clear HO_3; clear ho hb hg hat))
                      go_roundg k2
                      case measure => have := HK1.out; have := HK2.out; omega
                      case rel => exact ⟨(y4752), (wrap64 (x5_2 + 1)), (by first | rfl | (simp; done) | (simp [*]; done)), H', ⟨by have := HK1.out; have := HK2.out; omega⟩, ⟨by (with_reducible repeat (first | apply Kd.R_alloc | apply Kd.R_drewN | apply Kd.R_drew)); exact HO4754.out⟩, ⟨pl HB⟩⟩
                    · rw [if_neg c9] at H
                      exact absurd H (by simp)
                  · rw [if_neg c7] at H
                    exact absurd H (by simp)
                · rw [if_neg c5] at H
                  exact absurd H (by simp)
              · rw [if_neg c4] at H
                exact absurd H (by simp)
            · rw [if_neg c3] at H
              have c3b0 : decide (x5_2 < 64) = false := decide_eq_false c3
              clear c3
              have H' := Aside0.mk H
              clear H
              go_wp2
              go_roundg k2
              case measure => have := HK1.out; have := HK2.out; omega
              case rel => exact ⟨(x3_2), (wrap64 (x4_1 + 1)), (by first | rfl | (simp; done) | (simp [*]; done)), H', ⟨by have := HK1.out; have := HK2.out; omega⟩, ⟨by (with_reducible repeat (first | apply Kd.R_alloc | apply Kd.R_drewN | apply Kd.R_drew)); exact HO_3.out⟩, ⟨pl HB⟩⟩
      · rw [if_neg c2] at H
        have c2b0 : decide (x4_1 < (l0.length : Int)) = false := decide_eq_false c2
        clear c2
        obtain rfl := Option.some.inj H
        go_wp2
        go_ret
        exact ⟨_, pe, by (with_reducible repeat (first | apply Kd.R_alloc | apply Kd.R_drewN | apply Kd.R_drew)); exact HO_3.out, pl HB⟩
end Go.Proofs.Ytdchdapllehppaa.PAll
end
