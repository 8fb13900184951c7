/- Functions of the print, turned to this claim. -/
import Derived.Test.YtdchdapllehppaaZSW
import Derived.Test.YtdchdapllehppaaZSx0
import Derived.Test.YtdchdapllehppaaZSx13
import Derived.Test.YtdchdapllehppaaZSx19
section
namespace Go.Proofs.Ytdchdapllehppaa.PAll
open Go.RowKit Go.Proofs.YtdchdapllehppaaW.PrintWords Go.Proofs.YtdchdapllehppaaW.PrintLast Go.Proofs.YtdchdapllehppaaW.PrintMore
attribute [local go_sem] max2_int min2_int max_two min_two max_three min_three max_four min_four   -- for this text's walks alone
set_option linter.unusedVariables false
set_option linter.unusedSimpArgs false
/-! ### flyballlaw01_shr: function 42 -/
def flyballlaw01_shr.f (k : Nat) (l0 : List Bool) (a1 : Int) : Option (List Bool × Bool) := if 0 ≤ (mn (mx a1 0) (l0.length : Int)) then (if (mn (mx a1 0) (l0.length : Int)) ≤ (l0.length : Int) then ((some (l0.drop ((mn (mx a1 0) (l0.length : Int)) : Int).toNat : List Bool)).bind fun y7451 => ((flyballref01_Len.f k (l0.take ((mn (mx a1 0) (l0.length : Int)) : Int).toNat)).bind fun t7454 => (some (y7451, decide (t7454 > 0))))) else (none)) else (none)
theorem flyballlaw01_shr.mono : ∀ a0 a1 k, LeO (flyballlaw01_shr.f k a0 a1) (flyballlaw01_shr.f (k + 1) a0 a1) := by
  intro a0 a1 k
  unfold flyballlaw01_shr.f
  repeat' first
      | (with_reducible exact flyballref01_Len.mono _ _)
      | (with_reducible exact LeO.refl _)
      | (with_reducible exact LeO.none _)
      | (with_reducible refine LeO.ite ?_ ?_)
      | (with_reducible refine LeO.bind ?_ (fun _ => ?_))
      | exact flyballref01_Len.mono _ _
      | exact LeO.none _
      | refine LeO.ite ?_ ?_
      | refine LeO.bind ?_ (fun _ => ?_)
set_option maxHeartbeats 8000000 in
set_option maxRecDepth 100000 in
theorem flyballlaw01_shr.calls (k : Nat) (P0_ : Nat → Prop) (u9000_ : Value) (l0 : List Bool) (a1 : Int) (r1 : List Bool) (r2 : Bool) (w0 w : World) (hB : Below w0.heap.size w0 w) (ho0 : Kd.R Kd.bool 4 w w0.heap.size P0_ u9000_ l0) (h : flyballlaw01_shr.f k l0 a1 = some (r1, r2)) :
    Calls Try.prog 42 #[u9000_, .int .i64 a1] w fun e w' => ∃ v0_ : Value, e = .returned (.tuple #[v0_, .bool r2]) ∧ Kd.Q Kd.bool 4 w' w0.heap.size (fun k_ => (P0_ k_ ∨ w.heap.size ≤ k_)) v0_ r1 ∧ Below w0.heap.size w0 w' ∧ Kept w w' (fun k_ => P0_ k_) := by
  have HO0 := Aside0.mk (show Kd.R Kd.bool 4 w w0.heap.size (fun k_ => (P0_ k_ ∨ w.heap.size ≤ k_)) u9000_ l0 from Kd.R_mono ho0 (fun k_ hk => (.inl hk)))
  have HK := Aside0.mk (Kept.refl w (fun k_ => P0_ k_))
  have HW0 := Aside0.mk hB.size
  have HB := Aside0.mk hB
  clear hB
  have H := h
  clear h
  unfold flyballlaw01_shr.f at H
  obtain ⟨ji3, hji3⟩ : ∃ j_ : Int, (mx a1 0) = j_ := ⟨_, rfl⟩
  replace H : (if 0 ≤ (mn (ji3) (l0.length : Int)) then (if (mn (ji3) (l0.length : Int)) ≤ (l0.length : Int) then ((some (l0.drop ((mn (ji3) (l0.length : Int)) : Int).toNat : List Bool)).bind fun y7451 => ((flyballref01_Len.f k (l0.take ((mn (ji3) (l0.length : Int)) : Int).toNat)).bind fun t7454 => (some (y7451, decide (t7454 > 0))))) else (none)) else (none)) = some (r1, r2) := by first | (rw [hji3] at H; exact H) | (simp only [hji3] at H ⊢; exact H)
  (try (have hji3l : 0 ≤ ji3 := by (rw [← hji3]; unfold mx; (repeat' split) <;> omega)))
  (try (have hji3m : 0 ≤ ji3 := by omega))
  have hji3_ : (if a1 < 0 then 0 else a1) = ji3 := hji3
  obtain ⟨ji4, hji4⟩ : ∃ j_ : Int, (mn (ji3) (l0.length : Int)) = j_ := ⟨_, rfl⟩
  replace H : (if 0 ≤ (ji4) then (if (ji4) ≤ (l0.length : Int) then ((some (l0.drop ((ji4) : Int).toNat : List Bool)).bind fun y7451 => ((flyballref01_Len.f k (l0.take ((ji4) : Int).toNat)).bind fun t7454 => (some (y7451, decide (t7454 > 0))))) else (none)) else (none)) = some (r1, r2) := by first | (rw [hji4] at H; exact H) | (simp only [hji4] at H ⊢; exact H)
  have hji4_ : (if (l0.length : Int) < (ji3) then (l0.length : Int) else (ji3)) = ji4 := hji4
  by_cases c5 : 0 ≤ (ji4)
  · rw [if_pos c5] at H
    have c5b0 := eq_true c5
    have c5b1 : decide (0 ≤ (ji4)) = true := decide_eq_true c5
    clear c5
    by_cases c6 : (ji4) ≤ (l0.length : Int)
    · rw [if_pos c6] at H
      have c6b0 := eq_true c6
      have c6b1 : decide ((ji4) ≤ (l0.length : Int)) = true := decide_eq_true c6
      clear c6
      obtain ⟨y7451, hy7451⟩ : ∃ y_ : List Bool, y_ = (l0.drop ((ji4) : Int).toNat) := ⟨_, rfl⟩
      replace H : ((flyballref01_Len.f k (l0.take ((ji4) : Int).toNat)).bind fun t7454 => (some (y7451, decide (t7454 > 0)))) = some (r1, r2) := by first | (rw [hy7451]; with_reducible exact H) | (have H2_ := (Option.bind_some _ _).symm.trans H; rw [hy7451]; with_reducible exact H2_) | (have H2_ := (Option.bind_some _ _).symm.trans H; with_reducible exact H2_) | with_reducible exact H | (rw [hy7451]; exact H) | exact H
      have Ny7451 := Aside0.mk hy7451
      clear hy7451
      obtain ⟨t7454, A70, H⟩ := Option.bind_eq_some_iff.mp H
      have A7 := Aside0.mk A70
      clear A70
      (try dsimp only at H)
      simp only [Option.some.injEq, Prod.mk.injEq] at H
      obtain ⟨rfl, rfl⟩ := H
      obtain ⟨Ao8, co8, eo8⟩ := Kd.R_slice HO0.out
      subst eo8
      obtain ⟨yT, hyT⟩ : ∃ y_ : List Bool, y_ = l0.take ((ji4) : Int).toNat := ⟨_, rfl⟩
      have AT : Aside0 (flyballref01_Len.f k yT = some t7454) := ⟨by rw [hyT]; exact A7.out⟩
      obtain ⟨iT, hiT, _, hszT, _⟩ := info_parts info4
      obtain ⟨hcutT, hAT, hCT⟩ := print_take_of (P := Try.prog) Value.bool false 32 4 .i64 Try.underlying32 hiT hszT Ao8 co8 l0 (ji4) (of_decide_eq_true (by first | (with_reducible assumption) | assumption)) (of_decide_eq_true (by first | (with_reducible assumption) | assumption)) (Kd.R_reads' HO0.out).2.1
      have HRT : Aside0 (Kd.C Kd.bool w Ao8 yT.length yT) := ⟨by rw [hyT]; exact Kd.C_of_reads (h1 := fun _ => rfl) (hAT _ (Kd.reads_of_C (Kd.R_reads' HO0.out).2.2))⟩
      have HCT : Aside0 (yT.length ≤ co8) := ⟨by rw [hyT]; exact hCT⟩
      have hlT : yT.length = ((ji4) : Int).toNat := by rw [hyT, List.length_take]; have h_ : ((ji4) : Int) ≤ (l0.length : Int) := (of_decide_eq_true (by first | (with_reducible assumption) | assumption)); omega
      rw [← hyT] at hcutT
      clear hAT hCT hiT hszT hyT hlT
      have q9 : ((ji4) : Int) ≤ ((l0.length : Int) : Int) := of_decide_eq_true (by first | (with_reducible assumption) | assumption)
      obtain ⟨i09, hi09, _, hsz9, _⟩ := info_parts info4
      have hcut9 := cut_from (P := Try.prog) 32 4 .i64 Try.underlying32 hi09 1 hsz9 Ao8 l0.length co8 (ji4) (of_decide_eq_true (by first | (with_reducible assumption) | assumption)) q9
      have hr9 := Kd.Q_drop (k := ((ji4) : Int).toNat) (Kd.Q_of_R HO0.out) (by omega)
      obtain ⟨A9, hA9⟩ : ∃ A1, A1 = (if co8 = ((ji4) : Int).toNat then Ao8 else (Ao8 : Option Addr).map (·.add (((ji4) : Int).toNat * 1))) := ⟨_, rfl⟩
      obtain ⟨c9, hc9⟩ : ∃ c1, c1 = co8 - ((ji4) : Int).toNat := ⟨_, rfl⟩
      have hy9 : y7451.length = l0.length - ((ji4) : Int).toNat := (by rw [Ny7451.out, List.length_drop])
      rw [← Ny7451.out] at hr9
      rw [← hy9, ← hA9, ← hc9] at hcut9
      replace hr9 : Kd.Q Kd.bool 4 w w0.heap.size (fun k_ => (P0_ k_ ∨ w.heap.size ≤ k_)) (.slice A9 y7451.length c9) y7451 := (by rw [hA9, hc9, hy9]; exact hr9)
      have HE9 : Aside0 ((Value.slice A9 y7451.length c9).ownBlock = (.slice Ao8 l0.length co8 : Value).ownBlock) := ⟨by rw [hA9]; split <;> (cases (Ao8 : Option Addr) <;> (first | rfl | (simp [Value.ownBlock, Go.Addr.add]; done) | (simp [Value.ownBlock, Go.Addr.add]; split <;> rfl)))⟩
      clear hy9 hi09 hsz9 HO0 hA9 hc9
      have HO7453 := Aside0.mk hr9
      clear hr9
      replace q9 := eq_true q9
      go_enter Try.func42, Try.ntmps42
      go_wp2_with (first | (go_at_call 35; (with_reducible refine (flyballref01_Len.calls k _ _ yT t7454 _ ?side1 ?side2 AT.out).mono ?_); (case side1 => repeat (first | exact HRT.out | (with_reducible refine Kd.C_alloc ?_ _) | (with_reducible refine Kd.C_drewN ?_ _) | (with_reducible refine Kd.C_drew ?_))); (case side2 => exact HCT.out); rintro e w' ⟨rfl, ⟨nd, rfl⟩⟩; (try first | exact ⟨rfl, _, World.drewN_drewN _ _ _⟩ | exact ⟨rfl, _, Eq.trans (World.drewN_drewN _ _ _) (congrArg (World.drewN _) (Nat.add_assoc _ _ _))⟩)))
      repeat (go_quiet (first | (go_at_call 35; (with_reducible refine (flyballref01_Len.calls k _ _ yT t7454 _ ?side1 ?side2 AT.out).mono ?_); (case side1 => repeat (first | exact HRT.out | (with_reducible refine Kd.C_alloc ?_ _) | (with_reducible refine Kd.C_drewN ?_ _) | (with_reducible refine Kd.C_drew ?_))); (case side2 => exact HCT.out); rintro e w' ⟨rfl, ⟨nd, rfl⟩⟩; (try first | exact ⟨rfl, _, World.drewN_drewN _ _ _⟩ | exact ⟨rfl, _, Eq.trans (World.drewN_drewN _ _ _) (congrArg (World.drewN _) (Nat.add_assoc _ _ _))⟩))); try go_wp2_with (first | (go_at_call 35; (with_reducible refine (flyballref01_Len.calls k _ _ yT t7454 _ ?side1 ?side2 AT.out).mono ?_); (case side1 => repeat (first | exact HRT.out | (with_reducible refine Kd.C_alloc ?_ _) | (with_reducible refine Kd.C_drewN ?_ _) | (with_reducible refine Kd.C_drew ?_))); (case side2 => exact HCT.out); rintro e w' ⟨rfl, ⟨nd, rfl⟩⟩; (try first | exact ⟨rfl, _, World.drewN_drewN _ _ _⟩ | exact ⟨rfl, _, Eq.trans (World.drewN_drewN _ _ _) (congrArg (World.drewN _) (Nat.add_assoc _ _ _))⟩))))
      go_ret2
      exact ⟨_, by first | rfl | (simp [errW_none, errW_some] <;> rfl) | (simp only [← hji3, ← hji4]; first | rfl | (simp [errW_none, errW_some] <;> rfl)) | (simp [*, errW_none, errW_some] <;> rfl), by (with_reducible repeat (first | apply Kd.Q_alloc | apply Kd.Q_drewN | apply Kd.Q_drew)); exact HO7453.out, pl HB, by repeat (first | (with_reducible first | exact HK.out | apply Kept.alloc | apply Kept.drewN | apply Kept.drew) | exact HK.out)⟩
    · rw [if_neg c6] at H
      exact absurd H (by simp)
  · rw [if_neg c5] at H
    exact absurd H (by simp)
/-! ### flyballlaw01_shl: function 43 -/
def flyballlaw01_shl.f (k : Nat) (l0 : List Bool) (a1 : Int) : Option (List Bool) := if 0 ≤ (wrap64 ((l0.length : Int) - (mn (mx a1 0) (l0.length : Int)))) then (if (wrap64 ((l0.length : Int) - (mn (mx a1 0) (l0.length : Int)))) ≤ (l0.length : Int) then ((flyballref01_Shl.f k (l0.take ((wrap64 ((l0.length : Int) - (mn (mx a1 0) (l0.length : Int)))) : Int).toNat) (mn (mx a1 0) (l0.length : Int))).bind fun t7602 => (some t7602)) else (none)) else (none)
theorem flyballlaw01_shl.mono : ∀ a0 a1 k, LeO (flyballlaw01_shl.f k a0 a1) (flyballlaw01_shl.f (k + 1) a0 a1) := by
  intro a0 a1 k
  unfold flyballlaw01_shl.f
  repeat' first
      | (with_reducible exact flyballref01_Shl.mono _ _ _)
      | (with_reducible exact LeO.refl _)
      | (with_reducible exact LeO.none _)
      | (with_reducible refine LeO.ite ?_ ?_)
      | (with_reducible refine LeO.bind ?_ (fun _ => ?_))
      | exact flyballref01_Shl.mono _ _ _
      | exact LeO.none _
      | refine LeO.ite ?_ ?_
      | refine LeO.bind ?_ (fun _ => ?_)
set_option maxHeartbeats 8000000 in
set_option maxRecDepth 100000 in
theorem flyballlaw01_shl.calls (k : Nat) (A0 : Option Addr) (c0 : Nat) (l0 : List Bool) (a1 : Int) (r : List Bool) (w : World) (hr0 : Kd.C Kd.bool w A0 l0.length l0) (hc0 : l0.length ≤ c0) (h : flyballlaw01_shl.f k l0 a1 = some r) :
    Calls Try.prog 43 #[.slice A0 l0.length c0, .int .i64 a1] w fun e w' => ∃ v0_ : Value, e = .returned (v0_) ∧ Kd.R Kd.bool 4 w' w.heap.size (fun _ => True) v0_ r ∧ Below w.heap.size w w' := by
  have HR0 := Aside0.mk hr0
  have HC0 := Aside0.mk hc0
  clear hr0 hc0
  have HB := Aside0.mk (Below.refl w.heap.size w)
  have H := h
  clear h
  unfold flyballlaw01_shl.f at H
  obtain ⟨ji3, hji3⟩ : ∃ j_ : Int, (mx a1 0) = j_ := ⟨_, rfl⟩
  replace H : (if 0 ≤ (wrap64 ((l0.length : Int) - (mn (ji3) (l0.length : Int)))) then (if (wrap64 ((l0.length : Int) - (mn (ji3) (l0.length : Int)))) ≤ (l0.length : Int) then ((flyballref01_Shl.f k (l0.take ((wrap64 ((l0.length : Int) - (mn (ji3) (l0.length : Int)))) : Int).toNat) (mn (ji3) (l0.length : Int))).bind fun t7602 => (some t7602)) else (none)) else (none)) = some r := by first | (rw [hji3] at H; exact H) | (simp only [hji3] at H ⊢; exact H)
  (try (have hji3l : 0 ≤ ji3 := by (rw [← hji3]; unfold mx; (repeat' split) <;> omega)))
  (try (have hji3m : 0 ≤ ji3 := by omega))
  have hji3_ : (if a1 < 0 then 0 else a1) = ji3 := hji3
  obtain ⟨ji4, hji4⟩ : ∃ j_ : Int, (mn (ji3) (l0.length : Int)) = j_ := ⟨_, rfl⟩
  replace H : (if 0 ≤ (wrap64 ((l0.length : Int) - (ji4))) then (if (wrap64 ((l0.length : Int) - (ji4))) ≤ (l0.length : Int) then ((flyballref01_Shl.f k (l0.take ((wrap64 ((l0.length : Int) - (ji4))) : Int).toNat) (ji4)).bind fun t7602 => (some t7602)) else (none)) else (none)) = some r := by first | (rw [hji4] at H; exact H) | (simp only [hji4] at H ⊢; exact H)
  have hji4_ : (if (l0.length : Int) < (ji3) then (l0.length : Int) else (ji3)) = ji4 := hji4
  obtain ⟨ji5, hji5⟩ : ∃ j_ : Int, (wrap64 ((l0.length : Int) - (ji4))) = j_ := ⟨_, rfl⟩
  replace H : (if 0 ≤ (ji5) then (if (ji5) ≤ (l0.length : Int) then ((flyballref01_Shl.f k (l0.take ((ji5) : Int).toNat) (ji4)).bind fun t7602 => (some t7602)) else (none)) else (none)) = some r := by first | (rw [hji5] at H; exact H) | (simp only [hji5] at H ⊢; exact H)
  have hji5w : (IntKind.i64.wrap ((l0.length : Int) - (ji4))) = ji5 := (i64_w _).trans hji5
  by_cases c6 : 0 ≤ (ji5)
  · rw [if_pos c6] at H
    have c6b0 := eq_true c6
    have c6b1 : decide (0 ≤ (ji5)) = true := decide_eq_true c6
    clear c6
    by_cases c7 : (ji5) ≤ (l0.length : Int)
    · rw [if_pos c7] at H
      have c7b0 := eq_true c7
      have c7b1 : decide ((ji5) ≤ (l0.length : Int)) = true := decide_eq_true c7
      clear c7
      obtain ⟨t7602, A80, H⟩ := Option.bind_eq_some_iff.mp H
      have A8 := Aside0.mk A80
      clear A80
      (try dsimp only at H)
      obtain rfl := Option.some.inj H
      obtain ⟨i09, hi09, _, hsz9, _⟩ := info_parts info4
      obtain ⟨hcut9, hA9, hC9⟩ := print_take_of (P := Try.prog) Value.bool false 32 4 .i64 Try.underlying32 hi09 hsz9 A0 c0 l0 (ji5) (of_decide_eq_true (by first | (with_reducible assumption) | assumption)) (of_decide_eq_true (by first | (with_reducible assumption) | assumption)) HC0.out
      have HR7601 := Aside0.mk (Kd.C_of_reads (h1 := fun _ => rfl) (hA9 _ (Kd.reads_of_C HR0.out)))
      have HC7601 := Aside0.mk hC9
      clear hA9 hC9 hi09 hsz9
      go_enter Try.func43, Try.ntmps43
      go_wp2_with (first | ((with_reducible refine gate_callee (f := 51) rfl ?_); refine goesL_ (some 18) rfl rfl Try.func51 (by kernel_rfl) rfl #[.slice A0 (l0.take ((ji5) : Int).toNat).length c0, .int .i64 ji4] rfl (by (try simp only [List.map_toArray, List.map_cons, List.map_nil]); first | done | (rw [show (l0.take ((ji5) : Int).toNat).length = (ji5).toNat from (by rw [List.length_take]; have h_ : ((ji5) : Int) ≤ (l0.length : Int) := of_decide_eq_true (by first | (with_reducible assumption) | assumption); omega)] <;> rfl) | (simp only [hji4, hji5]; rfl) | rfl | (simp only [List.length_drop, List.length_take]; rfl)) ?_; (with_reducible refine (flyballref01_Shl.calls k _ _ (l0.take ((ji5) : Int).toNat) ji4 t7602 _ ?side1 ?side2 A8.out).mono ?_); (case side1 => repeat (first | exact HR7601.out | (with_reducible refine Kd.C_alloc ?_ _) | (with_reducible refine Kd.C_drewN ?_ _) | (with_reducible refine Kd.C_drew ?_))); (case side2 => exact HC7601.out); rintro e w10 ⟨v7603, rfl, ho0, hb⟩; refine ⟨_, rfl, ?_⟩; have HO7604 := Aside0.mk (Kd.R_lower ho0 (below_size (pl HB))); replace HB := kh HB hb; (try clear hb); (try clear ho0)))
      go_ret
      exact ⟨_, by first | rfl | (simp [errW_none, errW_some] <;> rfl) | (simp only [← hji3, ← hji4, ← hji5]; first | rfl | (simp [errW_none, errW_some] <;> rfl)) | (simp [*, errW_none, errW_some] <;> rfl), by (with_reducible repeat (first | apply Kd.R_alloc | apply Kd.R_drewN | apply Kd.R_drew)); exact HO7604.out, pl HB⟩
    · rw [if_neg c7] at H
      exact absurd H (by simp)
  · rw [if_neg c6] at H
    exact absurd H (by simp)
end Go.Proofs.Ytdchdapllehppaa.PAll
end
