-- Laid by this session's wip/more.py over the kit's print; hand-written parts are in it.
import Derived.Test.YtinmgnlofininaaPAllx0
namespace Go.Proofs.Ytinmgnlofininaa.PAll
open Go.RowKit Go.Proofs.YtinmgnlofininaaW.PrintWords Go.Proofs.YtinmgnlofininaaW.PrintLast Go.Proofs.YtinmgnlofininaaW.PrintMore
attribute [local go_sem] max2_int min2_int max_two min_two max_three min_three max_four min_four   -- for this text's walks alone
set_option linter.unusedVariables false
set_option linter.unusedSimpArgs false

/-! ### flyballlaw17_sumEnd: function 56 -/
def flyballlaw17_sumEnd.j0 : Nat → Int → Int → Bool → Option (Int)
  | 0, _, _, _ => none
  | k + 1, x0, x1, x10 => if x10 = true then (some x0) else (if x1 = 1099511627776 then (some x1) else (if x1 = (-1099511627776) then (some x1) else (some (mx (mn (wrap64 (x0 + x1)) 1099511627776) (-1099511627776)))))
def flyballlaw17_sumEnd.f (k : Nat) (a0 : Int) (a1 : Int) : Option (Int) := if a0 = 1099511627776 then (flyballlaw17_sumEnd.j0 k a0 a1 true) else (flyballlaw17_sumEnd.j0 k a0 a1 (a0 == (-1099511627776)))
theorem flyballlaw17_sumEnd.mono_l : ∀ k, (∀ y0 y1 y2, LeO (flyballlaw17_sumEnd.j0 k y0 y1 y2) (flyballlaw17_sumEnd.j0 (k + 1) y0 y1 y2))
  | 0 => fun _ _ _ r h => by simp [flyballlaw17_sumEnd.j0] at h
  | k + 1 => by
    have ih0 := flyballlaw17_sumEnd.mono_l k
    · intro y0 y1 y2
      unfold flyballlaw17_sumEnd.j0
      repeat' first
      | (with_reducible exact ih0 _ _ _)
      | (with_reducible exact LeO.refl _)
      | (with_reducible exact LeO.none _)
      | (with_reducible refine LeO.ite ?_ ?_)
      | (with_reducible refine LeO.bind ?_ (fun _ => ?_))
      | exact ih0 _ _ _
      | exact LeO.none _
      | refine LeO.ite ?_ ?_
      | refine LeO.bind ?_ (fun _ => ?_)
theorem flyballlaw17_sumEnd.mono : ∀ a0 a1 k, LeO (flyballlaw17_sumEnd.f k a0 a1) (flyballlaw17_sumEnd.f (k + 1) a0 a1) := by
  intro a0 a1 k
  have ih0 := flyballlaw17_sumEnd.mono_l k
  unfold flyballlaw17_sumEnd.f
  repeat' first
      | (with_reducible exact ih0 _ _ _)
      | (with_reducible exact LeO.refl _)
      | (with_reducible exact LeO.none _)
      | (with_reducible refine LeO.ite ?_ ?_)
      | (with_reducible refine LeO.bind ?_ (fun _ => ?_))
      | exact ih0 _ _ _
      | exact LeO.none _
      | refine LeO.ite ?_ ?_
      | refine LeO.bind ?_ (fun _ => ?_)
set_option maxHeartbeats 8000000 in
set_option maxRecDepth 100000 in
theorem flyballlaw17_sumEnd.calls (k : Nat) (a0 : Int) (a1 : Int) (r : Int) (w : World) (h : flyballlaw17_sumEnd.f k a0 a1 = some r) :
    Calls Try.prog 56 #[.int .i64 a0, .int .i64 a1] w fun e w' => e = .returned (.int .i64 r) ∧ Below w.heap.size w w' := by
  have HB := Aside0.mk (Below.refl w.heap.size w)
  have H := h
  clear h
  unfold flyballlaw17_sumEnd.f at H
  have HC3 := Aside0.mk H
  clear H
  go_enter Try.func56, Try.ntmps56
  go_upto_region 1 with (fail)
  go_cut [10] (fun v10 wc => ∃ (kq : Nat) (x10_2 : Bool), v10 = .bool x10_2 ∧ Aside0 (flyballlaw17_sumEnd.j0 kq a0 a1 x10_2 = some r) ∧ Aside0 (kq ≤ k) ∧ Aside0 (Below w.heap.size w wc))
  case first =>
    have H := HC3.out
    clear HC3
    by_cases c4 : a0 = 1099511627776
    · rw [if_pos c4] at H
      have c4b0 : (a0 == 1099511627776) = true := beq_iff_eq.mpr c4
      have c4b1 : (a0 != 1099511627776) = false := bne_eq_false_iff_eq.mpr c4
      clear c4
      (first | rw [c4b0] | (simp only [i64_w, i32_w]; rw [c4b0]) | skip)
      have H' := Aside0.mk H
      clear H
      go_wp2
      go_meet
      case rel => exact ⟨_, (true), (by first | rfl | (simp; done) | (simp [*]; done)), H', ⟨by first | omega | exact Nat.le_refl _⟩, ⟨pl HB⟩⟩
    · rw [if_neg c4] at H
      have c4b0 : (a0 == 1099511627776) = false := beq_eq_false_iff_ne.mpr c4
      have c4b1 : (a0 != 1099511627776) = true := bne_iff_ne.mpr c4
      (first | rw [c4b0] | (simp only [i64_w, i32_w]; rw [c4b0]) | skip)
      have H' := Aside0.mk H
      clear H
      go_wp2
      go_meet
      case rel => exact ⟨_, ((a0 == (-1099511627776))), (by first | rfl | (simp; done) | (simp [*]; done)), H', ⟨by first | omega | exact Nat.le_refl _⟩, ⟨pl HB⟩⟩
  case rest =>
    clear HC3
    try clear p2
    try clear c4
    try clear c4b0
    try clear c4b1
    obtain ⟨kq, x10_2, rfl, HA, HJ2, HB⟩ := hcut
    cases kq with
    | zero => exact absurd HA.out (by simp [flyballlaw17_sumEnd.j0])
    | succ kj2 =>
      have H := HA.out
      clear HA
      simp only [flyballlaw17_sumEnd.j0] at H
      by_cases c5 : x10_2 = true
      · subst c5
        rw [if_pos rfl] at H
        obtain rfl := Option.some.inj H
        go_wp2
        go_ret
        exact ⟨pe, pl HB⟩
      · replace c5 := Bool.eq_false_iff.mpr c5
        subst c5
        rw [if_neg (show ¬ (false = true) by decide)] at H
        by_cases c6 : a1 = 1099511627776
        · rw [if_pos c6] at H
          have c6b0 : (a1 == 1099511627776) = true := beq_iff_eq.mpr c6
          have c6b1 : (a1 != 1099511627776) = false := bne_eq_false_iff_eq.mpr c6
          clear c6
          obtain rfl := Option.some.inj H
          go_wp2
          go_ret
          exact ⟨pe, pl HB⟩
        · rw [if_neg c6] at H
          have c6b0 : (a1 == 1099511627776) = false := beq_eq_false_iff_ne.mpr c6
          have c6b1 : (a1 != 1099511627776) = true := bne_iff_ne.mpr c6
          by_cases c7 : a1 = (-1099511627776)
          · rw [if_pos c7] at H
            have c7b0 : (a1 == (-1099511627776)) = true := beq_iff_eq.mpr c7
            have c7b1 : (a1 != (-1099511627776)) = false := bne_eq_false_iff_eq.mpr c7
            clear c7
            obtain rfl := Option.some.inj H
            go_wp2
            go_ret
            exact ⟨pe, pl HB⟩
          · rw [if_neg c7] at H
            have c7b0 : (a1 == (-1099511627776)) = false := beq_eq_false_iff_ne.mpr c7
            have c7b1 : (a1 != (-1099511627776)) = true := bne_iff_ne.mpr c7
            obtain ⟨ji8, hji8⟩ : ∃ j_ : Int, (mn (wrap64 (a0 + a1)) 1099511627776) = j_ := ⟨_, rfl⟩
            replace H : (some (mx (ji8) (-1099511627776))) = some r := by first | (rw [hji8] at H; exact H) | (simp only [hji8] at H ⊢; exact H)
            have hji8_ : (if 1099511627776 < (wrap64 (a0 + a1)) then 1099511627776 else (wrap64 (a0 + a1))) = ji8 := hji8
            obtain ⟨ji9, hji9⟩ : ∃ j_ : Int, (mx (ji8) (-1099511627776)) = j_ := ⟨_, rfl⟩
            replace H : (some ji9) = some r := by first | (rw [hji9] at H; exact H) | (simp only [hji9] at H ⊢; exact H)
            have hji9_ : (if (ji8) < (-1099511627776) then (-1099511627776) else (ji8)) = ji9 := hji9
            obtain rfl := Option.some.inj H
            go_wp2
            go_ret
            exact ⟨by first | rfl | (simp [errW_none, errW_some] <;> rfl) | (simp only [← hji8, ← hji9]; first | rfl | (simp [errW_none, errW_some] <;> rfl)) | (simp [*, errW_none, errW_some] <;> rfl), pl HB⟩

end Go.Proofs.Ytinmgnlofininaa.PAll
