/- IntsSound, over numbers alone: whatever is of both, what comes of it is of the answer. -/
import Derived.Test.YtinmgnlofininaaPAllx14
import Derived.Test.YtinmgnlofininaaEvD
import Derived.Test.YtinmgnlofininaaEvW
import Derived.Test.YtinmgnlofininaaSpecS
set_option linter.unusedVariables false
set_option linter.unusedSimpArgs false
namespace Go.Proofs.Ytinmgnlofininaa.Pure
open Go.RowKit Go.Proofs.Ytinmgnlofininaa.PAll Go.Proofs.YtinmgnlofininaaW.PrintWords Go.Proofs.YtinmgnlofininaaW.PrintLast Go.Proofs.YtinmgnlofininaaW.PrintMore Go.Proofs.Ytinmgnlofininaa.Spec Go.Proofs.Ytinmgnlofininaa.Ev
/-- What is chosen of an interval is of it, and near. -/
theorem of_f (k : Nat) (hk : 1 < k) (e : Bool) (lo hi n : Int) : ∃ x p, flyballlaw17_of.f k e lo hi n = some (x, p) ∧ (p = true → has (no3 e lo hi) x = true ∧ -2147483648 < x ∧ x < 2147483648) := by
  obtain ⟨k, rfl⟩ : ∃ m, k = m + 2 := ⟨k - 2, by omega⟩
  have j1 : ∀ q : Bool, (q = true → has (no3 e lo hi) lo = true ∧ -2147483648 < lo ∧ lo < 2147483648) → ∃ x p, flyballlaw17_of.j1 (k + 1) q e lo hi = some (x, p) ∧ (p = true → has (no3 e lo hi) x = true ∧ -2147483648 < x ∧ x < 2147483648) := by
    intro q hq
    simp only [flyballlaw17_of.j1, has_f, Option.bind_some]
    cases q with
    | true => exact ⟨lo, true, by simp, hq⟩
    | false =>
      simp only [Bool.false_eq_true, if_false]
      by_cases c1 : hi > -2147483648
      · rw [if_pos c1]
        by_cases c2 : hi < 2147483648
        · rw [if_pos c2]
          by_cases c3 : has (no3 e lo hi) hi = true
          · rw [if_pos c3]; exact ⟨hi, true, rfl, fun _ => ⟨c3, c1, c2⟩⟩
          · rw [if_neg c3]; exact ⟨0, _, rfl, fun h => ⟨h, by omega, by omega⟩⟩
        · rw [if_neg c2]; exact ⟨0, _, rfl, fun h => ⟨h, by omega, by omega⟩⟩
      · rw [if_neg c1]; exact ⟨0, _, rfl, fun h => ⟨h, by omega, by omega⟩⟩
  have j0 : ∀ q : Bool, (q = true → has (no3 e lo hi) n = true ∧ -2147483648 < n ∧ n < 2147483648) → ∃ x p, flyballlaw17_of.j0 (k + 2) n q e lo hi = some (x, p) ∧ (p = true → has (no3 e lo hi) x = true ∧ -2147483648 < x ∧ x < 2147483648) := by
    intro q hq
    simp only [flyballlaw17_of.j0, has_f, Option.bind_some]
    cases q with
    | true => exact ⟨n, true, by simp, hq⟩
    | false =>
      simp only [Bool.false_eq_true, if_false]
      by_cases c1 : lo > -2147483648
      · rw [if_pos c1]
        by_cases c2 : lo < 2147483648
        · rw [if_pos c2]; exact j1 _ fun h => ⟨h, c1, c2⟩
        · rw [if_neg c2]; exact j1 _ fun h => by cases h
      · rw [if_neg c1]; exact j1 _ fun h => by cases h
  unfold flyballlaw17_of.f
  rw [has_f]
  simp only [Option.bind_some]
  by_cases c1 : has (no3 e lo hi) n = true
  · rw [if_pos c1]
    by_cases c2 : n > -2147483648
    · rw [if_pos c2]; exact j0 _ fun h => ⟨c1, c2, of_decide_eq_true h⟩
    · rw [if_neg c2]; exact j0 _ fun h => by cases h
  · rw [if_neg c1]; exact j0 _ fun h => by cases h
theorem wrap_mul {x y : Int} (hx : -2147483648 < x ∧ x < 2147483648) (hy : -2147483648 < y ∧ y < 2147483648) : wrap64 (x * y) = x * y := by
  have h := mul_bd (a := -2147483648) (b := 2147483648) (c := -2147483648) (d := 2147483648) (x := x) (y := y) (by omega) (by omega) (by omega) (by omega)
  unfold min4 max4 at h
  exact wrap_id (by omega) (by omega)
theorem sound_j1 (k : Nat) (hk : 40 ≤ k) (a0_0 : Bool) (a0_1 a0_2 : Int) (a1_0 : Bool) (a1_1 a1_2 : Int) (x y z : Int) (hx : has (no3 a0_0 a0_1 a0_2) x = true ∧ -2147483648 < x ∧ x < 2147483648) (hy : has (no3 a1_0 a1_1 a1_2) y = true ∧ -2147483648 < y ∧ y < 2147483648) (hz : z = x ∧ 0 ≤ x ∨ z = -x ∧ x < 0) :
    flyballlaw17_IntsSound.j1 (k + 1) true x y z a0_0 a0_1 a0_2 a1_0 a1_1 a1_2 = some true := by
  have oa := no3_ok a0_0 a0_1 a0_2
  have ob := no3_ok a1_0 a1_1 a1_2
  have r : ∀ s : Iv, Ok s → no3 s.1 s.2.1 s.2.2 = s := fun s h => nr_ok h
  have nx : Near x := by unfold Near; omega
  have ny : Near y := by unfold Near; omega
  have td := tdiv_bd (x := x) (y := y) (by omega)
  simp only [flyballlaw17_IntsSound.j1, add_f k (by omega), sub_f k (by omega), mul_f k (by omega), div_f k (by omega), abs_f k (by omega), neg_f, has_f, Option.bind_some, r _ (neg_ok _), r _ (abs_ok _), r _ (mul_ok _ _), r _ (add_ok oa ob), r _ (sub_ok oa), r _ (div_ok oa ob)]
  rw [wrap_id (x := x + y) (by omega) (by omega), wrap_id (x := x - y) (by omega) (by omega), wrap_mul hx.2 hy.2, wrap_id (x := -x) (by omega) (by omega), wrap_id (x := Int.tdiv x y) (by omega) (by omega)]
  rw [if_pos (sound_add oa ob nx ny hx.1 hy.1), if_pos (sound_sub oa ob nx ny hx.1 hy.1), if_pos (sound_mul oa ob nx ny hx.1 hy.1), if_pos (sound_neg oa nx hx.1), if_pos trivial, if_pos (sound_abs oa nx hx.1 hz)]
  by_cases c : y = 0
  · rw [if_pos c]
  · rw [if_neg c, sound_div oa ob nx ny c hx.1 hy.1]
theorem IntsSound (a0_0 : Bool) (a0_1 a0_2 : Int) (a1_0 : Bool) (a1_1 a1_2 : Int) (a2 a3 : Int) (_ : (Lit.int .i64 a0_1).wf = true) (_ : (Lit.int .i64 a0_2).wf = true) (_ : (Lit.int .i64 a1_1).wf = true) (_ : (Lit.int .i64 a1_2).wf = true) (_ : (Lit.int .i64 a2).wf = true) (_ : (Lit.int .i64 a3).wf = true) :
    ∃ k, flyballlaw17_IntsSound.f k a0_0 a0_1 a0_2 a1_0 a1_1 a1_2 a2 a3 = some true := by
  suffices h : ∀ k, 50 ≤ k → flyballlaw17_IntsSound.f (k + 2) a0_0 a0_1 a0_2 a1_0 a1_1 a1_2 a2 a3 = some true from ⟨_, h 50 (by omega)⟩
  intro k hk
  obtain ⟨x, p, ex, hx⟩ := of_f (k + 2) (by omega) a0_0 a0_1 a0_2 a2
  obtain ⟨y, q, ey, hy⟩ := of_f (k + 2) (by omega) a1_0 a1_1 a1_2 a3
  unfold flyballlaw17_IntsSound.f
  rw [works17 _ (by omega)]
  simp only [Option.bind_some, if_true, ex, ey]
  cases p with
  | false => simp [flyballlaw17_IntsSound.j0]
  | true =>
    cases q with
    | false => simp [flyballlaw17_IntsSound.j0]
    | true =>
      have gx := hx rfl
      have gy := hy rfl
      simp only [flyballlaw17_IntsSound.j0, Bool.not_true, Bool.false_eq_true, if_false, if_true]
      by_cases c : x < 0
      · rw [if_pos c, wrap_id (x := -x) (by omega) (by omega)]
        exact sound_j1 k (by omega) _ _ _ _ _ _ x y (-x) gx gy (.inr ⟨rfl, c⟩)
      · rw [if_neg c]
        exact sound_j1 k (by omega) _ _ _ _ _ _ x y x gx gy (.inl ⟨rfl, by omega⟩)
end Go.Proofs.Ytinmgnlofininaa.Pure
