/- What the claim needs of several texts, in one. -/
import Derived.RowKit
import Derived.KernelRfl
import Derived.WalkKit
import Derived.ProofKit
import Derived.OpenShut
import Derived.ShutString
import Derived.ChangeOld
import Derived.Below
import Derived.SizedLaws
import Derived.Lib.SmallJoins
import Derived.Test.YtinmgnlofininaaZHW
import Derived.Test.YtinmgnlofininaaZHx0
import Derived.Test.YtinmgnlofininaaZHx3
import Derived.Test.YtinmgnlofininaaZHx4
import Derived.Test.YtinmgnlofininaaZHx5
import Derived.Test.YtinmgnlofininaaZHx6
import Derived.Test.YtinmgnlofininaaZHx7
import Derived.Test.YtinmgnlofininaaZHx8
import Derived.Test.YtinmgnlofininaaZHx10
import Derived.Test.YtinmgnlofininaaZHx16
import Derived.Test.YtinmgnlofininaaZHx19
import Derived.Test.YtinmgnlofininaaZHx20
import Derived.Test.YtinmgnlofininaaZHx21
section
set_option linter.unusedVariables false
set_option linter.unusedSimpArgs false
namespace Go.Proofs.Ytinmgnlofininaa.Spec
open Go.RowKit Go.Proofs.YtinmgnlofininaaW.PrintWords Go.Proofs.YtinmgnlofininaaW.PrintLast Go.Proofs.YtinmgnlofininaaW.PrintMore
abbrev Iv := Bool × Int × Int
theorem mx_eq (a b : Int) : mx a b = max a b := by unfold mx; split <;> omega
theorem mn_eq (a b : Int) : mn a b = min a b := by unfold mn; split <;> omega
theorem wrap_id {x : Int} (h : -9223372036854775808 ≤ x) (h' : x ≤ 9223372036854775807) : wrap64 x = x := by unfold wrap64; omega
def no3 (e : Bool) (lo hi : Int) : Iv := if e = true ∨ lo > hi ∨ lo ≥ 1099511627776 ∨ hi ≤ -1099511627776 then (true, 0, 0) else (false, max lo (-1099511627776), min hi 1099511627776)
abbrev nr (s : Iv) : Iv := no3 s.1 s.2.1 s.2.2
/-- Written in the one way. -/
def Ok (s : Iv) : Prop := s = (true, 0, 0) ∨ s.1 = false ∧ -1099511627776 ≤ s.2.1 ∧ s.2.1 ≤ s.2.2 ∧ s.2.2 ≤ 1099511627776 ∧ s.2.1 < 1099511627776 ∧ -1099511627776 < s.2.2
theorem no3_ok (e : Bool) (lo hi : Int) : Ok (no3 e lo hi) := by
  unfold no3 Ok
  split
  · exact .inl rfl
  · refine .inr ⟨rfl, ?_⟩
    simp only
    omega
theorem Ok.cases {s : Iv} (h : Ok s) : s = (true, 0, 0) ∨ ∃ lo hi, s = (false, lo, hi) ∧ -1099511627776 ≤ lo ∧ lo ≤ hi ∧ hi ≤ 1099511627776 ∧ lo < 1099511627776 ∧ -1099511627776 < hi := by
  obtain ⟨e, lo, hi⟩ := s
  rcases h with h | ⟨h, h1⟩
  · exact .inl h
  · simp only at h
    subst h
    exact .inr ⟨lo, hi, rfl, h1⟩
theorem no3_false {lo hi : Int} (h1 : -1099511627776 ≤ lo) (h2 : lo ≤ hi) (h3 : hi ≤ 1099511627776) (h4 : lo < 1099511627776) (h5 : -1099511627776 < hi) : no3 false lo hi = (false, lo, hi) := by
  unfold no3
  rw [if_neg (by simp; omega)]
  rw [show max lo (-1099511627776) = lo by omega, show min hi 1099511627776 = hi by omega]
theorem no3_true (lo hi : Int) : no3 true lo hi = (true, 0, 0) := by simp [no3]
theorem nr_ok {s : Iv} (h : Ok s) : nr s = s := by
  rcases h.cases with rfl | ⟨lo, hi, rfl, h1, h2, h3, h4, h5⟩
  · exact no3_true _ _
  · exact no3_false h1 h2 h3 h4 h5
def has (s : Iv) (n : Int) : Bool := !s.1 && (decide (s.2.1 = -1099511627776 ∨ s.2.1 ≤ n)) && (decide (s.2.2 = 1099511627776 ∨ n ≤ s.2.2))
def inside (a b : Iv) : Bool := a.1 || (!b.1 && decide (b.2.1 ≤ a.2.1) && decide (a.2.2 ≤ b.2.2))
def join (a b : Iv) : Iv := if a.1 = true then b else if b.1 = true then a else (false, min a.2.1 b.2.1, max a.2.2 b.2.2)
def meet (a b : Iv) : Iv := if a.1 = true ∨ b.1 = true then (true, 0, 0) else no3 false (max a.2.1 b.2.1) (min a.2.2 b.2.2)
def neg (a : Iv) : Iv := if a.1 = true then (true, 0, 0) else no3 false (-a.2.2) (-a.2.1)
def clip (n : Int) : Int := max (min n 1099511627776) (-1099511627776)
def sum (x y : Int) : Int := if x ≥ 1099511627776 ∨ x ≤ -1099511627776 then x else if y ≥ 1099511627776 ∨ y ≤ -1099511627776 then y else clip (x + y)
def hull (lo hi : Int) : Iv := (false, min (clip lo) 1099511627775, max (clip hi) (-1099511627775))
def add (a b : Iv) : Iv := if a.1 = true ∨ b.1 = true then (true, 0, 0) else hull (sum a.2.1 b.2.1) (sum a.2.2 b.2.2)
def sub (a b : Iv) : Iv := add a (neg b)
def abs (a : Iv) : Iv := join (meet a (false, 0, 1099511627776)) (meet (neg a) (false, 0, 1099511627776))
theorem meet_ok (a b : Iv) : Ok (meet a b) := by
  unfold meet
  split
  · exact .inl rfl
  · exact no3_ok _ _ _
theorem neg_ok (a : Iv) : Ok (neg a) := by
  unfold neg
  split
  · exact .inl rfl
  · exact no3_ok _ _ _
theorem neg_false {lo hi : Int} (h1 : -1099511627776 ≤ lo) (h2 : lo ≤ hi) (h3 : hi ≤ 1099511627776) (h4 : lo < 1099511627776) (h5 : -1099511627776 < hi) : neg (false, lo, hi) = (false, -hi, -lo) := by
  unfold neg
  simp only [Bool.false_eq_true, if_false]
  exact no3_false (by omega) (by omega) (by omega) (by omega) (by omega)
theorem clip_bd (n : Int) : -1099511627776 ≤ clip n ∧ clip n ≤ 1099511627776 := by unfold clip; omega
theorem add_false {a b : Iv} (ha : a.1 = false) (hb : b.1 = false) : add a b = hull (sum a.2.1 b.2.1) (sum a.2.2 b.2.2) := by simp [add, ha, hb]
theorem hull_ok {lo hi : Int} (h : min (clip lo) 1099511627775 ≤ max (clip hi) (-1099511627775)) : Ok (hull lo hi) := by
  have := clip_bd lo
  have := clip_bd hi
  refine .inr ⟨rfl, ?_⟩
  simp only [hull]
  omega
theorem add_ok {a b : Iv} (ha : Ok a) (hb : Ok b) : Ok (add a b) := by
  rcases ha.cases with rfl | ⟨lo, hi, rfl, h1, h2, h3, h4, h5⟩
  · simp [add, Ok]
  · rcases hb.cases with rfl | ⟨lo', hi', rfl, g1, g2, g3, g4, g5⟩
    · simp [add, Ok]
    · rw [add_false rfl rfl]
      apply hull_ok
      simp only
      unfold sum clip
      split <;> split <;> (try split) <;> (try split) <;> omega
theorem sub_ok {a b : Iv} (ha : Ok a) : Ok (sub a b) := add_ok ha (neg_ok b)
end Go.Proofs.Ytinmgnlofininaa.Spec
end
section
set_option linter.unusedVariables false
set_option linter.unusedSimpArgs false
namespace Go.Proofs.Ytinmgnlofininaa.Ev
open Go.RowKit Go.Proofs.Ytinmgnlofininaa.PAll Go.Proofs.YtinmgnlofininaaW.PrintWords Go.Proofs.YtinmgnlofininaaW.PrintLast Go.Proofs.YtinmgnlofininaaW.PrintMore Go.Proofs.Ytinmgnlofininaa.Spec
theorem norm_f (e : Bool) (lo hi : Int) : ints_norm.f e lo hi = some (no3 e lo hi) := by
  unfold ints_norm.f ints_none.f no3
  cases e
  · simp only [Bool.false_eq_true, if_false, false_or, Option.bind_some, mx_eq, mn_eq]
    by_cases h1 : lo > hi
    · simp [h1]
    · by_cases h2 : lo ≥ 1099511627776
      · simp [h1, h2]
      · by_cases h3 : hi ≤ -1099511627776
        · simp [h1, h2, h3]
        · simp [h1, h2, h3]
  · simp
theorem make_f (lo hi : Int) : ints_Make.f lo hi = some (no3 false lo hi) := by
  unfold ints_Make.f
  rw [norm_f]
  rfl
theorem neg_f {e : Bool} {lo hi : Int} : ints_Neg.f e lo hi = some (neg (no3 e lo hi)) := by
  unfold ints_Neg.f
  rw [norm_f]
  rcases (no3_ok e lo hi).cases with h | ⟨l, u, h, h1, h2, h3, h4, h5⟩
  · rw [h]; rfl
  · rw [h]
    simp only [Option.bind_some, Bool.false_eq_true, if_false]
    rw [wrap_id (by omega) (by omega), wrap_id (by omega) (by omega), make_f]
    rfl
theorem clip_f (n : Int) : ints_clip.f n = some (clip n) := by unfold ints_clip.f clip; rw [mx_eq, mn_eq]
theorem hull_f (x y : Int) : ints_hull.f x y = some (hull x y) := by
  unfold ints_hull.f
  simp only [clip_f, Option.bind_some, mx_eq, mn_eq]
  rfl
theorem far_f (n : Int) : ints_far.f n = some (decide (n ≥ 1099511627776 ∨ n ≤ -1099511627776)) := by
  unfold ints_far.f
  split
  · rename_i h; simp [h]
  · rename_i h; simp [h]
theorem sum_f {x y : Int} (hx : -1099511627776 ≤ x ∧ x ≤ 1099511627776) (hy : -1099511627776 ≤ y ∧ y ≤ 1099511627776) : ints_sum.f x y = some (sum x y) := by
  unfold ints_sum.f sum
  simp only [far_f, clip_f, Option.bind_some, decide_eq_true_eq]
  rw [wrap_id (by omega) (by omega)]
  split
  · rfl
  · split <;> rfl
theorem add_f (k : Nat) (hk : 0 < k) (e : Bool) (lo hi : Int) (e' : Bool) (lo' hi' : Int) : ints_Add.f k e lo hi e' lo' hi' = some (add (no3 e lo hi) (no3 e' lo' hi')) := by
  obtain ⟨k, rfl⟩ : ∃ m, k = m + 1 := ⟨k - 1, by omega⟩
  unfold ints_Add.f
  simp only [norm_f, Option.bind_some]
  rcases (no3_ok e lo hi).cases with h | ⟨l, u, h, h1, h2, h3, h4, h5⟩
  · rw [h]; simp [ints_Add.j0, add, ints_none.f]
  · rcases (no3_ok e' lo' hi').cases with g | ⟨l', u', g, g1, g2, g3, g4, g5⟩
    · rw [h, g]; simp [ints_Add.j0, add, ints_none.f]
    · rw [h, g, add_false rfl rfl]
      simp only [ints_Add.j0, Bool.false_eq_true, if_false]
      rw [sum_f (by omega) (by omega), sum_f (by omega) (by omega)]
      simp only [Option.bind_some, hull_f]
theorem sub_f (k : Nat) (hk : 0 < k) (e : Bool) (lo hi : Int) (e' : Bool) (lo' hi' : Int) : ints_Sub.f k e lo hi e' lo' hi' = some (sub (no3 e lo hi) (no3 e' lo' hi')) := by
  unfold ints_Sub.f
  simp only [neg_f, Option.bind_some, add_f k hk]
  rw [show no3 (neg (no3 e' lo' hi')).1 (neg (no3 e' lo' hi')).2.1 (neg (no3 e' lo' hi')).2.2 = neg (no3 e' lo' hi') from nr_ok (neg_ok _)]
  rfl
theorem join2_f (k : Nat) (hk : 2 < k) (e : Bool) (lo hi : Int) (e' : Bool) (lo' hi' : Int) : ints_Join.f k [(⟨e, lo, hi⟩ : S23), (⟨e', lo', hi'⟩ : S23)] = some (join (no3 e lo hi) (no3 e' lo' hi')) := by
  obtain ⟨k, rfl⟩ : ∃ m, k = m + 3 := ⟨k - 3, by omega⟩
  have h0 : rd_T23 [(⟨e, lo, hi⟩ : S23), (⟨e', lo', hi'⟩ : S23)] 0 = ⟨e, lo, hi⟩ := rfl
  have h1 : rd_T23 [(⟨e, lo, hi⟩ : S23), (⟨e', lo', hi'⟩ : S23)] 1 = ⟨e', lo', hi'⟩ := rfl
  have w0 : wrap64 (0 + 1) = 1 := by unfold wrap64; omega
  have w1 : wrap64 (1 + 1) = 2 := by unfold wrap64; omega
  simp only [ints_Join.f, ints_none.f, Option.bind_some, ints_Join.l0, h0, h1, w0, w1, norm_f, mx_eq, mn_eq]
  rcases (no3_ok e lo hi).cases with h | ⟨l, u, h, _⟩ <;> rcases (no3_ok e' lo' hi').cases with g | ⟨l', u', g, _⟩ <;> rw [h, g] <;> simp [join]
theorem point_f (n : Int) : ints_Point.f n = some (no3 false n n) := by
  unfold ints_Point.f
  rw [make_f]
  rfl
theorem has_f (e : Bool) (lo hi n : Int) : ints_Has.f e lo hi n = some (has (no3 e lo hi) n) := by
  unfold ints_Has.f
  rw [norm_f]
  rcases (no3_ok e lo hi).cases with h | ⟨l, u, h, h1, h2, h3, h4, h5⟩ <;> rw [h]
  · rfl
  · simp only [Option.bind_some, has, Bool.false_eq_true, if_false, Bool.not_false, Bool.true_and]
    by_cases c1 : l = -1099511627776 <;> by_cases c2 : u = 1099511627776 <;> by_cases c3 : n ≥ l <;> simp [c1, c2, c3] <;> omega
theorem meet_f (k : Nat) (hk : 0 < k) (e : Bool) (lo hi : Int) (e' : Bool) (lo' hi' : Int) : ints_Meet.f k e lo hi e' lo' hi' = some (meet (no3 e lo hi) (no3 e' lo' hi')) := by
  obtain ⟨k, rfl⟩ : ∃ m, k = m + 1 := ⟨k - 1, by omega⟩
  unfold ints_Meet.f
  simp only [norm_f, Option.bind_some]
  rcases (no3_ok e lo hi).cases with h | ⟨l, u, h, h1, h2, h3, h4, h5⟩ <;> rw [h]
  · simp [ints_Meet.j0, meet, ints_none.f]
  · rcases (no3_ok e' lo' hi').cases with g | ⟨l', u', g, g1, g2, g3, g4, g5⟩ <;> rw [g]
    · simp [ints_Meet.j0, meet, ints_none.f]
    · simp only [ints_Meet.j0, meet, Bool.false_eq_true, if_false, make_f, Option.bind_some, mx_eq, mn_eq, or_self]
theorem abs_f (k : Nat) (hk : 2 < k) (e : Bool) (lo hi : Int) : ints_Abs.f k e lo hi = some (abs (no3 e lo hi)) := by
  unfold ints_Abs.f
  have z : no3 false 0 1099511627776 = (false, 0, 1099511627776) := no3_false (by omega) (by omega) (by omega) (by omega) (by omega)
  have r : ∀ s : Iv, Ok s → no3 s.1 s.2.1 s.2.2 = s := fun s h => nr_ok h
  simp only [make_f, Option.bind_some, z, meet_f k (by omega), neg_f, join2_f k hk, r _ (meet_ok _ _), r _ (neg_ok _)]
  rfl
end Go.Proofs.Ytinmgnlofininaa.Ev
end
section
set_option linter.unusedVariables false
set_option linter.unusedSimpArgs false
namespace Go.Proofs.Ytinmgnlofininaa.Ev
open Go.RowKit Go.Proofs.Ytinmgnlofininaa.PAll Go.Proofs.YtinmgnlofininaaW.PrintWords Go.Proofs.YtinmgnlofininaaW.PrintLast Go.Proofs.YtinmgnlofininaaW.PrintMore Go.Proofs.Ytinmgnlofininaa.Spec
theorem rnorm_f (e : Bool) (lo hi : Int) : flyballref17_Norm.f e lo hi = some (no3 e lo hi) := by
  unfold flyballref17_Norm.f no3
  cases e
  · simp only [Bool.false_eq_true, if_false, false_or, mx_eq, mn_eq]
    by_cases h1 : lo > hi
    · simp [h1]
    · by_cases h2 : lo ≥ 1099511627776
      · simp [h1, h2]
      · by_cases h3 : hi ≤ -1099511627776
        · simp [h1, h2, h3]
        · simp [h1, h2, h3]
  · simp
end Go.Proofs.Ytinmgnlofininaa.Ev
end
section
set_option linter.unusedVariables false
set_option linter.unusedSimpArgs false
namespace Go.Proofs.Ytinmgnlofininaa.Spec
open Go.RowKit
theorem clip_mono {x y : Int} (h : x ≤ y) : clip x ≤ clip y := by unfold clip; omega
theorem clip_id {x : Int} (h : -1099511627776 ≤ x) (h' : x ≤ 1099511627776) : clip x = x := by unfold clip; omega
theorem mul_bd1 {a b x : Int} (y : Int) (h1 : a ≤ x) (h2 : x ≤ b) : min (a * y) (b * y) ≤ x * y ∧ x * y ≤ max (a * y) (b * y) := by
  by_cases hy : 0 ≤ y
  · have := Int.mul_le_mul_of_nonneg_right h1 hy
    have := Int.mul_le_mul_of_nonneg_right h2 hy
    omega
  · have := Int.mul_le_mul_of_nonpos_right h1 (show y ≤ 0 by omega)
    have := Int.mul_le_mul_of_nonpos_right h2 (show y ≤ 0 by omega)
    omega
theorem mul_bd2 {c d y : Int} (x : Int) (h1 : c ≤ y) (h2 : y ≤ d) : min (x * c) (x * d) ≤ x * y ∧ x * y ≤ max (x * c) (x * d) := by
  have := mul_bd1 x h1 h2
  rw [Int.mul_comm c, Int.mul_comm d, Int.mul_comm y] at this
  exact this
def min4 (a b c d : Int) : Int := min (min a b) (min c d)
def max4 (a b c d : Int) : Int := max (max a b) (max c d)
theorem mul_bd {a b c d x y : Int} (h1 : a ≤ x) (h2 : x ≤ b) (h3 : c ≤ y) (h4 : y ≤ d) : min4 (a * c) (a * d) (b * c) (b * d) ≤ x * y ∧ x * y ≤ max4 (a * c) (a * d) (b * c) (b * d) := by
  have h := mul_bd1 y h1 h2
  have ha := mul_bd2 a h3 h4
  have hb := mul_bd2 b h3 h4
  unfold min4 max4
  omega
def mul (a b : Iv) : Iv := if a.1 = true ∨ b.1 = true then (true, 0, 0) else
  hull (min4 (clip (a.2.1 * b.2.1)) (clip (a.2.1 * b.2.2)) (clip (a.2.2 * b.2.1)) (clip (a.2.2 * b.2.2))) (max4 (clip (a.2.1 * b.2.1)) (clip (a.2.1 * b.2.2)) (clip (a.2.2 * b.2.1)) (clip (a.2.2 * b.2.2)))
theorem clip_min4 (a b c d : Int) : min4 (clip a) (clip b) (clip c) (clip d) = clip (min4 a b c d) := by unfold min4 clip; omega
theorem clip_max4 (a b c d : Int) : max4 (clip a) (clip b) (clip c) (clip d) = clip (max4 a b c d) := by unfold max4 clip; omega
theorem mul_false (lo hi l u : Int) : mul (false, lo, hi) (false, l, u) = hull (clip (min4 (lo * l) (lo * u) (hi * l) (hi * u))) (clip (max4 (lo * l) (lo * u) (hi * l) (hi * u))) := by
  rw [← clip_min4, ← clip_max4]
  rfl
theorem clip_clip (a : Int) : clip (clip a) = clip a := by unfold clip; omega
end Go.Proofs.Ytinmgnlofininaa.Spec
end
section
set_option linter.unusedVariables false
set_option linter.unusedSimpArgs false
namespace Go.Proofs.Ytinmgnlofininaa.Spec
open Go.RowKit
theorem foldl_min (l : List Int) : ∀ a : Int, l.foldl min a ≤ a ∧ (∀ v ∈ l, l.foldl min a ≤ v) ∧ (l.foldl min a = a ∨ l.foldl min a ∈ l) := by
  induction l with
  | nil => intro a; simp
  | cons x l ih =>
    intro a
    obtain ⟨h1, h2, h3⟩ := ih (min a x)
    simp only [List.foldl_cons, List.mem_cons]
    refine ⟨by omega, ?_, ?_⟩
    · rintro v (rfl | hv)
      · omega
      · exact h2 v hv
    · rcases h3 with h3 | h3
      · by_cases c : a ≤ x
        · left; omega
        · right; left; omega
      · right; right; exact h3
theorem foldl_max (l : List Int) : ∀ a : Int, a ≤ l.foldl max a ∧ (∀ v ∈ l, v ≤ l.foldl max a) ∧ (l.foldl max a = a ∨ l.foldl max a ∈ l) := by
  induction l with
  | nil => intro a; simp
  | cons x l ih =>
    intro a
    obtain ⟨h1, h2, h3⟩ := ih (max a x)
    simp only [List.foldl_cons, List.mem_cons]
    refine ⟨by omega, ?_, ?_⟩
    · rintro v (rfl | hv)
      · omega
      · exact h2 v hv
    · rcases h3 with h3 | h3
      · by_cases c : x ≤ a
        · left; omega
        · right; left; omega
      · right; right; exact h3
/-- A quotient of ends. -/
def ov (x y : Int) : Int := if x ≥ 1099511627776 ∨ x ≤ -1099511627776 then (if (decide (x < 0) != decide (y < 0)) = true then -1099511627776 else 1099511627776) else Int.tdiv x y
/-- The ends by which is divided. -/
def ends (b : Iv) : List Int := [b.2.1, b.2.2, -1, 1].filter fun y => decide (y ≠ 0) && has b y
def quos (a b : Iv) : List Int := (ends b).map (ov a.2.1) ++ (ends b).map (ov a.2.2)
def div (a b : Iv) : Iv := if a.1 = true ∨ b.1 = true ∨ ends b = [] then (true, 0, 0) else hull ((quos a b).foldl min 1099511627776) ((quos a b).foldl max (-1099511627776))
theorem tdiv_bd {x y : Int} (hx : -1099511627776 ≤ x ∧ x ≤ 1099511627776) : -1099511627776 ≤ Int.tdiv x y ∧ Int.tdiv x y ≤ 1099511627776 := by
  have h := Int.natAbs_tdiv x y
  have : x.natAbs / y.natAbs ≤ x.natAbs := Nat.div_le_self _ _
  have e : x.natAbs.div y.natAbs = x.natAbs / y.natAbs := rfl
  omega
theorem tdiv_far {x y : Int} (hx : -1099511627776 < x ∧ x < 1099511627776) (hy : y ≥ 1099511627776 ∨ y ≤ -1099511627776) : Int.tdiv x y = 0 := by
  have h := Int.natAbs_tdiv x y
  have : x.natAbs / y.natAbs = 0 := Nat.div_eq_of_lt (by omega)
  have e : x.natAbs.div y.natAbs = x.natAbs / y.natAbs := rfl
  omega
theorem ov_bd (x y : Int) (hx : -1099511627776 ≤ x ∧ x ≤ 1099511627776) : -1099511627776 ≤ ov x y ∧ ov x y ≤ 1099511627776 := by
  unfold ov
  have := tdiv_bd (y := y) hx
  split
  · split <;> omega
  · exact this
theorem ov_neg (x y : Int) (hy : y ≠ 0) (hx : -1099511627776 ≤ x ∧ x ≤ 1099511627776) : ov x (-y) = -ov x y := by
  unfold ov
  split
  · rename_i c
    by_cases p : x < 0 <;> by_cases q : y < 0 <;> simp [p, q] <;> omega
  · exact Int.tdiv_neg x y
theorem ov_mono_x {x x' y : Int} (hy : 0 < y) (hx : -1099511627776 ≤ x) (hx' : x' ≤ 1099511627776) (h : x ≤ x') : ov x y ≤ ov x' y := by
  have b1 := ov_bd x y ⟨hx, by omega⟩
  have b2 := ov_bd x' y ⟨by omega, hx'⟩
  by_cases c : x ≤ -1099511627776
  · have : ov x y = -1099511627776 := by unfold ov; rw [if_pos (.inr c), if_pos (by simp; omega)]
    omega
  · by_cases d : x' ≥ 1099511627776
    · have : ov x' y = 1099511627776 := by unfold ov; rw [if_pos (.inl d), if_neg (by simp; omega)]
      omega
    · have e1 : ov x y = Int.tdiv x y := by unfold ov; rw [if_neg (by omega)]
      have e2 : ov x' y = Int.tdiv x' y := by unfold ov; rw [if_neg (by omega)]
      rw [e1, e2]
      exact Int.tdiv_le_tdiv hy h
theorem tdiv_anti {x y y' : Int} (hx : 0 ≤ x) (hy : 0 < y) (h : y ≤ y') : Int.tdiv x y' ≤ Int.tdiv x y := by
  obtain ⟨a, rfl⟩ := Int.eq_ofNat_of_zero_le hx
  obtain ⟨b, rfl⟩ := Int.eq_ofNat_of_zero_le (show 0 ≤ y by omega)
  obtain ⟨c, rfl⟩ := Int.eq_ofNat_of_zero_le (show 0 ≤ y' by omega)
  have := Nat.div_le_div_left (a := a) (show b ≤ c by omega) (show 0 < b by omega)
  show ((a / c : Nat) : Int) ≤ ((a / b : Nat) : Int)
  omega
/-- Between two divisors of one sign. -/
theorem ov_between {x e y f : Int} (hx : -1099511627776 ≤ x ∧ x ≤ 1099511627776) (he : 0 < e) (h1 : e ≤ y) (h2 : y ≤ f) : min (ov x e) (ov x f) ≤ ov x y ∧ ov x y ≤ max (ov x e) (ov x f) := by
  by_cases c : x ≥ 1099511627776 ∨ x ≤ -1099511627776
  · have s : ∀ z : Int, 0 < z → ov x z = ov x e := fun z hz => by
      unfold ov
      rw [if_pos c, if_pos c]
      simp only [show decide (z < 0) = decide (e < 0) by simp; omega]
    rw [s y (by omega), s f (by omega)]
    omega
  · have s : ∀ z : Int, ov x z = Int.tdiv x z := fun z => by unfold ov; rw [if_neg c]
    rw [s, s, s]
    by_cases p : 0 ≤ x
    · have := tdiv_anti p he h1
      have := tdiv_anti p (show 0 < y by omega) h2
      omega
    · have q : 0 ≤ -x := by omega
      have t : ∀ z : Int, Int.tdiv x z = -Int.tdiv (-x) z := fun z => by rw [Int.neg_tdiv, Int.neg_neg]
      have := tdiv_anti q he h1
      have := tdiv_anti q (show 0 < y by omega) h2
      rw [t e, t y, t f]
      omega
theorem mem_ends {l u y : Int} (h : -1099511627776 ≤ l) (h' : u ≤ 1099511627776) (hy : y = l ∨ y = u ∨ y = -1 ∨ y = 1) (h0 : y ≠ 0) (h1 : l ≤ y) (h2 : y ≤ u) : y ∈ ends (false, l, u) := by
  unfold ends
  rw [List.mem_filter]
  refine ⟨by simp; omega, ?_⟩
  simp only [has, Bool.and_eq_true, decide_eq_true_eq, Bool.not_false, true_and]
  omega
theorem ends_mem {l u y : Int} (h : -1099511627776 ≤ l) (hlu : l ≤ u) (h' : u ≤ 1099511627776) (g : l < 1099511627776) (g' : -1099511627776 < u) (hy : y ∈ ends (false, l, u)) : y ≠ 0 ∧ l ≤ y ∧ y ≤ u := by
  unfold ends at hy
  rw [List.mem_filter] at hy
  obtain ⟨h1, h2⟩ := hy
  simp only [List.mem_cons, List.not_mem_nil, or_false] at h1
  simp only [has, Bool.and_eq_true, decide_eq_true_eq, Bool.not_false, true_and] at h2
  omega
/-- Each quotient lies between two of the ends' quotients. -/
theorem quo_bd {lo hi l u x y : Int} (h1 : -1099511627776 ≤ lo) (h2 : hi ≤ 1099511627776) (g1 : -1099511627776 ≤ l) (g2 : u ≤ 1099511627776) (hx : lo ≤ x) (hx' : x ≤ hi) (hy : l ≤ y) (hy' : y ≤ u) (h0 : y ≠ 0) :
    (∃ q ∈ quos (false, lo, hi) (false, l, u), q ≤ ov x y) ∧ ∃ q ∈ quos (false, lo, hi) (false, l, u), ov x y ≤ q := by
  have mem : ∀ e, e ∈ ends (false, l, u) → ov lo e ∈ quos (false, lo, hi) (false, l, u) ∧ ov hi e ∈ quos (false, lo, hi) (false, l, u) := fun e he => by
    unfold quos
    exact ⟨List.mem_append.mpr (.inl (List.mem_map_of_mem he)), List.mem_append.mpr (.inr (List.mem_map_of_mem he))⟩
  by_cases p : 0 < y
  · have m1 : ∃ e, e ∈ ends (false, l, u) ∧ 0 < e ∧ e ≤ y := by
      by_cases c : 0 < l
      · exact ⟨l, mem_ends g1 g2 (by omega) (by omega) (by omega) (by omega), c, hy⟩
      · exact ⟨1, mem_ends g1 g2 (by omega) (by omega) (by omega) (by omega), by omega, by omega⟩
    obtain ⟨e, me, pe, le⟩ := m1
    have mu := mem_ends g1 g2 (y := u) (by omega) (by omega) (by omega) (by omega)
    have bl := ov_between (x := lo) ⟨h1, by omega⟩ pe le hy'
    have bh := ov_between (x := hi) ⟨by omega, h2⟩ pe le hy'
    have ml := ov_mono_x p h1 (by omega) hx
    have mh := ov_mono_x p (by omega) h2 hx'
    constructor
    · rcases (show min (ov lo e) (ov lo u) = ov lo e ∨ min (ov lo e) (ov lo u) = ov lo u by omega) with q | q
      · exact ⟨_, (mem e me).1, by omega⟩
      · exact ⟨_, (mem u mu).1, by omega⟩
    · rcases (show max (ov hi e) (ov hi u) = ov hi e ∨ max (ov hi e) (ov hi u) = ov hi u by omega) with q | q
      · exact ⟨_, (mem e me).2, by omega⟩
      · exact ⟨_, (mem u mu).2, by omega⟩
  · have m1 : ∃ e, e ∈ ends (false, l, u) ∧ e < 0 ∧ y ≤ e := by
      by_cases c : u < 0
      · exact ⟨u, mem_ends g1 g2 (by omega) (by omega) (by omega) (by omega), c, hy'⟩
      · exact ⟨-1, mem_ends g1 g2 (by omega) (by omega) (by omega) (by omega), by omega, by omega⟩
    obtain ⟨e, me, pe, le⟩ := m1
    have ml := mem_ends g1 g2 (y := l) (by omega) (by omega) (by omega) (by omega)
    have n : ∀ (z w : Int), -1099511627776 ≤ z ∧ z ≤ 1099511627776 → w ≠ 0 → ov z w = -ov z (-w) := fun z w hz hw => by rw [ov_neg z w hw hz, Int.neg_neg]
    have bl := ov_between (x := lo) (e := -e) (y := -y) (f := -l) ⟨h1, by omega⟩ (by omega) (by omega) (by omega)
    have bh := ov_between (x := hi) (e := -e) (y := -y) (f := -l) ⟨by omega, h2⟩ (by omega) (by omega) (by omega)
    have m2 := ov_mono_x (y := -y) (by omega) h1 (by omega) hx
    have m3 := ov_mono_x (y := -y) (by omega) (by omega) h2 hx'
    have n1 := n lo e ⟨h1, by omega⟩ (by omega)
    have n2 := n lo l ⟨h1, by omega⟩ (by omega)
    have n3 := n hi e ⟨by omega, h2⟩ (by omega)
    have n4 := n hi l ⟨by omega, h2⟩ (by omega)
    have n5 := n x y ⟨by omega, by omega⟩ h0
    constructor
    · rcases (show max (ov hi (-e)) (ov hi (-l)) = ov hi (-e) ∨ max (ov hi (-e)) (ov hi (-l)) = ov hi (-l) by omega) with q | q
      · exact ⟨_, (mem e me).2, by omega⟩
      · exact ⟨_, (mem l ml).2, by omega⟩
    · rcases (show min (ov lo (-e)) (ov lo (-l)) = ov lo (-e) ∨ min (ov lo (-e)) (ov lo (-l)) = ov lo (-l) by omega) with q | q
      · exact ⟨_, (mem e me).1, by omega⟩
      · exact ⟨_, (mem l ml).1, by omega⟩
theorem div_false {lo hi l u : Int} (h : ends (false, l, u) ≠ []) : div (false, lo, hi) (false, l, u) = hull ((quos (false, lo, hi) (false, l, u)).foldl min 1099511627776) ((quos (false, lo, hi) (false, l, u)).foldl max (-1099511627776)) := by
  unfold div
  rw [if_neg (by simp [h])]
theorem quo_mem {lo hi l u q : Int} (hq : q ∈ quos (false, lo, hi) (false, l, u)) : ∃ x y, (x = lo ∨ x = hi) ∧ y ∈ ends (false, l, u) ∧ q = ov x y := by
  unfold quos at hq
  rcases List.mem_append.mp hq with h | h
  · obtain ⟨y, hy, rfl⟩ := List.mem_map.mp h
    exact ⟨_, y, .inl rfl, hy, rfl⟩
  · obtain ⟨y, hy, rfl⟩ := List.mem_map.mp h
    exact ⟨_, y, .inr rfl, hy, rfl⟩
end Go.Proofs.Ytinmgnlofininaa.Spec
end
section
set_option linter.unusedVariables false
set_option linter.unusedSimpArgs false
namespace Go.Proofs.Ytinmgnlofininaa.Ev
open Go.RowKit Go.Proofs.Ytinmgnlofininaa.PAll Go.Proofs.YtinmgnlofininaaW.PrintWords Go.Proofs.YtinmgnlofininaaW.PrintLast Go.Proofs.YtinmgnlofininaaW.PrintMore Go.Proofs.Ytinmgnlofininaa.Spec
theorem h_abs_mul (x y : Int) : max x (-x) * max y (-y) = x * y ∨ max x (-x) * max y (-y) = -(x * y) := by
  rcases (show max x (-x) = x ∨ max x (-x) = -x by omega) with h | h <;> rcases (show max y (-y) = y ∨ max y (-y) = -y by omega) with g | g <;> rw [h, g]
  · exact .inl rfl
  · exact .inr (by rw [Int.mul_neg])
  · exact .inr (by rw [Int.neg_mul])
  · exact .inl (by rw [Int.neg_mul_neg])
abbrev Nf (x : Int) : Prop := -1099511627776 < x ∧ x < 1099511627776
theorem rtimes_j2 (k : Nat) {x y : Int} (hx : Nf x) (hy : Nf y) (h1 : x ≠ 0) (h2 : y ≠ 0) : flyballref17_times.j2 (k + 1) x y (wrap64 (x * y)) (max x (-x)) (max y (-y)) = some (clip (x * y)) := by
  rw [flyballref17_times.j2, if_neg (by omega)]
  have ny : 0 < max y (-y) := by omega
  have e : Int.tdiv 1099511627776 (max y (-y)) = 1099511627776 / max y (-y) := Int.tdiv_eq_ediv_of_nonneg (by omega)
  have b0 : 0 ≤ 1099511627776 / max y (-y) := Int.ediv_nonneg (by omega) (by omega)
  have b1 : 1099511627776 / max y (-y) ≤ 1099511627776 := Int.ediv_le_self _ (by omega)
  rw [e, wrap_id (x := 1099511627776 / max y (-y)) (by omega) (by omega)]
  have hd := Int.le_ediv_iff_mul_le (a := max x (-x)) (b := 1099511627776) ny
  have hm := h_abs_mul x y
  have hp : 0 ≤ max x (-x) * max y (-y) := Int.mul_nonneg (by omega) (by omega)
  by_cases c : max x (-x) ≤ 1099511627776 / max y (-y)
  · rw [if_neg (by omega)]
    have := hd.mp c
    rw [wrap_id (by omega) (by omega), clip_id (by omega) (by omega)]
  · rw [if_pos (by omega)]
    have : ¬ max x (-x) * max y (-y) ≤ 1099511627776 := fun h => c (hd.mpr h)
    have s : (decide (x < 0) != decide (y < 0)) = true ↔ x * y < 0 := by
      rcases Int.lt_or_gt_of_ne h1 with p | p <;> rcases Int.lt_or_gt_of_ne h2 with q | q
      · have := Int.mul_pos_of_neg_of_neg p q
        simp [p, q]; omega
      · have := Int.mul_neg_of_neg_of_pos p q
        simp [p, show ¬ y < 0 by omega, this]
      · have := Int.mul_neg_of_pos_of_neg p q
        simp [q, show ¬ x < 0 by omega, this]
      · have := Int.mul_pos p q
        simp [show ¬ x < 0 by omega, show ¬ y < 0 by omega]; omega
    by_cases c2 : (decide (x < 0) != decide (y < 0)) = true
    · rw [if_pos c2]
      have := s.mp c2
      congr 1
      unfold clip
      omega
    · rw [if_neg c2]
      have : ¬ x * y < 0 := fun h => c2 (s.mpr h)
      congr 1
      unfold clip
      omega
theorem rtimes_f (k : Nat) {x y : Int} (hx : Nf x) (hy : Nf y) : flyballref17_times.f (k + 3) x y = some (clip (x * y)) := by
  unfold flyballref17_times.f
  by_cases h1 : x = 0
  · subst h1; simp [flyballref17_times.j0, clip]; omega
  by_cases h2 : y = 0
  · subst h2; simp [flyballref17_times.j0, clip, h1]; omega
  rw [if_neg h1, flyballref17_times.j0, if_neg (by simp [h2])]
  have q : ∀ a, a = max x (-x) → flyballref17_times.j1 (k + 2) x y (wrap64 (x * y)) a = some (clip (x * y)) := by
    intro a ha
    subst ha
    rw [flyballref17_times.j1]
    by_cases c : y < 0
    · rw [if_pos c, wrap_id (x := -y) (by omega) (by omega), show -y = max y (-y) by omega]
      have := rtimes_j2 k hx hy h1 h2
      exact this
    · rw [if_neg c]
      have := rtimes_j2 k hx hy h1 h2
      rw [show max y (-y) = y by omega] at this
      exact this
  by_cases c : x < 0
  · rw [if_pos c, wrap_id (x := -x) (by omega) (by omega)]
    exact q _ (by omega)
  · rw [if_neg c]
    exact q _ (by omega)
def val (w i k : Int) : Int := if w = 1 then i - k else if w = 2 then clip (i * k) else if w = 3 then Int.tdiv i k else i + k
def upd (a : Iv) (v : Int) : Iv := (false, if a.1 = true then v else min a.2.1 v, if a.1 = true then v else max a.2.2 v)
def Hul (w : Int) (S : Int → Int → Prop) (a : Iv) : Prop := (a = (true, 0, 0) ∧ ∀ i k, ¬ S i k) ∨ ∃ lo hi, a = (false, lo, hi) ∧ (∃ i k, S i k ∧ val w i k = lo) ∧ (∃ i k, S i k ∧ val w i k = hi) ∧ ∀ i k, S i k → lo ≤ val w i k ∧ val w i k ≤ hi
theorem Hul.of {w : Int} {S S' : Int → Int → Prop} {a : Iv} (h : Hul w S a) (e : ∀ i k, S i k ↔ S' i k) : Hul w S' a := by
  have : S = S' := by funext i k; exact propext (e i k)
  rw [← this]
  exact h
theorem Hul.step {w : Int} {S : Int → Int → Prop} {a : Iv} (h : Hul w S a) (i k : Int) : Hul w (fun i' k' => S i' k' ∨ i' = i ∧ k' = k) (upd a (val w i k)) := by
  rcases h with ⟨rfl, h⟩ | ⟨lo, hi, rfl, ⟨i1, k1, m1, e1⟩, ⟨i2, k2, m2, e2⟩, h⟩
  · refine .inr ⟨_, _, rfl, ⟨i, k, .inr ⟨rfl, rfl⟩, by simp⟩, ⟨i, k, .inr ⟨rfl, rfl⟩, by simp⟩, ?_⟩
    rintro i' k' (g | ⟨rfl, rfl⟩)
    · exact absurd g (h _ _)
    · simp
  · refine .inr ⟨min lo (val w i k), max hi (val w i k), by simp [upd], ?_, ?_, ?_⟩
    · by_cases c : lo ≤ val w i k
      · exact ⟨i1, k1, .inl m1, by omega⟩
      · exact ⟨i, k, .inr ⟨rfl, rfl⟩, by omega⟩
    · by_cases c : val w i k ≤ hi
      · exact ⟨i2, k2, .inl m2, by omega⟩
      · exact ⟨i, k, .inr ⟨rfl, rfl⟩, by omega⟩
    · rintro i' k' (g | ⟨rfl, rfl⟩)
      · have := h _ _ g; omega
      · omega
theorem hl1_end (M : Nat) (w i k : Int) (ea : Bool) (x0 x1 : Int) (eb : Bool) (y0 y1 : Int) (a : Iv) (h : ¬ k ≤ y1) (hi : Nf i) :
    flyballref17_Hull.l1 (M + 1) w i k ea x0 x1 eb y0 y1 a.1 a.2.1 a.2.2 = flyballref17_Hull.l0 M w (i + 1) ea x0 x1 eb y0 y1 a.1 a.2.1 a.2.2 := by
  rw [flyballref17_Hull.l1, if_neg h, wrap_id (x := i + 1) (by omega) (by omega)]
theorem hl1_skip (M : Nat) (i : Int) (ea : Bool) (x0 x1 : Int) (eb : Bool) (y0 y1 : Int) (a : Iv) (h : 0 ≤ y1) :
    flyballref17_Hull.l1 (M + 1) 3 i 0 ea x0 x1 eb y0 y1 a.1 a.2.1 a.2.2 = flyballref17_Hull.l1 M 3 i 1 ea x0 x1 eb y0 y1 a.1 a.2.1 a.2.2 := by
  rw [flyballref17_Hull.l1, if_pos h]
  simp [wrap64]
theorem hl1_step (M : Nat) (w i k : Int) (ea : Bool) (x0 x1 : Int) (eb : Bool) (y0 y1 : Int) (a : Iv) (h : k ≤ y1) (hi : Nf i) (hk : Nf k) (h0 : w = 3 → k ≠ 0) :
    flyballref17_Hull.l1 (M + 4) w i k ea x0 x1 eb y0 y1 a.1 a.2.1 a.2.2 = flyballref17_Hull.l1 (M + 3) w i (k + 1) ea x0 x1 eb y0 y1 (upd a (val w i k)).1 (upd a (val w i k)).2.1 (upd a (val w i k)).2.2 := by
  have td := tdiv_bd (x := i) (y := k) (by omega)
  obtain ⟨e, lo, hi'⟩ := a
  rw [flyballref17_Hull.l1, if_pos h]
  unfold val upd
  by_cases c1 : w = 1
  · rw [if_pos c1, if_pos c1, wrap_id (x := k + 1) (by omega) (by omega), wrap_id (x := i - k) (by omega) (by omega)]
    cases e <;> simp [mn_eq, mx_eq]
  rw [if_neg c1, if_neg c1]
  by_cases c2 : w = 2
  · rw [if_pos c2, if_pos c2, wrap_id (x := k + 1) (by omega) (by omega), rtimes_f M hi hk]
    cases e <;> simp [mn_eq, mx_eq]
  rw [if_neg c2, if_neg c2]
  by_cases c3 : w = 3
  · rw [if_pos c3, if_pos c3, if_neg (h0 c3), wrap_id (x := k + 1) (by omega) (by omega), wrap_id (x := Int.tdiv i k) (by omega) (by omega)]
    cases e <;> simp [mn_eq, mx_eq]
  rw [if_neg c3, if_neg c3, wrap_id (x := k + 1) (by omega) (by omega), wrap_id (x := i + k) (by omega) (by omega)]
  cases e <;> simp [mn_eq, mx_eq]
/-- Of the box, what was before a place. -/
def Box (w x0 x1 y0 y1 : Int) (i k : Int) (i' k' : Int) : Prop := x0 ≤ i' ∧ i' ≤ x1 ∧ y0 ≤ k' ∧ k' ≤ y1 ∧ (w = 3 → k' ≠ 0) ∧ (i' < i ∨ i' = i ∧ k' < k)
theorem hl1_f (M : Nat) (w i : Int) (ea : Bool) (x0 x1 : Int) (eb : Bool) (y0 y1 : Int) (hi : Nf i) (h0 : x0 ≤ i ∧ i ≤ x1) (hy : Nf y0 ∧ Nf y1) : ∀ (d : Nat) (k : Int) (a : Iv), y1 + 1 - k = d → y0 ≤ k → Hul w (Box w x0 x1 y0 y1 i k) a →
    ∃ a', flyballref17_Hull.l1 (M + 3 + d + 1) w i k ea x0 x1 eb y0 y1 a.1 a.2.1 a.2.2 = flyballref17_Hull.l0 (M + 3) w (i + 1) ea x0 x1 eb y0 y1 a'.1 a'.2.1 a'.2.2 ∧ Hul w (Box w x0 x1 y0 y1 (i + 1) y0) a'
  | 0, k, a, e, hk, h => ⟨a, hl1_end _ _ _ _ _ _ _ _ _ _ _ (by omega) hi, h.of fun i' k' => by unfold Box; omega⟩
  | d + 1, k, a, e, hk, h => by
    by_cases c : w = 3 ∧ k = 0
    · obtain ⟨rfl, rfl⟩ := c
      obtain ⟨a', e1, e2⟩ := hl1_f M 3 i ea x0 x1 eb y0 y1 hi h0 hy d 1 a (by omega) (by omega) (h.of fun i' k' => by unfold Box; omega)
      refine ⟨a', ?_, e2⟩
      rw [← e1, show M + 3 + (d + 1) + 1 = (M + 3 + d + 1) + 1 by omega]
      exact hl1_skip _ _ _ _ _ _ _ _ _ (by omega)
    · obtain ⟨a', e1, e2⟩ := hl1_f M w i ea x0 x1 eb y0 y1 hi h0 hy d (k + 1) (upd a (val w i k)) (by omega) (by omega) ((h.step i k).of fun i' k' => by unfold Box; omega)
      refine ⟨a', ?_, e2⟩
      rw [← e1, show M + 3 + (d + 1) + 1 = (M + d + 1) + 4 by omega, show M + 3 + d + 1 = (M + d + 1) + 3 by omega]
      exact hl1_step _ _ _ _ _ _ _ _ _ _ _ (by omega) hi (by omega) (by omega)
def fin (a : Iv) : Iv := if a.1 = true then a else hull a.2.1 a.2.2
theorem hl0_f (w : Int) (ea : Bool) (x0 x1 : Int) (eb : Bool) (y0 y1 : Int) (hx : Nf x0 ∧ Nf x1) (hy : Nf y0 ∧ Nf y1) (n : Nat) (hn : y1 + 1 - y0 = n) : ∀ (d : Nat) (i : Int) (a : Iv), x1 + 1 - i = d → x0 ≤ i → Hul w (Box w x0 x1 y0 y1 i y0) a →
    ∃ a', flyballref17_Hull.l0 (3 + d * (n + 2) + 1) w i ea x0 x1 eb y0 y1 a.1 a.2.1 a.2.2 = some (fin a') ∧ Hul w (fun i' k' => x0 ≤ i' ∧ i' ≤ x1 ∧ y0 ≤ k' ∧ k' ≤ y1 ∧ (w = 3 → k' ≠ 0)) a'
  | 0, i, a, e, hk, h => by
    refine ⟨a, ?_, h.of fun i' k' => by unfold Box; omega⟩
    rw [flyballref17_Hull.l0, if_neg (by omega), mn_eq, mx_eq, mn_eq, mx_eq]
    obtain ⟨b, lo, hi⟩ := a
    unfold fin hull clip
    cases b
    · simp only [Bool.false_eq_true, if_false]
      congr 3
      · omega
      · omega
    · rfl
  | d + 1, i, a, e, hk, h => by
    obtain ⟨a1, e1, h1⟩ := hl1_f (d * (n + 2) + 1) w i ea x0 x1 eb y0 y1 (by omega) (by omega) hy n y0 a hn (by omega) (h.of fun i' k' => by unfold Box; omega)
    obtain ⟨a2, e2, h2⟩ := hl0_f w ea x0 x1 eb y0 y1 hx hy n hn d (i + 1) a1 (by omega) (by omega) h1
    refine ⟨a2, ?_, h2⟩
    have hm : (d + 1) * (n + 2) = d * (n + 2) + (n + 2) := Nat.succ_mul _ _
    rw [show 3 + (d + 1) * (n + 2) + 1 = (d * (n + 2) + 1 + 3 + n + 1) + 1 by omega, flyballref17_Hull.l0, if_pos (by omega), e1, show d * (n + 2) + 1 + 3 = 3 + d * (n + 2) + 1 by omega, e2]
def op (w : Int) (a b : Iv) : Iv := if w = 1 then sub a b else if w = 2 then mul a b else if w = 3 then div a b else add a b
theorem fin_hull (lo hi : Int) : fin (false, lo, hi) = hull lo hi := rfl
theorem hull_clip (lo hi : Int) : hull (clip lo) (clip hi) = hull lo hi := by unfold hull; rw [clip_clip, clip_clip]
theorem add_near {x0 x1 y0 y1 : Int} (hx : Nf x0 ∧ Nf x1) (hy : Nf y0 ∧ Nf y1) : add (false, x0, x1) (false, y0, y1) = hull (x0 + y0) (x1 + y1) := by
  rw [add_false rfl rfl, ← hull_clip (x0 + y0)]
  simp only
  congr 1
  · unfold sum; rw [if_neg (by omega), if_neg (by omega)]
  · unfold sum; rw [if_neg (by omega), if_neg (by omega)]
theorem hul_op (w x0 x1 y0 y1 : Int) (hx : Nf x0 ∧ Nf x1) (hy : Nf y0 ∧ Nf y1) (h1 : x0 ≤ x1) (h2 : y0 ≤ y1) (hw : w = 0 ∨ w = 1 ∨ w = 2 ∨ w = 3) (a : Iv)
    (h : Hul w (fun i' k' => x0 ≤ i' ∧ i' ≤ x1 ∧ y0 ≤ k' ∧ k' ≤ y1 ∧ (w = 3 → k' ≠ 0)) a) : fin a = op w (false, x0, x1) (false, y0, y1) := by
  rcases h with ⟨rfl, h⟩ | ⟨lo, hi, rfl, ⟨i1, k1, m1, e1⟩, ⟨i2, k2, m2, e2⟩, h⟩
  · have c : w = 3 := by
      rcases hw with r | r | r | r
      · exact absurd ⟨by omega, by omega, by omega, by omega, by omega⟩ (h x0 y0)
      · exact absurd ⟨by omega, by omega, by omega, by omega, by omega⟩ (h x0 y0)
      · exact absurd ⟨by omega, by omega, by omega, by omega, by omega⟩ (h x0 y0)
      · exact r
    subst c
    have z0 : y0 = 0 := Classical.byContradiction fun g => h x0 y0 ⟨by omega, by omega, by omega, by omega, fun _ => g⟩
    have z1 : y1 = 0 := Classical.byContradiction fun g => h x0 y1 ⟨by omega, by omega, by omega, by omega, fun _ => g⟩
    subst z0 z1
    have : ends (false, 0, 0) = [] := by decide
    simp [op, div, this, fin]
  · rw [fin_hull]
    rcases hw with rfl | rfl | rfl | rfl
    · have l := (h x0 y0 ⟨by omega, by omega, by omega, by omega, by omega⟩).1
      have u := (h x1 y1 ⟨by omega, by omega, by omega, by omega, by omega⟩).2
      simp only [val, op, show (0 : Int) ≠ 1 by decide, show (0 : Int) ≠ 2 by decide, show (0 : Int) ≠ 3 by decide, if_false] at *
      rw [add_near hx hy, show lo = x0 + y0 by omega, show hi = x1 + y1 by omega]
    · have l := (h x0 y1 ⟨by omega, by omega, by omega, by omega, by omega⟩).1
      have u := (h x1 y0 ⟨by omega, by omega, by omega, by omega, by omega⟩).2
      simp only [val, op, if_true] at *
      unfold sub
      rw [neg_false (by omega) (by omega) (by omega) (by omega) (by omega), add_near hx (by omega), show lo = x0 + -y1 by omega, show hi = x1 + -y0 by omega]
    · have a1 := h x0 y0 ⟨by omega, by omega, by omega, by omega, by omega⟩
      have a2 := h x0 y1 ⟨by omega, by omega, by omega, by omega, by omega⟩
      have a3 := h x1 y0 ⟨by omega, by omega, by omega, by omega, by omega⟩
      have a4 := h x1 y1 ⟨by omega, by omega, by omega, by omega, by omega⟩
      have b1 := mul_bd m1.1 m1.2.1 m1.2.2.1 m1.2.2.2.1
      have b2 := mul_bd m2.1 m2.2.1 m2.2.2.1 m2.2.2.2.1
      simp only [val, op, show (2 : Int) ≠ 1 by decide, if_false, if_true] at *
      have c1 := clip_mono b1.1
      have c2 := clip_mono b2.2
      rw [mul_false]
      rw [← clip_min4] at c1 ⊢
      rw [← clip_max4] at c2 ⊢
      have l : lo = min4 (clip (x0 * y0)) (clip (x0 * y1)) (clip (x1 * y0)) (clip (x1 * y1)) := by unfold min4 at *; omega
      have u : hi = max4 (clip (x0 * y0)) (clip (x0 * y1)) (clip (x1 * y0)) (clip (x1 * y1)) := by unfold max4 at *; omega
      rw [l, u]
    · have k0 : k1 ≠ 0 := m1.2.2.2.2 rfl
      have k0' : k2 ≠ 0 := m2.2.2.2.2 rfl
      simp only [val, op, show (3 : Int) ≠ 1 by decide, show (3 : Int) ≠ 2 by decide, if_false, if_true] at *
      have ove : ∀ x y : Int, x0 ≤ x → x ≤ x1 → ov x y = Int.tdiv x y := fun x y g g' => by unfold ov; rw [if_neg (by omega)]
      have q1 := quo_bd (lo := x0) (hi := x1) (l := y0) (u := y1) (by omega) (by omega) (by omega) (by omega) m1.1 m1.2.1 m1.2.2.1 m1.2.2.2.1 k0
      have q2 := quo_bd (lo := x0) (hi := x1) (l := y0) (u := y1) (by omega) (by omega) (by omega) (by omega) m2.1 m2.2.1 m2.2.2.1 m2.2.2.2.1 k0'
      have c0 : ends (false, y0, y1) ≠ [] := by
        intro hh
        obtain ⟨q, hq, _⟩ := q1.1
        simp [quos, hh] at hq
      have qs : ∀ q ∈ quos (false, x0, x1) (false, y0, y1), lo ≤ q ∧ q ≤ hi := fun q hq => by
        obtain ⟨x, y, hx', hy', rfl⟩ := quo_mem hq
        have b := ends_mem (by omega) h2 (by omega) (by omega) (by omega) hy'
        rw [ove x y (by omega) (by omega)]
        exact h x y ⟨by omega, by omega, by omega, by omega, fun _ => b.1⟩
      have m := foldl_min (quos (false, x0, x1) (false, y0, y1)) 1099511627776
      have M := foldl_max (quos (false, x0, x1) (false, y0, y1)) (-1099511627776)
      rw [div_false c0]
      have t1 := tdiv_bd (x := i1) (y := k1) (by omega)
      have t2 := tdiv_bd (x := i2) (y := k2) (by omega)
      have l : lo = (quos (false, x0, x1) (false, y0, y1)).foldl min 1099511627776 := by
        obtain ⟨q, hq, hle⟩ := q1.1
        rw [ove _ _ m1.1 m1.2.1, e1] at hle
        have := m.2.1 q hq
        rcases m.2.2 with r | r
        · omega
        · have := qs _ r; omega
      have u : hi = (quos (false, x0, x1) (false, y0, y1)).foldl max (-1099511627776) := by
        obtain ⟨q, hq, hle⟩ := q2.2
        rw [ove _ _ m2.1 m2.2.1, e2] at hle
        have := M.2.1 q hq
        rcases M.2.2 with r | r
        · omega
        · have := qs _ r; omega
      rw [← l, ← u]
/-- An interval of few integers. -/
def Sml (a : Iv) : Prop := a = (true, 0, 0) ∨ ∃ x0 x1, a = (false, x0, x1) ∧ x0 ≤ x1 ∧ -1099511627776 < x0 ∧ x1 < 1099511627776 ∧ x1 - x0 < 12
theorem op_empty_l (w : Int) (b : Iv) : op w (true, 0, 0) b = (true, 0, 0) := by
  unfold op
  repeat' split
  all_goals simp [sub, add, mul, div]
theorem op_empty_r (w : Int) (a : Iv) : op w a (true, 0, 0) = (true, 0, 0) := by
  unfold op
  repeat' split
  all_goals simp [sub, add, mul, div, neg]
theorem rhull_f (k : Nat) (hk : 1000 ≤ k) (w : Int) (hw : w = 0 ∨ w = 1 ∨ w = 2 ∨ w = 3) (e : Bool) (lo hi : Int) (e' : Bool) (lo' hi' : Int) (ha : Sml (no3 e lo hi)) (hb : Sml (no3 e' lo' hi')) :
    flyballref17_Hull.f k w e lo hi e' lo' hi' = some (op w (no3 e lo hi) (no3 e' lo' hi')) := by
  unfold flyballref17_Hull.f
  rw [rnorm_f, rnorm_f]
  simp only [Option.bind_some]
  obtain ⟨m, rfl⟩ : ∃ m, k = m + 1 := ⟨k - 1, by omega⟩
  rcases ha with g | ⟨x0, x1, g, h1, h2, h3, h4⟩
  · rw [g, op_empty_l, if_pos rfl, flyballref17_Hull.j0, if_pos rfl]
  · rw [g, if_neg (by simp)]
    rcases hb with g' | ⟨y0, y1, g', i1, i2, i3, i4⟩
    · rw [g', op_empty_r, flyballref17_Hull.j0, if_pos rfl]
    · rw [g', flyballref17_Hull.j0, if_neg (by simp)]
      obtain ⟨n, hn⟩ : ∃ n : Nat, y1 + 1 - y0 = n := ⟨(y1 + 1 - y0).toNat, by omega⟩
      obtain ⟨d, hd⟩ : ∃ d : Nat, x1 + 1 - x0 = d := ⟨(x1 + 1 - x0).toNat, by omega⟩
      obtain ⟨a', e1, h⟩ := hl0_f w false x0 x1 false y0 y1 (by omega) (by omega) n hn d x0 (true, 0, 0) hd (by omega) (.inl ⟨rfl, fun i' k' => by unfold Box; omega⟩)
      rw [hul_op w x0 x1 y0 y1 (by omega) (by omega) h1 i1 hw a' h] at e1
      have b : d * (n + 2) ≤ 12 * 14 := Nat.mul_le_mul (by omega) (by omega)
      have up : ∀ j q r, flyballref17_Hull.l0 q w x0 false x0 x1 false y0 y1 true 0 0 = some r → flyballref17_Hull.l0 (q + j) w x0 false x0 x1 false y0 y1 true 0 0 = some r := fun j => by
        induction j with
        | zero => exact fun q r hq => hq
        | succ j ih => exact fun q r hq => (flyballref17_Hull.mono_l (q + j)).2.1 _ _ _ _ _ _ _ _ _ _ _ r (ih q r hq)
      have := up (m - (3 + d * (n + 2) + 1)) _ _ e1
      rw [show 3 + d * (n + 2) + 1 + (m - (3 + d * (n + 2) + 1)) = m by omega] at this
      exact this
theorem small_f (e : Bool) (lo hi : Int) : ∃ r, flyballref17_Small.f e lo hi 12 = some r ∧ (r = true → Sml (no3 e lo hi)) := by
  unfold flyballref17_Small.f
  rw [rnorm_f]
  simp only [Option.bind_some]
  rcases (no3_ok e lo hi).cases with g | ⟨x0, x1, g, h1, h2, h3, h4, h5⟩
  · rw [g]; exact ⟨true, by simp, fun _ => .inl rfl⟩
  · rw [g]
    simp only [Bool.false_eq_true, if_false]
    by_cases c1 : x0 > -1099511627776
    · rw [if_pos c1]
      by_cases c2 : x1 < 1099511627776
      · rw [if_pos c2, wrap_id (x := x1 - x0) (by omega) (by omega)]
        exact ⟨_, rfl, fun r => .inr ⟨x0, x1, rfl, h2, by omega, c2, of_decide_eq_true r⟩⟩
      · rw [if_neg c2]; exact ⟨_, rfl, fun r => by cases r⟩
    · rw [if_neg c1]; exact ⟨_, rfl, fun r => by cases r⟩
end Go.Proofs.Ytinmgnlofininaa.Ev
end
section
set_option linter.unusedVariables false
set_option linter.unusedSimpArgs false
namespace Go.Proofs.Ytinmgnlofininaa.Ev
open Go.RowKit Go.Proofs.Ytinmgnlofininaa.PAll Go.Proofs.YtinmgnlofininaaW.PrintWords Go.Proofs.YtinmgnlofininaaW.PrintLast Go.Proofs.YtinmgnlofininaaW.PrintMore Go.Proofs.Ytinmgnlofininaa.Spec
theorem iabs_f {x : Int} (h : -1099511627776 ≤ x ∧ x ≤ 1099511627776) : ints_abs.f x = some (max x (-x)) := by
  unfold ints_abs.f
  rw [mx_eq, wrap_id (by omega) (by omega)]
theorem abs_mul (x y : Int) : max x (-x) * max y (-y) = x * y ∨ max x (-x) * max y (-y) = -(x * y) := by
  rcases (show max x (-x) = x ∨ max x (-x) = -x by omega) with h | h <;> rcases (show max y (-y) = y ∨ max y (-y) = -y by omega) with g | g <;> rw [h, g]
  · exact .inl rfl
  · exact .inr (by rw [Int.mul_neg])
  · exact .inr (by rw [Int.neg_mul])
  · exact .inl (by rw [Int.neg_mul_neg])
theorem times_f (k : Nat) (hk : 0 < k) {x y : Int} (hx : -1099511627776 ≤ x ∧ x ≤ 1099511627776) (hy : -1099511627776 ≤ y ∧ y ≤ 1099511627776) : ints_times.f k x y = some (clip (x * y)) := by
  obtain ⟨k, rfl⟩ : ∃ m, k = m + 1 := ⟨k - 1, by omega⟩
  unfold ints_times.f
  by_cases h1 : x = 0
  · subst h1; simp [ints_times.j0, clip]; omega
  · by_cases h2 : y = 0
    · subst h2; simp [ints_times.j0, clip, h1]; omega
    · rw [if_neg h1]
      simp only [ints_times.j0, iabs_f hx, iabs_f hy, Option.bind_some]
      rw [if_neg (by simp [h2]), if_neg (by omega)]
      have ny : 0 < max y (-y) := by omega
      have e : Int.tdiv 1099511627776 (max y (-y)) = 1099511627776 / max y (-y) := Int.tdiv_eq_ediv_of_nonneg (by omega)
      have b0 : 0 ≤ 1099511627776 / max y (-y) := Int.ediv_nonneg (by omega) (by omega)
      have b1 : 1099511627776 / max y (-y) ≤ 1099511627776 := Int.ediv_le_self _ (by omega)
      rw [e, wrap_id (by omega) (by omega)]
      have hd := Int.le_ediv_iff_mul_le (a := max x (-x)) (b := 1099511627776) ny
      have hm := abs_mul x y
      have hp : 0 ≤ max x (-x) * max y (-y) := Int.mul_nonneg (by omega) (by omega)
      by_cases c : max x (-x) ≤ 1099511627776 / max y (-y)
      · rw [if_pos c]
        have := hd.mp c
        rw [wrap_id (by omega) (by omega), clip_id (by omega) (by omega)]
      · rw [if_neg c]
        have : ¬ max x (-x) * max y (-y) ≤ 1099511627776 := fun h => c (hd.mpr h)
        have s : (decide (x < 0) != decide (y < 0)) = true ↔ x * y < 0 := by
          rcases Int.lt_or_gt_of_ne h1 with p | p <;> rcases Int.lt_or_gt_of_ne h2 with q | q
          · have := Int.mul_pos_of_neg_of_neg p q
            simp [p, q]; omega
          · have := Int.mul_neg_of_neg_of_pos p q
            simp [p, show ¬ y < 0 by omega, this]
          · have := Int.mul_neg_of_pos_of_neg p q
            simp [q, show ¬ x < 0 by omega, this]
          · have := Int.mul_pos p q
            simp [show ¬ x < 0 by omega, show ¬ y < 0 by omega]; omega
        by_cases c2 : (decide (x < 0) != decide (y < 0)) = true
        · rw [if_pos c2]
          have := s.mp c2
          congr 1
          unfold clip
          omega
        · rw [if_neg c2]
          have : ¬ x * y < 0 := fun h => c2 (s.mpr h)
          congr 1
          unfold clip
          omega
theorem mul_f (k : Nat) (hk : 12 < k) (e : Bool) (lo hi : Int) (e' : Bool) (lo' hi' : Int) : ints_Mul.f k e lo hi e' lo' hi' = some (mul (no3 e lo hi) (no3 e' lo' hi')) := by
  obtain ⟨k, rfl⟩ : ∃ m, k = m + 13 := ⟨k - 13, by omega⟩
  unfold ints_Mul.f
  simp only [norm_f, Option.bind_some]
  rcases (no3_ok e lo hi).cases with h | ⟨l, u, h, h1, h2, h3, h4, h5⟩ <;> rw [h]
  · simp [ints_Mul.j0, mul, ints_none.f]
  · rcases (no3_ok e' lo' hi').cases with g | ⟨l', u', g, g1, g2, g3, g4, g5⟩ <;> rw [g]
    · simp [ints_Mul.j0, mul, ints_none.f]
    · have r0 : ∀ a b : Int, rd [a, b] 0 = a := fun _ _ => rfl
      have r1 : ∀ a b : Int, rd [a, b] 1 = b := fun _ _ => rfl
      have w0 : wrap64 (0 + 1) = 1 := wrap_id (by omega) (by omega)
      have w1 : wrap64 (1 + 1) = 2 := wrap_id (by omega) (by omega)
      have n2 : ∀ a b : Int, (([a, b] : List Int).length : Int) = 2 := fun _ _ => rfl
      have t := fun (k : Nat) (hk : 0 < k) => And.intro (times_f k hk (x := l) (y := l') (by omega) (by omega)) (And.intro (times_f k hk (x := l) (y := u') (by omega) (by omega)) (And.intro (times_f k hk (x := u) (y := l') (by omega) (by omega)) (times_f k hk (x := u) (y := u') (by omega) (by omega))))
      simp only [ints_Mul.j0, Bool.false_eq_true, if_false, ints_cornersTimes.f, Option.bind_some, ints_cornersTimes.l0, ints_cornersTimes.l1, n2, r0, r1, w0, w1]
      simp only [show ((0 : Int) < 2) = True by simp, show ((1 : Int) < 2) = True by simp, show ((2 : Int) < 2) = False by simp, show ((0 : Int) ≤ 0) = True by simp, show ((0 : Int) ≤ 1) = True by simp, if_true, if_false]
      rw [(t _ (by omega)).1, (t _ (by omega)).2.1]
      simp only [Option.bind_some]
      rw [(t _ (by omega)).2.2.1, (t _ (by omega)).2.2.2]
      simp only [Option.bind_some, hull_f, mx_eq, mn_eq, mul, Bool.false_eq_true, or_self, if_false]
      have c1 := clip_bd (l * l')
      have c2 := clip_bd (l * u')
      have c3 := clip_bd (u * l')
      have c4 := clip_bd (u * u')
      have em : ∀ a b c d a' : Int, a ≤ a' → min (min (min (min a' a) b) c) d = min4 a b c d := fun a b c d a' _ => by unfold min4; omega
      have eM : ∀ a b c d a' : Int, a' ≤ a → max (max (max (max a' a) b) c) d = max4 a b c d := fun a b c d a' _ => by unfold max4; omega
      rw [em _ _ _ _ _ c1.2, eM _ _ _ _ _ c1.1]
end Go.Proofs.Ytinmgnlofininaa.Ev
end
section
set_option linter.unusedVariables false
set_option linter.unusedSimpArgs false
namespace Go.Proofs.Ytinmgnlofininaa.Ev
open Go.RowKit Go.Proofs.Ytinmgnlofininaa.PAll Go.Proofs.YtinmgnlofininaaW.PrintWords Go.Proofs.YtinmgnlofininaaW.PrintLast Go.Proofs.YtinmgnlofininaaW.PrintMore Go.Proofs.Ytinmgnlofininaa.Spec
theorem over_f (k : Nat) (hk : 1 < k) {x y : Int} (hx : -1099511627776 ≤ x ∧ x ≤ 1099511627776) (hy : -1099511627776 ≤ y ∧ y ≤ 1099511627776) (h0 : y ≠ 0) : ints_over.f k x y = some (ov x y) := by
  obtain ⟨k, rfl⟩ : ∃ m, k = m + 2 := ⟨k - 2, by omega⟩
  unfold ints_over.f ov
  simp only [far_f, Option.bind_some, ints_over.j0, ints_over.j1]
  by_cases c : x ≥ 1099511627776 ∨ x ≤ -1099511627776
  · by_cases d : y ≥ 1099511627776 ∨ y ≤ -1099511627776
    · simp only [c, d, decide_true, if_true]
      split <;> rfl
    · simp only [c, d, decide_true, decide_false, Bool.false_eq_true, if_true, if_false, Option.bind_some]
      split <;> rfl
  · simp only [c, decide_false, Bool.false_eq_true, if_false, Option.bind_some, decide_eq_true_eq]
    by_cases d : y ≥ 1099511627776 ∨ y ≤ -1099511627776
    · rw [if_pos d, tdiv_far (by omega) d]
    · rw [if_neg d, if_neg h0, wrap_id (by have := tdiv_bd (y := y) hx; omega) (by have := tdiv_bd (y := y) hx; omega)]
theorem rd_get (l : List Int) (i : Nat) (h : i < l.length) : rd l (i : Int) = l[i] := by
  unfold rd
  simp [List.getD_eq_getElem?_getD, h]
theorem over_end (M : Nat) (es : List Int) (lo hi x : Int) (xs : List Int) (n j i : Int) (h : ¬ i < (es.length : Int)) : ints_cornersOver.l1 (M + 1) es lo hi x xs n j es (es.length : Int) i = ints_cornersOver.l0 M es lo hi xs n (wrap64 (j + 1)) := by
  rw [ints_cornersOver.l1, if_neg h]
theorem over_step (M : Nat) (es : List Int) (lo hi x : Int) (xs : List Int) (n j : Int) (i : Nat) (h : i < es.length) (q : Int) (hq : ints_over.f M x es[i] = some q) (hl : es.length ≤ 1000) : ints_cornersOver.l1 (M + 1) es lo hi x xs n j es (es.length : Int) (i : Int) = ints_cornersOver.l1 M es (min lo q) (max hi q) x xs n j es (es.length : Int) ((i + 1 : Nat) : Int) := by
  have hw : wrap64 ((i : Int) + 1) = ((i + 1 : Nat) : Int) := by rw [wrap_id (by omega) (by omega)]; omega
  rw [ints_cornersOver.l1, if_pos (by omega), if_pos (by omega), if_pos (by omega), rd_get es i h, hq, Option.bind_some, hw, mx_eq, mn_eq]
theorem over_l1 (x : Int) (hx : -1099511627776 ≤ x ∧ x ≤ 1099511627776) (es : List Int) (he : ∀ y ∈ es, (-1099511627776 ≤ y ∧ y ≤ 1099511627776) ∧ y ≠ 0) (hl : es.length ≤ 1000) (xs : List Int) (n j : Int) (m : Nat) (hm : 1 < m) (d : Nat) :
    ∀ (i : Nat) (lo hi : Int), i + d = es.length → ints_cornersOver.l1 (m + d + 1) es lo hi x xs n j es (es.length : Int) (i : Int) = ints_cornersOver.l0 m es (((es.drop i).map (ov x)).foldl min lo) (((es.drop i).map (ov x)).foldl max hi) xs n (wrap64 (j + 1)) := by
  induction d with
  | zero =>
    intro i lo hi h
    have e : es.drop i = [] := List.drop_of_length_le (by omega)
    rw [e]
    exact over_end m es lo hi x xs n j i (by omega)
  | succ d ih =>
    intro i lo hi h
    have hi' : i < es.length := by omega
    have hm' := List.getElem_mem hi'
    have hq := over_f (m + d + 1) (by omega) hx (he _ hm').1 (he _ hm').2
    have e : es.drop i = es[i] :: es.drop (i + 1) := List.drop_eq_getElem_cons hi'
    have s := over_step (m + d + 1) es lo hi x xs n j i hi' _ hq hl
    have g := ih (i + 1) (min lo (ov x es[i])) (max hi (ov x es[i])) (by omega)
    rw [e, List.map_cons, List.foldl_cons, List.foldl_cons, ← g]
    exact s
theorem cornersOver_f (k : Nat) (e : Bool) {l u : Int} (hl : -1099511627776 ≤ l ∧ l ≤ 1099511627776) (hu : -1099511627776 ≤ u ∧ u ≤ 1099511627776) (es : List Int) (he : ∀ y ∈ es, (-1099511627776 ≤ y ∧ y ≤ 1099511627776) ∧ y ≠ 0) (hn : es.length ≤ 4) (hk : 20 ≤ k) :
    ints_cornersOver.f k e l u es = some (hull ((es.map (ov l) ++ es.map (ov u)).foldl min 1099511627776) ((es.map (ov l) ++ es.map (ov u)).foldl max (-1099511627776))) := by
  obtain ⟨m, rfl, hm⟩ : ∃ m, k = ((((m + 1) + es.length + 1) + 1) + es.length + 1) + 1 ∧ 1 < m := ⟨k - (2 * es.length + 5), by omega, by omega⟩
  have n2 : (([l, u] : List Int).length : Int) = 2 := rfl
  have r0 : rd [l, u] 0 = l := rfl
  have r1 : rd [l, u] 1 = u := rfl
  have w0 : wrap64 (0 + 1) = 1 := wrap_id (by omega) (by omega)
  have w1 : wrap64 (1 + 1) = 2 := wrap_id (by omega) (by omega)
  simp only [ints_cornersOver.f, Option.bind_some, n2]
  rw [ints_cornersOver.l0, if_pos (by omega), if_pos (by omega), if_pos (by rw [n2]; omega), r0]
  have h1 := over_l1 l hl es he (by omega) [l, u] 2 0 (((m + 1) + es.length + 1) + 1) (by omega) es.length 0 1099511627776 (-1099511627776) (by omega)
  simp only [Int.natCast_zero, List.drop_zero, w0] at h1
  rw [h1, ints_cornersOver.l0, if_pos (by omega), if_pos (by omega), if_pos (by rw [n2]; omega), r1]
  have h2 := over_l1 u hu es he (by omega) [l, u] 2 1 (m + 1) (by omega) es.length 0 ((es.map (ov l)).foldl min 1099511627776) ((es.map (ov l)).foldl max (-1099511627776)) (by omega)
  simp only [Int.natCast_zero, List.drop_zero, w1] at h2
  rw [h2, ints_cornersOver.l0, if_neg (by omega), hull_f]
  simp only [Option.bind_some, List.foldl_append]
theorem div_l0 (ys : List Int) (a0 : Bool) (l u : Int) (hl : -1099511627776 ≤ l ∧ l ≤ 1099511627776) (hu : -1099511627776 ≤ u ∧ u ≤ 1099511627776) (b0 : Bool) (l' u' : Int) (hb : no3 b0 l' u' = (b0, l', u')) (hy : ∀ y ∈ ys, -1099511627776 ≤ y ∧ y ≤ 1099511627776) (m : Nat) (hm : 20 ≤ m) (hyl : ys.length ≤ 1000000) (d : Nat) :
    ∀ (i : Nat) (acc : List Int), i + d = ys.length → acc.length + d ≤ 4 → (∀ y ∈ acc, (-1099511627776 ≤ y ∧ y ≤ 1099511627776) ∧ y ≠ 0) →
      ints_Div.l0 (m + d + 1) acc ys (ys.length : Int) (i : Int) a0 l u b0 l' u' = some (if acc ++ (ys.drop i).filter (fun y => decide (y ≠ 0) && has (b0, l', u') y) = [] then (true, 0, 0) else hull (((acc ++ (ys.drop i).filter (fun y => decide (y ≠ 0) && has (b0, l', u') y)).map (ov l) ++ (acc ++ (ys.drop i).filter (fun y => decide (y ≠ 0) && has (b0, l', u') y)).map (ov u)).foldl min 1099511627776) (((acc ++ (ys.drop i).filter (fun y => decide (y ≠ 0) && has (b0, l', u') y)).map (ov l) ++ (acc ++ (ys.drop i).filter (fun y => decide (y ≠ 0) && has (b0, l', u') y)).map (ov u)).foldl max (-1099511627776))) := by
  induction d with
  | zero =>
    intro i acc h hc ha
    rw [ints_Div.l0, if_neg (by omega), List.drop_of_length_le (by omega)]
    simp only [List.filter_nil, List.append_nil]
    by_cases c : acc = []
    · subst c; simp [ints_none.f]
    · rw [if_neg (by have := List.length_pos_iff.mpr c; omega), if_neg c, cornersOver_f _ _ hl hu acc ha (by omega) (by omega)]
      rfl
  | succ d ih =>
    intro i acc h hc ha
    have hi : i < ys.length := by omega
    have hw : wrap64 ((i : Int) + 1) = ((i + 1 : Nat) : Int) := by rw [wrap_id (by omega) (by omega)]; omega
    rw [show m + (d + 1) + 1 = (m + d + 1) + 1 by omega, ints_Div.l0, if_pos (by omega), if_pos (by omega), if_pos (by omega), rd_get ys i hi, hw, List.drop_eq_getElem_cons hi]
    have hg := hy _ (List.getElem_mem hi)
    generalize ys[i] = y at hg
    by_cases c : y = 0
    · rw [if_pos c, ih (i + 1) acc (by omega) (by omega) ha]
      simp [c]
    · rw [if_neg c, has_f, hb]
      simp only [Option.bind_some]
      by_cases p : has (b0, l', u') y = true
      · rw [if_pos p, if_pos (by omega), ih (i + 1) (acc ++ [y]) (by omega) (by simp; omega) (by
          intro z hz
          rcases List.mem_append.mp hz with hz | hz
          · exact ha z hz
          · obtain rfl : z = y := by simpa using hz
            exact ⟨hg, c⟩)]
        simp [c, p]
      · rw [if_neg p, ih (i + 1) acc (by omega) (by omega) ha]
        simp [c, p]
theorem div_f (k : Nat) (hk : 30 ≤ k) (e : Bool) (lo hi : Int) (e' : Bool) (lo' hi' : Int) : ints_Div.f k e lo hi e' lo' hi' = some (div (no3 e lo hi) (no3 e' lo' hi')) := by
  obtain ⟨m, rfl, hm⟩ : ∃ m, k = (m + 4 + 1) + 1 ∧ 20 ≤ m := ⟨k - 6, by omega, by omega⟩
  simp only [ints_Div.f, norm_f, Option.bind_some]
  rcases (no3_ok e lo hi).cases with h | ⟨l, u, h, h1, h2, h3, h4, h5⟩ <;> rw [h]
  · simp [ints_Div.j0, div, ints_none.f]
  · rcases (no3_ok e' lo' hi').cases with g | ⟨l', u', g, g1, g2, g3, g4, g5⟩ <;> rw [g]
    · simp [ints_Div.j0, div, ints_none.f]
    · simp only [Bool.false_eq_true, if_false, ints_Div.j0, Option.bind_some]
      have hd := div_l0 [l', u', -1, 1] false l u (by omega) (by omega) false l' u' (no3_false g1 g2 g3 g4 g5) (by simp; omega) m hm (by simp) 4 0 [] (by simp) (by simp) (by simp)
      simp only [Int.natCast_zero, List.drop_zero, List.nil_append] at hd
      rw [hd]
      simp only [div, ends, quos, Bool.false_eq_true, false_or]
end Go.Proofs.Ytinmgnlofininaa.Ev
end
section
set_option linter.unusedVariables false
set_option linter.unusedSimpArgs false
namespace Go.Proofs.Ytinmgnlofininaa.Ev
open Go.RowKit Go.Proofs.Ytinmgnlofininaa.PAll Go.Proofs.YtinmgnlofininaaW.PrintWords Go.Proofs.YtinmgnlofininaaW.PrintLast Go.Proofs.YtinmgnlofininaaW.PrintMore
theorem works17_at : flyballlaw17_works.f 30 = some true := by kernel_rfl
theorem works17 (k : Nat) (hk : 30 ≤ k) : flyballlaw17_works.f k = some true := at_rounds flyballlaw17_works.mono hk works17_at
end Go.Proofs.Ytinmgnlofininaa.Ev
end
section
set_option linter.unusedVariables false
set_option linter.unusedSimpArgs false
namespace Go.Proofs.Ytinmgnlofininaa.Pure
open Go.RowKit Go.Proofs.Ytinmgnlofininaa.PAll Go.Proofs.YtinmgnlofininaaW.PrintWords Go.Proofs.YtinmgnlofininaaW.PrintLast Go.Proofs.YtinmgnlofininaaW.PrintMore Go.Proofs.Ytinmgnlofininaa.Spec Go.Proofs.Ytinmgnlofininaa.Ev
theorem neg_as_sub {a : Iv} (ha : Sml a) : neg a = sub (false, 0, 0) a := by
  rcases ha with rfl | ⟨x0, x1, rfl, h1, h2, h3, h4⟩
  · rfl
  · unfold sub
    rw [neg_false (by omega) (by omega) (by omega) (by omega) (by omega), add_near (by omega) (by omega)]
    unfold hull clip
    congr 2 <;> omega
theorem IntsHulls (a0_0 : Bool) (a0_1 a0_2 : Int) (a1_0 : Bool) (a1_1 a1_2 : Int) (_ : (Lit.int .i64 a0_1).wf = true) (_ : (Lit.int .i64 a0_2).wf = true) (_ : (Lit.int .i64 a1_1).wf = true) (_ : (Lit.int .i64 a1_2).wf = true) :
    ∃ k, flyballlaw17_IntsHulls.f k a0_0 a0_1 a0_2 a1_0 a1_1 a1_2 = some true := by
  refine ⟨1001, ?_⟩
  unfold flyballlaw17_IntsHulls.f
  rw [works17 _ (by omega)]
  have t : flyballlaw17_IntsHulls.j0 1001 true true a0_0 a0_1 a0_2 a1_0 a1_1 a1_2 = some true := by simp [flyballlaw17_IntsHulls.j0]
  obtain ⟨r, er, hr⟩ := small_f a0_0 a0_1 a0_2
  obtain ⟨s, es, hs⟩ := small_f a1_0 a1_1 a1_2
  simp only [Option.bind_some, if_true, er, es, t]
  cases r with
  | false => simp
  | true =>
    cases s with
    | false => simp [t]
    | true =>
      have sa := hr rfl
      have sb := hs rfl
      have oa := no3_ok a0_0 a0_1 a0_2
      have ob := no3_ok a1_0 a1_1 a1_2
      have r3 : ∀ s : Iv, Ok s → no3 s.1 s.2.1 s.2.2 = s := fun s h => nr_ok h
      have e0 : no3 false 0 0 = (false, 0, 0) := by decide
      have eF : no3 false 0 1099511627776 = (false, 0, 1099511627776) := by decide
      have s0 : Sml (no3 false 0 0) := .inr ⟨0, 0, by rw [e0], by omega, by omega, by omega, by omega⟩
      have h1 := rhull_f 1000 (by omega) 1 (by omega) false 0 0 a0_0 a0_1 a0_2 s0 sa
      have oh : Ok (op 1 (no3 false 0 0) (no3 a0_0 a0_1 a0_2)) := sub_ok (no3_ok _ _ _)
      rw [e0] at h1 oh
      have f0 := rhull_f 1000 (by omega) 0 (by omega) _ _ _ _ _ _ sa sb
      have f1 := rhull_f 1000 (by omega) 1 (by omega) _ _ _ _ _ _ sa sb
      have f2 := rhull_f 1000 (by omega) 2 (by omega) _ _ _ _ _ _ sa sb
      have f3 := rhull_f 1000 (by omega) 3 (by omega) _ _ _ _ _ _ sa sb
      simp only [flyballlaw17_IntsHulls.j0, Bool.not_true, if_true, Bool.false_eq_true, if_false, point_f, make_f, neg_f, Option.bind_some, e0, eF, h1, rnorm_f, r3 _ oh, meet_f 1000 (by omega), r3 _ (neg_ok _), join2_f 1000 (by omega), r3 _ (meet_ok _ _), abs_f 1000 (by omega), add_f 1000 (by omega), sub_f 1000 (by omega), mul_f 1000 (by omega), div_f 1000 (by omega), f0, f1, f2, f3]
      have n : neg (no3 a0_0 a0_1 a0_2) = op 1 (false, 0, 0) (no3 a0_0 a0_1 a0_2) := neg_as_sub sa
      rw [← n]
      have q0 : op 0 (no3 a0_0 a0_1 a0_2) (no3 a1_0 a1_1 a1_2) = add (no3 a0_0 a0_1 a0_2) (no3 a1_0 a1_1 a1_2) := by simp [op]
      have q1 : op 1 (no3 a0_0 a0_1 a0_2) (no3 a1_0 a1_1 a1_2) = sub (no3 a0_0 a0_1 a0_2) (no3 a1_0 a1_1 a1_2) := by simp [op]
      have q2 : op 2 (no3 a0_0 a0_1 a0_2) (no3 a1_0 a1_1 a1_2) = mul (no3 a0_0 a0_1 a0_2) (no3 a1_0 a1_1 a1_2) := by simp [op]
      have q3 : op 3 (no3 a0_0 a0_1 a0_2) (no3 a1_0 a1_1 a1_2) = div (no3 a0_0 a0_1 a0_2) (no3 a1_0 a1_1 a1_2) := by simp [op]
      rw [q0, q1, q2, q3]
      simp only [abs, beq_self_eq_true, Bool.and_self, if_true]
end Go.Proofs.Ytinmgnlofininaa.Pure
end
section
set_option linter.unusedVariables false
set_option linter.unusedSimpArgs false
namespace Go.Proofs.YtinmgnlofininaaAid
open Go.Deep Go.Joins Go.ChangeShapes Go.WideShapes Go.RowKit
section
variable {H : Type} {enc : TypeId × Value → H} {P : Program} {w : World} {base : Nat} {spare : Nat → Bool} {held : Bool}
theorem trod_bii {t : TypeId} {f0 f1 f2 : Field} {n : Nat} {cs : List Value} {y : DataW H × List MemPlace} (hs : P.underlying t = some (.struct #[f0, f1, f2])) (hone : oneCellFields P #[f0, f1, f2] = true)
    (h0 : P.underlying f0.type = some .bool) (h1 : P.underlying f1.type = some (.int .i64)) (h2 : P.underlying f2.type = some (.int .i64)) (hl : cs.length = 3) (h : DataW.trod enc P w base spare held n t cs = some y) :
    ∃ (b : Bool) (x z : Int), cs = [.bool b, .int .i64 x, .int .i64 z] ∧ y = (.agg [.lit (.bool b), .lit (.int .i64 x), .lit (.int .i64 z)], []) ∧ (Lit.int .i64 x).wf = true ∧ (Lit.int .i64 z).wf = true := by
  obtain ⟨xs, m, _, hx, _, hlen, hg⟩ := DataW.trod_struct hs h
  obtain ⟨o0, k0⟩ := hone_of hone 0 f0 rfl
  obtain ⟨o1, k1⟩ := hone_of hone 1 f1 rfl
  obtain ⟨o2, k2⟩ := hone_of hone 2 f2 rfl
  match cs, hl with
  | [c0, c1, c2], _ =>
    match xs, hlen with
    | [y0, y1, y2], _ =>
      have g0 : DataW.trod enc P w base spare held m f0.type [c0] = some y0 := by simpa [o0, k0] using hg 0 f0 rfl
      have g1 : DataW.trod enc P w base spare held m f1.type [c1] = some y1 := by simpa [o1, k1] using hg 1 f1 rfl
      have g2 : DataW.trod enc P w base spare held m f2.type [c2] = some y2 := by simpa [o2, k2] using hg 2 f2 rfl
      obtain ⟨b, e0, rfl⟩ := DataW.trod_bool h0 g0
      obtain ⟨x, e1, rfl, wx⟩ := DataW.trod_int h1 g1
      obtain ⟨z, e2, rfl, wz⟩ := DataW.trod_int h2 g2
      simp only [List.cons.injEq, and_true] at e0 e1 e2
      subst e0 e1 e2
      exact ⟨b, x, z, rfl, by simpa using hx, wx, wz⟩
theorem trod_bii_mk {t : TypeId} {f0 f1 f2 : Field} {b : Bool} {x z : Int} (hs : P.underlying t = some (.struct #[f0, f1, f2])) (hone : oneCellFields P #[f0, f1, f2] = true) (hC : P.cellsOf t = 3)
    (h0 : P.underlying f0.type = some .bool) (h1 : P.underlying f1.type = some (.int .i64)) (h2 : P.underlying f2.type = some (.int .i64)) (wx : (Lit.int .i64 x).wf = true) (wz : (Lit.int .i64 z).wf = true) :
    DataW.trod enc P w base spare held 2 t [.bool b, .int .i64 x, .int .i64 z] = some (.agg [.lit (.bool b), .lit (.int .i64 x), .lit (.int .i64 z)], []) := by
  obtain ⟨o0, k0⟩ := hone_of hone 0 f0 rfl
  obtain ⟨o1, k1⟩ := hone_of hone 1 f1 rfl
  obtain ⟨o2, k2⟩ := hone_of hone 2 f2 rfl
  have g0 : DataW.trod enc P w base spare held 1 f0.type [.bool b] = some (.lit (.bool b), []) := by simp [DataW.trod, h0]
  have := trod_struct3_mk (enc := enc) (w := w) (base := base) (spare := spare) (held := held) (n := 1) (cs := [.bool b, .int .i64 x, .int .i64 z]) hs (by simp [hC])
    (by simpa [o0, k0] using g0) (by simpa [o1, k1] using trod_int_mk (enc := enc) (w := w) (base := base) (spare := spare) (held := held) 0 h1 wx) (by simpa [o2, k2] using trod_int_mk (enc := enc) (w := w) (base := base) (spare := spare) (held := held) 0 h2 wz)
  simpa using this
theorem open_bii {r : Reach} {b0 : Nat} {t : TypeId} {f0 f1 f2 : Field} {v : Value} {d : DataW H} {p : List MemPlace} (hs : P.underlying t = some (.struct #[f0, f1, f2])) (hone : oneCellFields P #[f0, f1, f2] = true) (hC : P.cellsOf t = 3)
    (h0 : P.underlying f0.type = some .bool) (h1 : P.underlying f1.type = some (.int .i64)) (h2 : P.underlying f2.type = some (.int .i64))
    (hv : Value.okWide P w r b0 t v) (h : DataW.Trod enc P w base spare held t v d p) :
    ∃ (b : Bool) (x z : Int), v = .agg #[.bool b, .int .i64 x, .int .i64 z] ∧ d = .agg [.lit (.bool b), .lit (.int .i64 x), .lit (.int .i64 z)] ∧ p = [] ∧ (Lit.int .i64 x).wf = true ∧ (Lit.int .i64 z).wf = true := by
  obtain ⟨cs, rfl, hsz⟩ := okWide_struct hs hv
  obtain ⟨l⟩ := cs
  obtain ⟨fuel, hf⟩ := h
  obtain ⟨b, x, z, e, ey, wx, wz⟩ := trod_bii hs hone h0 h1 h2 (hsz.trans hC) hf
  simp only [Prod.mk.injEq] at ey
  have e' : l = [.bool b, .int .i64 x, .int .i64 z] := by simpa [Value.cells] using e
  subst e'
  exact ⟨b, x, z, rfl, ey.1, ey.2, wx, wz⟩
theorem shut_bii {t : TypeId} {f0 f1 f2 : Field} {b : Bool} {x z : Int} (hs : P.underlying t = some (.struct #[f0, f1, f2])) (hone : oneCellFields P #[f0, f1, f2] = true) (hC : P.cellsOf t = 3)
    (h0 : P.underlying f0.type = some .bool) (h1 : P.underlying f1.type = some (.int .i64)) (h2 : P.underlying f2.type = some (.int .i64)) (wx : (Lit.int .i64 x).wf = true) (wz : (Lit.int .i64 z).wf = true) :
    DataW.Trod enc P w base spare held t (.agg #[.bool b, .int .i64 x, .int .i64 z]) (.agg [.lit (.bool b), .lit (.int .i64 x), .lit (.int .i64 z)]) [] :=
  ⟨2, by simpa [Value.cells] using trod_bii_mk (enc := enc) (w := w) (base := base) (spare := spare) (held := held) (b := b) hs hone hC h0 h1 h2 wx wz⟩
end
end Go.Proofs.YtinmgnlofininaaAid
end
