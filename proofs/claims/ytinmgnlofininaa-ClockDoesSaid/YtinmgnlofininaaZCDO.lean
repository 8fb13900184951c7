/- What the claim needs of several texts, in one. -/
import Derived.RowKit
import Derived.KernelRfl
import Derived.WalkKit
import Derived.ProofKit
import Derived.OpenShut
import Derived.ShutString
import Derived.ChangeOld
import Derived.Below
import Derived.SizedLaws
import Derived.Lib.SmallJoins
import Derived.Test.YtinmgnlofininaaZCDW
import Derived.Test.YtinmgnlofininaaZCDx0
import Derived.Test.YtinmgnlofininaaZCDx3
import Derived.Test.YtinmgnlofininaaZCDx4
import Derived.Test.YtinmgnlofininaaZCDx5
import Derived.Test.YtinmgnlofininaaZCDx16
import Derived.Test.YtinmgnlofininaaZCDx17
import Derived.Test.YtinmgnlofininaaZCDx22
import Derived.Test.YtinmgnlofininaaZCDx25
import Derived.Test.YtinmgnlofininaaZCDx26
import Derived.Test.YtinmgnlofininaaZCDx27
import Derived.Test.YtinmgnlofininaaZCDx28
import Derived.Test.YtinmgnlofininaaZCDx29
import Derived.Test.YtinmgnlofininaaZCDx30
import Derived.Test.YtinmgnlofininaaZCDx31
import Derived.Test.YtinmgnlofininaaZCDx34
import Derived.Test.YtinmgnlofininaaZCDx35
import Derived.Test.YtinmgnlofininaaZCDx36
import Derived.Test.YtinmgnlofininaaZCDx37
section
set_option linter.unusedVariables false
set_option linter.unusedSimpArgs false
namespace Go.Proofs.Ytinmgnlofininaa.Spec
open Go.RowKit Go.Proofs.YtinmgnlofininaaW.PrintWords Go.Proofs.YtinmgnlofininaaW.PrintLast Go.Proofs.YtinmgnlofininaaW.PrintMore
abbrev Iv := Bool × Int × Int
theorem mx_eq (a b : Int) : mx a b = max a b := by unfold mx; split <;> omega
theorem mn_eq (a b : Int) : mn a b = min a b := by unfold mn; split <;> omega
theorem wrap_id {x : Int} (h : -9223372036854775808 ≤ x) (h' : x ≤ 9223372036854775807) : wrap64 x = x := by unfold wrap64; omega
def no3 (e : Bool) (lo hi : Int) : Iv := if e = true ∨ lo > hi ∨ lo ≥ 1099511627776 ∨ hi ≤ -1099511627776 then (true, 0, 0) else (false, max lo (-1099511627776), min hi 1099511627776)
abbrev nr (s : Iv) : Iv := no3 s.1 s.2.1 s.2.2
/-- Written in the one way. -/
def Ok (s : Iv) : Prop := s = (true, 0, 0) ∨ s.1 = false ∧ -1099511627776 ≤ s.2.1 ∧ s.2.1 ≤ s.2.2 ∧ s.2.2 ≤ 1099511627776 ∧ s.2.1 < 1099511627776 ∧ -1099511627776 < s.2.2
theorem no3_ok (e : Bool) (lo hi : Int) : Ok (no3 e lo hi) := by
  unfold no3 Ok
  split
  · exact .inl rfl
  · refine .inr ⟨rfl, ?_⟩
    simp only
    omega
theorem Ok.cases {s : Iv} (h : Ok s) : s = (true, 0, 0) ∨ ∃ lo hi, s = (false, lo, hi) ∧ -1099511627776 ≤ lo ∧ lo ≤ hi ∧ hi ≤ 1099511627776 ∧ lo < 1099511627776 ∧ -1099511627776 < hi := by
  obtain ⟨e, lo, hi⟩ := s
  rcases h with h | ⟨h, h1⟩
  · exact .inl h
  · simp only at h
    subst h
    exact .inr ⟨lo, hi, rfl, h1⟩
theorem no3_false {lo hi : Int} (h1 : -1099511627776 ≤ lo) (h2 : lo ≤ hi) (h3 : hi ≤ 1099511627776) (h4 : lo < 1099511627776) (h5 : -1099511627776 < hi) : no3 false lo hi = (false, lo, hi) := by
  unfold no3
  rw [if_neg (by simp; omega)]
  rw [show max lo (-1099511627776) = lo by omega, show min hi 1099511627776 = hi by omega]
theorem no3_true (lo hi : Int) : no3 true lo hi = (true, 0, 0) := by simp [no3]
theorem nr_ok {s : Iv} (h : Ok s) : nr s = s := by
  rcases h.cases with rfl | ⟨lo, hi, rfl, h1, h2, h3, h4, h5⟩
  · exact no3_true _ _
  · exact no3_false h1 h2 h3 h4 h5
def has (s : Iv) (n : Int) : Bool := !s.1 && (decide (s.2.1 = -1099511627776 ∨ s.2.1 ≤ n)) && (decide (s.2.2 = 1099511627776 ∨ n ≤ s.2.2))
def inside (a b : Iv) : Bool := a.1 || (!b.1 && decide (b.2.1 ≤ a.2.1) && decide (a.2.2 ≤ b.2.2))
def meet (a b : Iv) : Iv := if a.1 = true ∨ b.1 = true then (true, 0, 0) else no3 false (max a.2.1 b.2.1) (min a.2.2 b.2.2)
def neg (a : Iv) : Iv := if a.1 = true then (true, 0, 0) else no3 false (-a.2.2) (-a.2.1)
def clip (n : Int) : Int := max (min n 1099511627776) (-1099511627776)
def sum (x y : Int) : Int := if x ≥ 1099511627776 ∨ x ≤ -1099511627776 then x else if y ≥ 1099511627776 ∨ y ≤ -1099511627776 then y else clip (x + y)
def hull (lo hi : Int) : Iv := (false, min (clip lo) 1099511627775, max (clip hi) (-1099511627775))
def add (a b : Iv) : Iv := if a.1 = true ∨ b.1 = true then (true, 0, 0) else hull (sum a.2.1 b.2.1) (sum a.2.2 b.2.2)
def sub (a b : Iv) : Iv := add a (neg b)
theorem meet_ok (a b : Iv) : Ok (meet a b) := by
  unfold meet
  split
  · exact .inl rfl
  · exact no3_ok _ _ _
theorem neg_ok (a : Iv) : Ok (neg a) := by
  unfold neg
  split
  · exact .inl rfl
  · exact no3_ok _ _ _
theorem neg_false {lo hi : Int} (h1 : -1099511627776 ≤ lo) (h2 : lo ≤ hi) (h3 : hi ≤ 1099511627776) (h4 : lo < 1099511627776) (h5 : -1099511627776 < hi) : neg (false, lo, hi) = (false, -hi, -lo) := by
  unfold neg
  simp only [Bool.false_eq_true, if_false]
  exact no3_false (by omega) (by omega) (by omega) (by omega) (by omega)
theorem clip_bd (n : Int) : -1099511627776 ≤ clip n ∧ clip n ≤ 1099511627776 := by unfold clip; omega
theorem sum_bd {x y : Int} (hx : -1099511627776 ≤ x ∧ x ≤ 1099511627776) (hy : -1099511627776 ≤ y ∧ y ≤ 1099511627776) : -1099511627776 ≤ sum x y ∧ sum x y ≤ 1099511627776 := by
  unfold sum clip
  split
  · exact hx
  · split
    · exact hy
    · omega
theorem add_false {a b : Iv} (ha : a.1 = false) (hb : b.1 = false) : add a b = hull (sum a.2.1 b.2.1) (sum a.2.2 b.2.2) := by simp [add, ha, hb]
theorem hull_ok {lo hi : Int} (h : min (clip lo) 1099511627775 ≤ max (clip hi) (-1099511627775)) : Ok (hull lo hi) := by
  have := clip_bd lo
  have := clip_bd hi
  refine .inr ⟨rfl, ?_⟩
  simp only [hull]
  omega
theorem add_ok {a b : Iv} (ha : Ok a) (hb : Ok b) : Ok (add a b) := by
  rcases ha.cases with rfl | ⟨lo, hi, rfl, h1, h2, h3, h4, h5⟩
  · simp [add, Ok]
  · rcases hb.cases with rfl | ⟨lo', hi', rfl, g1, g2, g3, g4, g5⟩
    · simp [add, Ok]
    · rw [add_false rfl rfl]
      apply hull_ok
      simp only
      unfold sum clip
      split <;> split <;> (try split) <;> (try split) <;> omega
theorem sub_ok {a b : Iv} (ha : Ok a) : Ok (sub a b) := add_ok ha (neg_ok b)
end Go.Proofs.Ytinmgnlofininaa.Spec
set_option linter.unusedVariables false
set_option linter.unusedSimpArgs false
set_option linter.unusedVariables false
set_option linter.unusedSimpArgs false
namespace Go.Proofs.Ytinmgnlofininaa.Spec
open Go.RowKit
abbrev Cl := Iv × Iv
/-- A clock in the one way. -/
def cn (d p : Iv) : Cl := if d.1 = true ∨ p.1 = true then ((true, 0, 0), (true, 0, 0)) else (d, p)
/-- As six cells. -/
abbrev pk6 (c : Cl) : Bool × Int × Int × Bool × Int × Int := (c.1.1, c.1.2.1, c.1.2.2, c.2.1, c.2.2.1, c.2.2.2)
def OkC (c : Cl) : Prop := Ok c.1 ∧ Ok c.2 ∧ (c.1.1 = true ↔ c.2.1 = true)
theorem cn_ok {d p : Iv} (hd : Ok d) (hp : Ok p) : OkC (cn d p) := by
  unfold cn
  split
  · exact ⟨.inl rfl, .inl rfl, Iff.rfl⟩
  · rename_i h
    exact ⟨hd, hp, ⟨fun x => absurd (.inl x) h, fun x => absurd (.inr x) h⟩⟩
theorem cn_id {c : Cl} (h : OkC c) : cn c.1 c.2 = c := by
  unfold cn
  split
  · rename_i g
    have h1 : c.1.1 = true := by rcases g with g | g; exact g; exact h.2.2.mpr g
    have h2 : c.2.1 = true := h.2.2.mp h1
    obtain ⟨a, b⟩ := c
    rcases h.1 with e | e
    · rcases h.2.1 with f | f
      · simp only at e f; rw [e, f]
      · exact absurd h2 (by rw [f.1]; simp)
    · exact absurd h1 (by rw [e.1]; simp)
  · rfl
theorem cn_same {b : Iv} (hb : Ok b) : cn b b = (b, b) := cn_id (c := (b, b)) ⟨hb, hb, Iff.rfl⟩
def both (f : Iv → Iv → Iv) (a b : Cl) : Cl := cn (f a.1 b.1) (f a.2 b.2)
def ofC (v k : Iv) : Cl := cn (sub v k) (add v k)
def reduce (v : Iv) (c : Cl) (k : Iv) : Iv := meet (meet v (add c.1 k)) (sub c.2 k)
theorem ofC_ok {v k : Iv} (hv : Ok v) (hk : Ok k) : OkC (ofC v k) := cn_ok (sub_ok hv) (add_ok hv hk)
end Go.Proofs.Ytinmgnlofininaa.Spec
set_option linter.unusedVariables false
set_option linter.unusedSimpArgs false
namespace Go.Proofs.Ytinmgnlofininaa.Ev
open Go.RowKit Go.Proofs.Ytinmgnlofininaa.PAll Go.Proofs.YtinmgnlofininaaW.PrintWords Go.Proofs.YtinmgnlofininaaW.PrintLast Go.Proofs.YtinmgnlofininaaW.PrintMore Go.Proofs.Ytinmgnlofininaa.Spec
theorem norm_f (e : Bool) (lo hi : Int) : ints_norm.f e lo hi = some (no3 e lo hi) := by
  unfold ints_norm.f ints_none.f no3
  cases e
  · simp only [Bool.false_eq_true, if_false, false_or, Option.bind_some, mx_eq, mn_eq]
    by_cases h1 : lo > hi
    · simp [h1]
    · by_cases h2 : lo ≥ 1099511627776
      · simp [h1, h2]
      · by_cases h3 : hi ≤ -1099511627776
        · simp [h1, h2, h3]
        · simp [h1, h2, h3]
  · simp
theorem make_f (lo hi : Int) : ints_Make.f lo hi = some (no3 false lo hi) := by
  unfold ints_Make.f
  rw [norm_f]
  rfl
theorem neg_f {e : Bool} {lo hi : Int} : ints_Neg.f e lo hi = some (neg (no3 e lo hi)) := by
  unfold ints_Neg.f
  rw [norm_f]
  rcases (no3_ok e lo hi).cases with h | ⟨l, u, h, h1, h2, h3, h4, h5⟩
  · rw [h]; rfl
  · rw [h]
    simp only [Option.bind_some, Bool.false_eq_true, if_false]
    rw [wrap_id (by omega) (by omega), wrap_id (by omega) (by omega), make_f]
    rfl
theorem clip_f (n : Int) : ints_clip.f n = some (clip n) := by unfold ints_clip.f clip; rw [mx_eq, mn_eq]
theorem hull_f (x y : Int) : ints_hull.f x y = some (hull x y) := by
  unfold ints_hull.f
  simp only [clip_f, Option.bind_some, mx_eq, mn_eq]
  rfl
theorem far_f (n : Int) : ints_far.f n = some (decide (n ≥ 1099511627776 ∨ n ≤ -1099511627776)) := by
  unfold ints_far.f
  split
  · rename_i h; simp [h]
  · rename_i h; simp [h]
theorem sum_f {x y : Int} (hx : -1099511627776 ≤ x ∧ x ≤ 1099511627776) (hy : -1099511627776 ≤ y ∧ y ≤ 1099511627776) : ints_sum.f x y = some (sum x y) := by
  unfold ints_sum.f sum
  simp only [far_f, clip_f, Option.bind_some, decide_eq_true_eq]
  rw [wrap_id (by omega) (by omega)]
  split
  · rfl
  · split <;> rfl
theorem add_f (k : Nat) (hk : 0 < k) (e : Bool) (lo hi : Int) (e' : Bool) (lo' hi' : Int) : ints_Add.f k e lo hi e' lo' hi' = some (add (no3 e lo hi) (no3 e' lo' hi')) := by
  obtain ⟨k, rfl⟩ : ∃ m, k = m + 1 := ⟨k - 1, by omega⟩
  unfold ints_Add.f
  simp only [norm_f, Option.bind_some]
  rcases (no3_ok e lo hi).cases with h | ⟨l, u, h, h1, h2, h3, h4, h5⟩
  · rw [h]; simp [ints_Add.j0, add, ints_none.f]
  · rcases (no3_ok e' lo' hi').cases with g | ⟨l', u', g, g1, g2, g3, g4, g5⟩
    · rw [h, g]; simp [ints_Add.j0, add, ints_none.f]
    · rw [h, g, add_false rfl rfl]
      simp only [ints_Add.j0, Bool.false_eq_true, if_false]
      rw [sum_f (by omega) (by omega), sum_f (by omega) (by omega)]
      simp only [Option.bind_some, hull_f]
theorem sub_f (k : Nat) (hk : 0 < k) (e : Bool) (lo hi : Int) (e' : Bool) (lo' hi' : Int) : ints_Sub.f k e lo hi e' lo' hi' = some (sub (no3 e lo hi) (no3 e' lo' hi')) := by
  unfold ints_Sub.f
  simp only [neg_f, Option.bind_some, add_f k hk]
  rw [show no3 (neg (no3 e' lo' hi')).1 (neg (no3 e' lo' hi')).2.1 (neg (no3 e' lo' hi')).2.2 = neg (no3 e' lo' hi') from nr_ok (neg_ok _)]
  rfl
theorem join1_f (k : Nat) (hk : 1 < k) (e : Bool) (lo hi : Int) : ints_Join.f k [(⟨e, lo, hi⟩ : S23)] = some (no3 e lo hi) := by
  obtain ⟨k, rfl⟩ : ∃ m, k = m + 2 := ⟨k - 2, by omega⟩
  have h0 : rd_T23 [(⟨e, lo, hi⟩ : S23)] 0 = ⟨e, lo, hi⟩ := rfl
  simp only [ints_Join.f, ints_none.f, Option.bind_some, ints_Join.l0, List.length_singleton, h0, norm_f]
  rcases (no3_ok e lo hi).cases with h | ⟨l, u, h, _⟩ <;> rw [h] <;> simp [wrap64]
theorem point_f (n : Int) : ints_Point.f n = some (no3 false n n) := by
  unfold ints_Point.f
  rw [make_f]
  rfl
theorem meet_f (k : Nat) (hk : 0 < k) (e : Bool) (lo hi : Int) (e' : Bool) (lo' hi' : Int) : ints_Meet.f k e lo hi e' lo' hi' = some (meet (no3 e lo hi) (no3 e' lo' hi')) := by
  obtain ⟨k, rfl⟩ : ∃ m, k = m + 1 := ⟨k - 1, by omega⟩
  unfold ints_Meet.f
  simp only [norm_f, Option.bind_some]
  rcases (no3_ok e lo hi).cases with h | ⟨l, u, h, h1, h2, h3, h4, h5⟩ <;> rw [h]
  · simp [ints_Meet.j0, meet, ints_none.f]
  · rcases (no3_ok e' lo' hi').cases with g | ⟨l', u', g, g1, g2, g3, g4, g5⟩ <;> rw [g]
    · simp [ints_Meet.j0, meet, ints_none.f]
    · simp only [ints_Meet.j0, meet, Bool.false_eq_true, if_false, make_f, Option.bind_some, mx_eq, mn_eq, or_self]
end Go.Proofs.Ytinmgnlofininaa.Ev
set_option linter.unusedVariables false
set_option linter.unusedSimpArgs false
namespace Go.Proofs.Ytinmgnlofininaa.Ev
open Go.RowKit Go.Proofs.Ytinmgnlofininaa.PAll Go.Proofs.YtinmgnlofininaaW.PrintWords Go.Proofs.YtinmgnlofininaaW.PrintLast Go.Proofs.YtinmgnlofininaaW.PrintMore Go.Proofs.Ytinmgnlofininaa.Spec
theorem rnorm_f (e : Bool) (lo hi : Int) : flyballref17_Norm.f e lo hi = some (no3 e lo hi) := by
  unfold flyballref17_Norm.f no3
  cases e
  · simp only [Bool.false_eq_true, if_false, false_or, mx_eq, mn_eq]
    by_cases h1 : lo > hi
    · simp [h1]
    · by_cases h2 : lo ≥ 1099511627776
      · simp [h1, h2]
      · by_cases h3 : hi ≤ -1099511627776
        · simp [h1, h2, h3]
        · simp [h1, h2, h3]
  · simp
theorem rmeet_f (e : Bool) (lo hi : Int) (e' : Bool) (lo' hi' : Int) : flyballref17_Meet.f e lo hi e' lo' hi' = some (meet (no3 e lo hi) (no3 e' lo' hi')) := by
  unfold flyballref17_Meet.f
  simp only [rnorm_f, Option.bind_some, mx_eq, mn_eq]
  rcases (no3_ok e lo hi).cases with h | ⟨l, u, h, h1, h2, h3, h4, h5⟩ <;> rw [h]
  · rfl
  · rcases (no3_ok e' lo' hi').cases with g | ⟨l', u', g, g1, g2, g3, g4, g5⟩ <;> rw [g] <;> rfl
end Go.Proofs.Ytinmgnlofininaa.Ev
set_option linter.unusedVariables false
set_option linter.unusedSimpArgs false
set_option linter.unusedVariables false
set_option linter.unusedSimpArgs false
namespace Go.Proofs.Ytinmgnlofininaa.Ev
open Go.RowKit Go.Proofs.Ytinmgnlofininaa.PAll Go.Proofs.YtinmgnlofininaaW.PrintWords Go.Proofs.YtinmgnlofininaaW.PrintLast Go.Proofs.YtinmgnlofininaaW.PrintMore Go.Proofs.Ytinmgnlofininaa.Spec
theorem r3 {s : Iv} (h : Ok s) : no3 s.1 s.2.1 s.2.2 = s := nr_ok h
theorem cnorm_f (k : Nat) (hk : 1 < k) (e : Bool) (lo hi : Int) (e' : Bool) (lo' hi' : Int) : clock_norm.f k e lo hi e' lo' hi' = some (pk6 (cn (no3 e lo hi) (no3 e' lo' hi'))) := by
  unfold clock_norm.f
  rw [join1_f k hk, join1_f k hk]
  simp only [Option.bind_some]
  unfold cn
  by_cases c : (no3 e lo hi).1 = true
  · rw [if_pos c, if_pos (.inl c)]
  · rw [if_neg c]
    by_cases d : (no3 e' lo' hi').1 = true
    · rw [if_pos d, if_pos (.inr d)]
    · rw [if_neg d, if_neg (by rintro (h | h); exact c h; exact d h)]
/-- A clock that is whole already. -/
theorem cnorm_of (k : Nat) (hk : 1 < k) {d p : Iv} (hd : Ok d) (hp : Ok p) : clock_norm.f k d.1 d.2.1 d.2.2 p.1 p.2.1 p.2.2 = some (pk6 (cn d p)) := by
  rw [cnorm_f k hk, r3 hd, r3 hp]
/-- The clock of six cells. -/
abbrev cl (e : Bool) (lo hi : Int) (e' : Bool) (lo' hi' : Int) : Cl := cn (no3 e lo hi) (no3 e' lo' hi')
theorem cl_ok (e : Bool) (lo hi : Int) (e' : Bool) (lo' hi' : Int) : OkC (cl e lo hi e' lo' hi') := cn_ok (no3_ok _ _ _) (no3_ok _ _ _)
theorem cl_id {c : Cl} (h : OkC c) : cl c.1.1 c.1.2.1 c.1.2.2 c.2.1 c.2.2.1 c.2.2.2 = c := by
  unfold cl
  rw [r3 h.1, r3 h.2.1, cn_id h]
theorem cof_f (k : Nat) (hk : 3 < k) (e : Bool) (lo hi : Int) (e' : Bool) (lo' hi' : Int) : clock_Of.f k e lo hi e' lo' hi' = some (pk6 (ofC (no3 e lo hi) (no3 e' lo' hi'))) := by
  unfold clock_Of.f
  rw [sub_f k (by omega), add_f k (by omega)]
  simp only [Option.bind_some]
  rw [cnorm_of k (by omega) (sub_ok (no3_ok _ _ _)) (add_ok (no3_ok _ _ _) (no3_ok _ _ _))]
  rfl
section
variable (k : Nat) (hk : 3 < k) (a0 : Bool) (a1 a2 : Int) (a3 : Bool) (a4 a5 : Int) (b0 : Bool) (b1 b2 : Int) (b3 : Bool) (b4 b5 : Int)
include hk
theorem bothAdd_f : clock_bothAdd.f k a0 a1 a2 a3 a4 a5 b0 b1 b2 b3 b4 b5 = some (pk6 (both add (cl a0 a1 a2 a3 a4 a5) (cl b0 b1 b2 b3 b4 b5))) := by
  have oa := cl_ok a0 a1 a2 a3 a4 a5
  have ob := cl_ok b0 b1 b2 b3 b4 b5
  unfold clock_bothAdd.f
  rw [cnorm_f k (by omega), cnorm_f k (by omega)]
  simp only [Option.bind_some, add_f k (by omega : 0 < k)]
  rw [r3 oa.1, r3 oa.2.1, r3 ob.1, r3 ob.2.1, cnorm_of k (by omega) (add_ok oa.1 ob.1) (add_ok oa.2.1 ob.2.1)]
  rfl
theorem bothMeet_f : clock_bothMeet.f k a0 a1 a2 a3 a4 a5 b0 b1 b2 b3 b4 b5 = some (pk6 (both meet (cl a0 a1 a2 a3 a4 a5) (cl b0 b1 b2 b3 b4 b5))) := by
  have oa := cl_ok a0 a1 a2 a3 a4 a5
  have ob := cl_ok b0 b1 b2 b3 b4 b5
  unfold clock_bothMeet.f
  rw [cnorm_f k (by omega), cnorm_f k (by omega)]
  simp only [Option.bind_some, meet_f k (by omega : 0 < k)]
  rw [r3 oa.1, r3 oa.2.1, r3 ob.1, r3 ob.2.1, cnorm_of k (by omega) (meet_ok _ _) (meet_ok _ _)]
  rfl
theorem meetC_f : clock_Meet.f k a0 a1 a2 a3 a4 a5 b0 b1 b2 b3 b4 b5 = some (pk6 (both meet (cl a0 a1 a2 a3 a4 a5) (cl b0 b1 b2 b3 b4 b5))) := by
  unfold clock_Meet.f
  rw [bothMeet_f k hk]
  rfl
theorem move_f : clock_Move.f k a0 a1 a2 a3 a4 a5 b0 b1 b2 = some (pk6 (both add (cl a0 a1 a2 a3 a4 a5) (no3 b0 b1 b2, no3 b0 b1 b2))) := by
  unfold clock_Move.f
  rw [bothAdd_f k hk]
  unfold cl
  rw [cn_same (no3_ok b0 b1 b2)]
  rfl
theorem tick_f : clock_Tick.f k a0 a1 a2 a3 a4 a5 = some (pk6 (both add (cl a0 a1 a2 a3 a4 a5) ((false, -1, -1), (false, 1, 1)))) := by
  have h1 : no3 false (-1) (-1) = (false, -1, -1) := no3_false (by omega) (by omega) (by omega) (by omega) (by omega)
  have h2 : no3 false 1 1 = (false, 1, 1) := no3_false (by omega) (by omega) (by omega) (by omega) (by omega)
  unfold clock_Tick.f
  rw [point_f, point_f, h1, h2]
  simp only [Option.bind_some, bothAdd_f k hk]
  unfold cl
  rw [h1, h2]
  rfl
theorem tight_f (c0 : Bool) (c1 c2 : Int) : clock_Tight.f k a0 a1 a2 a3 a4 a5 b0 b1 b2 c0 c1 c2 = some (pk6 (both meet (cl a0 a1 a2 a3 a4 a5) (ofC (no3 b0 b1 b2) (no3 c0 c1 c2)))) := by
  unfold clock_Tight.f
  rw [cof_f k hk]
  simp only [Option.bind_some, meetC_f k hk]
  rw [cl_id (ofC_ok (no3_ok b0 b1 b2) (no3_ok c0 c1 c2))]
theorem reduce_f : clock_Reduce.f k b0 b1 b2 a0 a1 a2 a3 a4 a5 b3 b4 b5 = some (reduce (no3 b0 b1 b2) (cl a0 a1 a2 a3 a4 a5) (no3 b3 b4 b5)) := by
  have oa := cl_ok a0 a1 a2 a3 a4 a5
  unfold clock_Reduce.f
  rw [cnorm_f k (by omega)]
  simp only [Option.bind_some, add_f k (by omega : 0 < k), sub_f k (by omega : 0 < k), meet_f k (by omega : 0 < k)]
  rw [r3 oa.1, r3 oa.2.1, r3 (add_ok oa.1 (no3_ok b3 b4 b5)), r3 (meet_ok _ _), r3 (sub_ok oa.2.1)]
  rfl
end
end Go.Proofs.Ytinmgnlofininaa.Ev
set_option linter.unusedVariables false
set_option linter.unusedSimpArgs false
namespace Go.Proofs.Ytinmgnlofininaa.Ev
open Go.RowKit Go.Proofs.Ytinmgnlofininaa.PAll Go.Proofs.YtinmgnlofininaaW.PrintWords Go.Proofs.YtinmgnlofininaaW.PrintLast Go.Proofs.YtinmgnlofininaaW.PrintMore Go.Proofs.Ytinmgnlofininaa.Spec
theorem qnorm_f (e : Bool) (lo hi : Int) (e' : Bool) (lo' hi' : Int) : flyballref21_Norm.f e lo hi e' lo' hi' = some (pk6 (cl e lo hi e' lo' hi')) := by
  unfold flyballref21_Norm.f
  simp only [rnorm_f, Option.bind_some]
  unfold cl cn
  by_cases c : (no3 e lo hi).1 = true
  · rw [if_pos c, if_pos (.inl c)]
  · rw [if_neg c]
    by_cases d : (no3 e' lo' hi').1 = true
    · rw [if_pos d, if_pos (.inr d)]
    · rw [if_neg d, if_neg (by rintro (h | h); exact c h; exact d h)]
theorem qnorm_of {d p : Iv} (hd : Ok d) (hp : Ok p) : flyballref21_Norm.f d.1 d.2.1 d.2.2 p.1 p.2.1 p.2.2 = some (pk6 (cn d p)) := by
  rw [qnorm_f]
  unfold cl
  rw [r3 hd, r3 hp]
theorem end_f (k : Nat) (hk : 0 < k) {x y : Int} (hx : -1099511627776 ≤ x ∧ x ≤ 1099511627776) (hy : -1099511627776 ≤ y ∧ y ≤ 1099511627776) : flyballref21_end.f k x y = some (sum x y) := by
  obtain ⟨k, rfl⟩ : ∃ m, k = m + 1 := ⟨k - 1, by omega⟩
  unfold flyballref21_end.f sum
  simp only [flyballref21_end.j0, mx_eq, mn_eq]
  rw [wrap_id (by omega) (by omega)]
  by_cases h1 : x ≤ -1099511627776
  · rw [if_pos h1, if_pos trivial, if_pos (by omega)]
  · rw [if_neg h1]
    by_cases h2 : x ≥ 1099511627776
    · rw [if_pos (by simpa using h2), if_pos (by omega)]
    · rw [if_neg (by simpa using h2), if_neg (show ¬ (x ≥ 1099511627776 ∨ x ≤ -1099511627776) by omega)]
      by_cases h3 : y ≤ -1099511627776
      · rw [if_pos h3, if_pos (by omega)]
      · rw [if_neg h3]
        by_cases h4 : y ≥ 1099511627776
        · rw [if_pos h4, if_pos (by omega)]
        · rw [if_neg h4, if_neg (by omega)]
          rfl
theorem clip_sum {x y : Int} (hx : -1099511627776 ≤ x ∧ x ≤ 1099511627776) (hy : -1099511627776 ≤ y ∧ y ≤ 1099511627776) : clip (sum x y) = sum x y := by
  have := sum_bd hx hy
  generalize sum x y = s at *
  unfold clip
  omega
theorem qadd_f (k : Nat) (hk : 1 < k) (e : Bool) (lo hi : Int) (e' : Bool) (lo' hi' : Int) : flyballref21_Add.f k e lo hi e' lo' hi' = some (add (no3 e lo hi) (no3 e' lo' hi')) := by
  obtain ⟨k, rfl⟩ : ∃ m, k = m + 1 := ⟨k - 1, by omega⟩
  unfold flyballref21_Add.f
  simp only [rnorm_f, Option.bind_some]
  rcases (no3_ok e lo hi).cases with h | ⟨l, u, h, h1, h2, h3, h4, h5⟩
  · rw [h]; simp [flyballref21_Add.j0, add]
  · rcases (no3_ok e' lo' hi').cases with g | ⟨l', u', g, g1, g2, g3, g4, g5⟩
    · rw [h, g]; simp [flyballref21_Add.j0, add]
    · rw [h, g, add_false rfl rfl]
      simp only [flyballref21_Add.j0, Bool.false_eq_true, if_false]
      rw [end_f k (by omega) (by omega) (by omega), end_f k (by omega) (by omega) (by omega)]
      simp only [Option.bind_some, hull, mx_eq, mn_eq]
      rw [clip_sum (by omega) (by omega), clip_sum (by omega) (by omega)]
theorem qneg_f (e : Bool) (lo hi : Int) : flyballref21_Neg.f e lo hi = some (neg (no3 e lo hi)) := by
  unfold flyballref21_Neg.f
  rw [rnorm_f]
  rcases (no3_ok e lo hi).cases with h | ⟨l, u, h, h1, h2, h3, h4, h5⟩
  · rw [h]; rfl
  · rw [h, neg_false h1 h2 h3 h4 h5]
    simp only [Option.bind_some, Bool.false_eq_true, if_false]
    rw [wrap_id (by omega) (by omega), wrap_id (by omega) (by omega)]
theorem qof_f (k : Nat) (hk : 1 < k) (e : Bool) (lo hi : Int) (e' : Bool) (lo' hi' : Int) : flyballref21_Of.f k e lo hi e' lo' hi' = some (pk6 (ofC (no3 e lo hi) (no3 e' lo' hi'))) := by
  unfold flyballref21_Of.f
  rw [qneg_f]
  simp only [Option.bind_some, qadd_f k hk]
  rw [r3 (neg_ok _), qnorm_of (add_ok (no3_ok _ _ _) (neg_ok _)) (add_ok (no3_ok _ _ _) (no3_ok _ _ _))]
  rfl
section
variable (k : Nat) (hk : 1 < k) (a0 : Bool) (a1 a2 : Int) (a3 : Bool) (a4 a5 : Int) (b0 : Bool) (b1 b2 : Int) (b3 : Bool) (b4 b5 : Int)
theorem qmeet_f : flyballref21_Meet.f a0 a1 a2 a3 a4 a5 b0 b1 b2 b3 b4 b5 = some (pk6 (both meet (cl a0 a1 a2 a3 a4 a5) (cl b0 b1 b2 b3 b4 b5))) := by
  have oa := cl_ok a0 a1 a2 a3 a4 a5
  have ob := cl_ok b0 b1 b2 b3 b4 b5
  unfold flyballref21_Meet.f
  rw [qnorm_f, qnorm_f]
  simp only [Option.bind_some, rmeet_f]
  rw [r3 oa.1, r3 oa.2.1, r3 ob.1, r3 ob.2.1, qnorm_of (meet_ok _ _) (meet_ok _ _)]
  rfl
include hk
theorem qmove_f : flyballref21_Move.f k a0 a1 a2 a3 a4 a5 b0 b1 b2 = some (pk6 (both add (cl a0 a1 a2 a3 a4 a5) (no3 b0 b1 b2, no3 b0 b1 b2))) := by
  have oa := cl_ok a0 a1 a2 a3 a4 a5
  have ob := no3_ok b0 b1 b2
  unfold flyballref21_Move.f
  rw [qnorm_f]
  simp only [Option.bind_some, qadd_f k hk]
  rw [r3 oa.1, r3 oa.2.1, qnorm_of (add_ok oa.1 ob) (add_ok oa.2.1 ob)]
  rfl
theorem qtick_f : flyballref21_Tick.f k a0 a1 a2 a3 a4 a5 = some (pk6 (both add (cl a0 a1 a2 a3 a4 a5) ((false, -1, -1), (false, 1, 1)))) := by
  have oa := cl_ok a0 a1 a2 a3 a4 a5
  have h1 : no3 false (-1) (-1) = (false, -1, -1) := no3_false (by omega) (by omega) (by omega) (by omega) (by omega)
  have h2 : no3 false 1 1 = (false, 1, 1) := no3_false (by omega) (by omega) (by omega) (by omega) (by omega)
  have o1 : Ok (false, -1, -1) := h1 ▸ no3_ok _ _ _
  have o2 : Ok (false, 1, 1) := h2 ▸ no3_ok _ _ _
  unfold flyballref21_Tick.f
  rw [qnorm_f]
  simp only [Option.bind_some, qadd_f k hk]
  rw [r3 oa.1, r3 oa.2.1, h1, h2, qnorm_of (add_ok oa.1 o1) (add_ok oa.2.1 o2)]
  rfl
theorem qreduce_f : flyballref21_Reduce.f k b0 b1 b2 a0 a1 a2 a3 a4 a5 b3 b4 b5 = some (reduce (no3 b0 b1 b2) (cl a0 a1 a2 a3 a4 a5) (no3 b3 b4 b5)) := by
  have oa := cl_ok a0 a1 a2 a3 a4 a5
  unfold flyballref21_Reduce.f
  rw [qnorm_f]
  simp only [Option.bind_some, qadd_f k hk, rmeet_f, qneg_f]
  rw [r3 oa.1, r3 oa.2.1, r3 (add_ok oa.1 (no3_ok b3 b4 b5)), r3 (meet_ok _ _), r3 (neg_ok _), r3 (add_ok oa.2.1 (neg_ok _))]
  rfl
end
end Go.Proofs.Ytinmgnlofininaa.Ev
namespace Go.Proofs.Ytinmgnlofininaa.Ev
open Go.RowKit Go.Proofs.Ytinmgnlofininaa.PAll Go.Proofs.YtinmgnlofininaaW.PrintWords Go.Proofs.YtinmgnlofininaaW.PrintLast Go.Proofs.YtinmgnlofininaaW.PrintMore
theorem works21_at : flyballlaw21_works.f 30 = some true := by kernel_rfl
theorem works21 (k : Nat) (hk : 30 ≤ k) : flyballlaw21_works.f k = some true := at_rounds flyballlaw21_works.mono hk works21_at
end Go.Proofs.Ytinmgnlofininaa.Ev
end
section
set_option linter.unusedVariables false
set_option linter.unusedSimpArgs false
namespace Go.Proofs.Ytinmgnlofininaa.Pure
open Go.RowKit Go.Proofs.Ytinmgnlofininaa.PAll Go.Proofs.YtinmgnlofininaaW.PrintWords Go.Proofs.YtinmgnlofininaaW.PrintLast Go.Proofs.YtinmgnlofininaaW.PrintMore Go.Proofs.Ytinmgnlofininaa.Spec Go.Proofs.Ytinmgnlofininaa.Ev
theorem is_same (c : Cl) : flyballlaw21_is.f c.1.1 c.1.2.1 c.1.2.2 c.2.1 c.2.2.1 c.2.2.2 c.1.1 c.1.2.1 c.1.2.2 c.2.1 c.2.2.1 c.2.2.2 = some true := by simp [flyballlaw21_is.f]
theorem ClockDoes (a0_0 : Bool) (a0_1 a0_2 : Int) (a0_3 : Bool) (a0_4 a0_5 : Int) (a1_0 : Bool) (a1_1 a1_2 : Int) (a2_0 : Bool) (a2_1 a2_2 : Int) (_ : (Lit.int .i64 a0_1).wf = true) (_ : (Lit.int .i64 a0_2).wf = true) (_ : (Lit.int .i64 a0_4).wf = true) (_ : (Lit.int .i64 a0_5).wf = true) (_ : (Lit.int .i64 a1_1).wf = true) (_ : (Lit.int .i64 a1_2).wf = true) (_ : (Lit.int .i64 a2_1).wf = true) (_ : (Lit.int .i64 a2_2).wf = true) :
    ∃ k, flyballlaw21_ClockDoes.f k a0_0 a0_1 a0_2 a0_3 a0_4 a0_5 a1_0 a1_1 a1_2 a2_0 a2_1 a2_2 = some true := by
  suffices h : ∀ k, 1000 ≤ k → flyballlaw21_ClockDoes.f k a0_0 a0_1 a0_2 a0_3 a0_4 a0_5 a1_0 a1_1 a1_2 a2_0 a2_1 a2_2 = some true from ⟨_, h 1000 (by omega)⟩
  intro k hk
  have oo := ofC_ok (no3_ok a1_0 a1_1 a1_2) (no3_ok a2_0 a2_1 a2_2)
  unfold flyballlaw21_ClockDoes.f
  rw [works21 _ (by omega)]
  simp only [Option.bind_some, if_true, flyballlaw21_of.f, cof_f k (by omega), qof_f k (by omega), move_f k (by omega), qmove_f k (by omega), tick_f k (by omega), qtick_f k (by omega), tight_f k (by omega), qmeet_f, reduce_f k (by omega), qreduce_f k (by omega), cl_id oo, is_same, beq_self_eq_true, Bool.and_self]
end Go.Proofs.Ytinmgnlofininaa.Pure
end
section
set_option linter.unusedVariables false
set_option linter.unusedSimpArgs false
namespace Go.Proofs.YtinmgnlofininaaAid
open Go.Deep Go.Joins Go.ChangeShapes Go.WideShapes Go.RowKit
section
variable {H : Type} {enc : TypeId × Value → H} {P : Program} {w : World} {base : Nat} {spare : Nat → Bool} {held : Bool}
theorem trod_bii {t : TypeId} {f0 f1 f2 : Field} {n : Nat} {cs : List Value} {y : DataW H × List MemPlace} (hs : P.underlying t = some (.struct #[f0, f1, f2])) (hone : oneCellFields P #[f0, f1, f2] = true)
    (h0 : P.underlying f0.type = some .bool) (h1 : P.underlying f1.type = some (.int .i64)) (h2 : P.underlying f2.type = some (.int .i64)) (hl : cs.length = 3) (h : DataW.trod enc P w base spare held n t cs = some y) :
    ∃ (b : Bool) (x z : Int), cs = [.bool b, .int .i64 x, .int .i64 z] ∧ y = (.agg [.lit (.bool b), .lit (.int .i64 x), .lit (.int .i64 z)], []) ∧ (Lit.int .i64 x).wf = true ∧ (Lit.int .i64 z).wf = true := by
  obtain ⟨xs, m, _, hx, _, hlen, hg⟩ := DataW.trod_struct hs h
  obtain ⟨o0, k0⟩ := hone_of hone 0 f0 rfl
  obtain ⟨o1, k1⟩ := hone_of hone 1 f1 rfl
  obtain ⟨o2, k2⟩ := hone_of hone 2 f2 rfl
  match cs, hl with
  | [c0, c1, c2], _ =>
    match xs, hlen with
    | [y0, y1, y2], _ =>
      have g0 : DataW.trod enc P w base spare held m f0.type [c0] = some y0 := by simpa [o0, k0] using hg 0 f0 rfl
      have g1 : DataW.trod enc P w base spare held m f1.type [c1] = some y1 := by simpa [o1, k1] using hg 1 f1 rfl
      have g2 : DataW.trod enc P w base spare held m f2.type [c2] = some y2 := by simpa [o2, k2] using hg 2 f2 rfl
      obtain ⟨b, e0, rfl⟩ := DataW.trod_bool h0 g0
      obtain ⟨x, e1, rfl, wx⟩ := DataW.trod_int h1 g1
      obtain ⟨z, e2, rfl, wz⟩ := DataW.trod_int h2 g2
      simp only [List.cons.injEq, and_true] at e0 e1 e2
      subst e0 e1 e2
      exact ⟨b, x, z, rfl, by simpa using hx, wx, wz⟩
theorem trod_bii_mk {t : TypeId} {f0 f1 f2 : Field} {b : Bool} {x z : Int} (hs : P.underlying t = some (.struct #[f0, f1, f2])) (hone : oneCellFields P #[f0, f1, f2] = true) (hC : P.cellsOf t = 3)
    (h0 : P.underlying f0.type = some .bool) (h1 : P.underlying f1.type = some (.int .i64)) (h2 : P.underlying f2.type = some (.int .i64)) (wx : (Lit.int .i64 x).wf = true) (wz : (Lit.int .i64 z).wf = true) :
    DataW.trod enc P w base spare held 2 t [.bool b, .int .i64 x, .int .i64 z] = some (.agg [.lit (.bool b), .lit (.int .i64 x), .lit (.int .i64 z)], []) := by
  obtain ⟨o0, k0⟩ := hone_of hone 0 f0 rfl
  obtain ⟨o1, k1⟩ := hone_of hone 1 f1 rfl
  obtain ⟨o2, k2⟩ := hone_of hone 2 f2 rfl
  have g0 : DataW.trod enc P w base spare held 1 f0.type [.bool b] = some (.lit (.bool b), []) := by simp [DataW.trod, h0]
  have := trod_struct3_mk (enc := enc) (w := w) (base := base) (spare := spare) (held := held) (n := 1) (cs := [.bool b, .int .i64 x, .int .i64 z]) hs (by simp [hC])
    (by simpa [o0, k0] using g0) (by simpa [o1, k1] using trod_int_mk (enc := enc) (w := w) (base := base) (spare := spare) (held := held) 0 h1 wx) (by simpa [o2, k2] using trod_int_mk (enc := enc) (w := w) (base := base) (spare := spare) (held := held) 0 h2 wz)
  simpa using this
theorem open_bii {r : Reach} {b0 : Nat} {t : TypeId} {f0 f1 f2 : Field} {v : Value} {d : DataW H} {p : List MemPlace} (hs : P.underlying t = some (.struct #[f0, f1, f2])) (hone : oneCellFields P #[f0, f1, f2] = true) (hC : P.cellsOf t = 3)
    (h0 : P.underlying f0.type = some .bool) (h1 : P.underlying f1.type = some (.int .i64)) (h2 : P.underlying f2.type = some (.int .i64))
    (hv : Value.okWide P w r b0 t v) (h : DataW.Trod enc P w base spare held t v d p) :
    ∃ (b : Bool) (x z : Int), v = .agg #[.bool b, .int .i64 x, .int .i64 z] ∧ d = .agg [.lit (.bool b), .lit (.int .i64 x), .lit (.int .i64 z)] ∧ p = [] ∧ (Lit.int .i64 x).wf = true ∧ (Lit.int .i64 z).wf = true := by
  obtain ⟨cs, rfl, hsz⟩ := okWide_struct hs hv
  obtain ⟨l⟩ := cs
  obtain ⟨fuel, hf⟩ := h
  obtain ⟨b, x, z, e, ey, wx, wz⟩ := trod_bii hs hone h0 h1 h2 (hsz.trans hC) hf
  simp only [Prod.mk.injEq] at ey
  have e' : l = [.bool b, .int .i64 x, .int .i64 z] := by simpa [Value.cells] using e
  subst e'
  exact ⟨b, x, z, rfl, ey.1, ey.2, wx, wz⟩
theorem shut_bii {t : TypeId} {f0 f1 f2 : Field} {b : Bool} {x z : Int} (hs : P.underlying t = some (.struct #[f0, f1, f2])) (hone : oneCellFields P #[f0, f1, f2] = true) (hC : P.cellsOf t = 3)
    (h0 : P.underlying f0.type = some .bool) (h1 : P.underlying f1.type = some (.int .i64)) (h2 : P.underlying f2.type = some (.int .i64)) (wx : (Lit.int .i64 x).wf = true) (wz : (Lit.int .i64 z).wf = true) :
    DataW.Trod enc P w base spare held t (.agg #[.bool b, .int .i64 x, .int .i64 z]) (.agg [.lit (.bool b), .lit (.int .i64 x), .lit (.int .i64 z)]) [] :=
  ⟨2, by simpa [Value.cells] using trod_bii_mk (enc := enc) (w := w) (base := base) (spare := spare) (held := held) (b := b) hs hone hC h0 h1 h2 wx wz⟩
theorem open_two {r : Reach} {b0 : Nat} {t e : TypeId} {g0 g1 f0 f1 f2 : Field} {v : Value} {d : DataW H} {p : List MemPlace} (ht : P.underlying t = some (.struct #[g0, g1])) (hT : P.cellsOf t = 6) (o0 : g0.offset = 0 ∧ g0.type = e) (o1 : g1.offset = 3 ∧ g1.type = e)
    (hs : P.underlying e = some (.struct #[f0, f1, f2])) (hone : oneCellFields P #[f0, f1, f2] = true) (hC : P.cellsOf e = 3)
    (h0 : P.underlying f0.type = some .bool) (h1 : P.underlying f1.type = some (.int .i64)) (h2 : P.underlying f2.type = some (.int .i64))
    (hv : Value.okWide P w r b0 t v) (h : DataW.Trod enc P w base spare held t v d p) :
    ∃ (b : Bool) (x z : Int) (b' : Bool) (x' z' : Int), v = .agg #[.bool b, .int .i64 x, .int .i64 z, .bool b', .int .i64 x', .int .i64 z'] ∧ d = .agg [.agg [.lit (.bool b), .lit (.int .i64 x), .lit (.int .i64 z)], .agg [.lit (.bool b'), .lit (.int .i64 x'), .lit (.int .i64 z')]] ∧ p = [] ∧
      (Lit.int .i64 x).wf = true ∧ (Lit.int .i64 z).wf = true ∧ (Lit.int .i64 x').wf = true ∧ (Lit.int .i64 z').wf = true := by
  obtain ⟨cs, rfl, hsz⟩ := okWide_struct ht hv
  obtain ⟨l⟩ := cs
  match l, hsz.trans hT with
  | [c0, c1, c2, c3, c4, c5], _ =>
    obtain ⟨fuel, hf⟩ := h
    obtain ⟨xs, m, _, hx, _, hlen, hg⟩ := DataW.trod_struct ht hf
    match xs, hlen with
    | [y0, y1], _ =>
      have q0 : DataW.trod enc P w base spare held m e [c0, c1, c2] = some y0 := by simpa [Value.cells, o0.1, o0.2, hC] using hg 0 g0 rfl
      have q1 : DataW.trod enc P w base spare held m e [c3, c4, c5] = some y1 := by simpa [Value.cells, o1.1, o1.2, hC] using hg 1 g1 rfl
      obtain ⟨b, x, z, e0, rfl, wx, wz⟩ := trod_bii hs hone h0 h1 h2 rfl q0
      obtain ⟨b', x', z', e1, rfl, wx', wz'⟩ := trod_bii hs hone h0 h1 h2 rfl q1
      simp only [List.cons.injEq, and_true] at e0 e1
      obtain ⟨rfl, rfl, rfl⟩ := e0
      obtain ⟨rfl, rfl, rfl⟩ := e1
      simp only [Prod.mk.injEq] at hx
      exact ⟨b, x, z, b', x', z', rfl, by simpa using hx.1, by simpa using hx.2, wx, wz, wx', wz'⟩
theorem shut_two {t e : TypeId} {g0 g1 f0 f1 f2 : Field} {b b' : Bool} {x z x' z' : Int} (ht : P.underlying t = some (.struct #[g0, g1])) (hT : P.cellsOf t = 6) (o0 : g0.offset = 0 ∧ g0.type = e) (o1 : g1.offset = 3 ∧ g1.type = e)
    (hs : P.underlying e = some (.struct #[f0, f1, f2])) (hone : oneCellFields P #[f0, f1, f2] = true) (hC : P.cellsOf e = 3)
    (h0 : P.underlying f0.type = some .bool) (h1 : P.underlying f1.type = some (.int .i64)) (h2 : P.underlying f2.type = some (.int .i64))
    (wx : (Lit.int .i64 x).wf = true) (wz : (Lit.int .i64 z).wf = true) (wx' : (Lit.int .i64 x').wf = true) (wz' : (Lit.int .i64 z').wf = true) :
    DataW.Trod enc P w base spare held t (.agg #[.bool b, .int .i64 x, .int .i64 z, .bool b', .int .i64 x', .int .i64 z']) (.agg [.agg [.lit (.bool b), .lit (.int .i64 x), .lit (.int .i64 z)], .agg [.lit (.bool b'), .lit (.int .i64 x'), .lit (.int .i64 z')]]) [] := by
  have ts := trod_struct2_mk (enc := enc) (w := w) (base := base) (spare := spare) (held := held) (n := 2) (cs := [.bool b, .int .i64 x, .int .i64 z, .bool b', .int .i64 x', .int .i64 z']) ht (by simp [hT])
    (by simpa [o0.1, o0.2, hC] using trod_bii_mk (enc := enc) (w := w) (base := base) (spare := spare) (held := held) (b := b) hs hone hC h0 h1 h2 wx wz)
    (by simpa [o1.1, o1.2, hC] using trod_bii_mk (enc := enc) (w := w) (base := base) (spare := spare) (held := held) (b := b') hs hone hC h0 h1 h2 wx' wz')
  exact ⟨_, by simpa [Value.cells] using ts⟩
end
end Go.Proofs.YtinmgnlofininaaAid
end
