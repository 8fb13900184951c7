/- What the claim needs of several texts, in one. -/
import Derived.RowKit
import Derived.KernelRfl
import Derived.WalkKit
import Derived.ProofKit
import Derived.OpenShut
import Derived.ShutString
import Derived.ChangeOld
import Derived.Below
import Derived.SizedLaws
import Derived.Lib.SmallJoins
import Derived.Test.YtinmgnlofininaaZKW
import Derived.Test.YtinmgnlofininaaZKx0
import Derived.Test.YtinmgnlofininaaZKx3
import Derived.Test.YtinmgnlofininaaZKx4
import Derived.Test.YtinmgnlofininaaZKx5
import Derived.Test.YtinmgnlofininaaZKx22
import Derived.Test.YtinmgnlofininaaZKx25
import Derived.Test.YtinmgnlofininaaZKx26
import Derived.Test.YtinmgnlofininaaZKx27
import Derived.Test.YtinmgnlofininaaZKx28
import Derived.Test.YtinmgnlofininaaZKx29
import Derived.Test.YtinmgnlofininaaZKx30
import Derived.Test.YtinmgnlofininaaZKx31
import Derived.Test.YtinmgnlofininaaZKx33
section
set_option linter.unusedVariables false
set_option linter.unusedSimpArgs false
namespace Go.Proofs.Ytinmgnlofininaa.Spec
open Go.RowKit Go.Proofs.YtinmgnlofininaaW.PrintWords Go.Proofs.YtinmgnlofininaaW.PrintLast Go.Proofs.YtinmgnlofininaaW.PrintMore
abbrev Iv := Bool × Int × Int
theorem mx_eq (a b : Int) : mx a b = max a b := by unfold mx; split <;> omega
theorem mn_eq (a b : Int) : mn a b = min a b := by unfold mn; split <;> omega
theorem wrap_id {x : Int} (h : -9223372036854775808 ≤ x) (h' : x ≤ 9223372036854775807) : wrap64 x = x := by unfold wrap64; omega
def no3 (e : Bool) (lo hi : Int) : Iv := if e = true ∨ lo > hi ∨ lo ≥ 1099511627776 ∨ hi ≤ -1099511627776 then (true, 0, 0) else (false, max lo (-1099511627776), min hi 1099511627776)
abbrev nr (s : Iv) : Iv := no3 s.1 s.2.1 s.2.2
/-- Written in the one way. -/
def Ok (s : Iv) : Prop := s = (true, 0, 0) ∨ s.1 = false ∧ -1099511627776 ≤ s.2.1 ∧ s.2.1 ≤ s.2.2 ∧ s.2.2 ≤ 1099511627776 ∧ s.2.1 < 1099511627776 ∧ -1099511627776 < s.2.2
theorem no3_ok (e : Bool) (lo hi : Int) : Ok (no3 e lo hi) := by
  unfold no3 Ok
  split
  · exact .inl rfl
  · refine .inr ⟨rfl, ?_⟩
    simp only
    omega
theorem Ok.cases {s : Iv} (h : Ok s) : s = (true, 0, 0) ∨ ∃ lo hi, s = (false, lo, hi) ∧ -1099511627776 ≤ lo ∧ lo ≤ hi ∧ hi ≤ 1099511627776 ∧ lo < 1099511627776 ∧ -1099511627776 < hi := by
  obtain ⟨e, lo, hi⟩ := s
  rcases h with h | ⟨h, h1⟩
  · exact .inl h
  · simp only at h
    subst h
    exact .inr ⟨lo, hi, rfl, h1⟩
theorem no3_false {lo hi : Int} (h1 : -1099511627776 ≤ lo) (h2 : lo ≤ hi) (h3 : hi ≤ 1099511627776) (h4 : lo < 1099511627776) (h5 : -1099511627776 < hi) : no3 false lo hi = (false, lo, hi) := by
  unfold no3
  rw [if_neg (by simp; omega)]
  rw [show max lo (-1099511627776) = lo by omega, show min hi 1099511627776 = hi by omega]
theorem no3_true (lo hi : Int) : no3 true lo hi = (true, 0, 0) := by simp [no3]
theorem nr_ok {s : Iv} (h : Ok s) : nr s = s := by
  rcases h.cases with rfl | ⟨lo, hi, rfl, h1, h2, h3, h4, h5⟩
  · exact no3_true _ _
  · exact no3_false h1 h2 h3 h4 h5
def has (s : Iv) (n : Int) : Bool := !s.1 && (decide (s.2.1 = -1099511627776 ∨ s.2.1 ≤ n)) && (decide (s.2.2 = 1099511627776 ∨ n ≤ s.2.2))
def inside (a b : Iv) : Bool := a.1 || (!b.1 && decide (b.2.1 ≤ a.2.1) && decide (a.2.2 ≤ b.2.2))
def join (a b : Iv) : Iv := if a.1 = true then b else if b.1 = true then a else (false, min a.2.1 b.2.1, max a.2.2 b.2.2)
def meet (a b : Iv) : Iv := if a.1 = true ∨ b.1 = true then (true, 0, 0) else no3 false (max a.2.1 b.2.1) (min a.2.2 b.2.2)
def neg (a : Iv) : Iv := if a.1 = true then (true, 0, 0) else no3 false (-a.2.2) (-a.2.1)
def clip (n : Int) : Int := max (min n 1099511627776) (-1099511627776)
def sum (x y : Int) : Int := if x ≥ 1099511627776 ∨ x ≤ -1099511627776 then x else if y ≥ 1099511627776 ∨ y ≤ -1099511627776 then y else clip (x + y)
def hull (lo hi : Int) : Iv := (false, min (clip lo) 1099511627775, max (clip hi) (-1099511627775))
def add (a b : Iv) : Iv := if a.1 = true ∨ b.1 = true then (true, 0, 0) else hull (sum a.2.1 b.2.1) (sum a.2.2 b.2.2)
def sub (a b : Iv) : Iv := add a (neg b)
theorem join_ok {a b : Iv} (ha : Ok a) (hb : Ok b) : Ok (join a b) := by
  rcases ha.cases with rfl | ⟨lo, hi, rfl, h1, h2, h3, h4, h5⟩
  · simpa [join] using hb
  · rcases hb.cases with rfl | ⟨lo', hi', rfl, g1, g2, g3, g4, g5⟩
    · simpa [join] using ha
    · refine .inr ⟨by simp [join], ?_⟩
      simp only [join, Bool.false_eq_true, if_false]
      omega
theorem meet_ok (a b : Iv) : Ok (meet a b) := by
  unfold meet
  split
  · exact .inl rfl
  · exact no3_ok _ _ _
theorem neg_ok (a : Iv) : Ok (neg a) := by
  unfold neg
  split
  · exact .inl rfl
  · exact no3_ok _ _ _
theorem neg_false {lo hi : Int} (h1 : -1099511627776 ≤ lo) (h2 : lo ≤ hi) (h3 : hi ≤ 1099511627776) (h4 : lo < 1099511627776) (h5 : -1099511627776 < hi) : neg (false, lo, hi) = (false, -hi, -lo) := by
  unfold neg
  simp only [Bool.false_eq_true, if_false]
  exact no3_false (by omega) (by omega) (by omega) (by omega) (by omega)
theorem clip_bd (n : Int) : -1099511627776 ≤ clip n ∧ clip n ≤ 1099511627776 := by unfold clip; omega
theorem add_false {a b : Iv} (ha : a.1 = false) (hb : b.1 = false) : add a b = hull (sum a.2.1 b.2.1) (sum a.2.2 b.2.2) := by simp [add, ha, hb]
theorem hull_ok {lo hi : Int} (h : min (clip lo) 1099511627775 ≤ max (clip hi) (-1099511627775)) : Ok (hull lo hi) := by
  have := clip_bd lo
  have := clip_bd hi
  refine .inr ⟨rfl, ?_⟩
  simp only [hull]
  omega
theorem add_ok {a b : Iv} (ha : Ok a) (hb : Ok b) : Ok (add a b) := by
  rcases ha.cases with rfl | ⟨lo, hi, rfl, h1, h2, h3, h4, h5⟩
  · simp [add, Ok]
  · rcases hb.cases with rfl | ⟨lo', hi', rfl, g1, g2, g3, g4, g5⟩
    · simp [add, Ok]
    · rw [add_false rfl rfl]
      apply hull_ok
      simp only
      unfold sum clip
      split <;> split <;> (try split) <;> (try split) <;> omega
theorem sub_ok {a b : Iv} (ha : Ok a) : Ok (sub a b) := add_ok ha (neg_ok b)
end Go.Proofs.Ytinmgnlofininaa.Spec
end
section
set_option linter.unusedVariables false
set_option linter.unusedSimpArgs false
namespace Go.Proofs.Ytinmgnlofininaa.Ev
open Go.RowKit Go.Proofs.Ytinmgnlofininaa.PAll Go.Proofs.YtinmgnlofininaaW.PrintWords Go.Proofs.YtinmgnlofininaaW.PrintLast Go.Proofs.YtinmgnlofininaaW.PrintMore Go.Proofs.Ytinmgnlofininaa.Spec
theorem norm_f (e : Bool) (lo hi : Int) : ints_norm.f e lo hi = some (no3 e lo hi) := by
  unfold ints_norm.f ints_none.f no3
  cases e
  · simp only [Bool.false_eq_true, if_false, false_or, Option.bind_some, mx_eq, mn_eq]
    by_cases h1 : lo > hi
    · simp [h1]
    · by_cases h2 : lo ≥ 1099511627776
      · simp [h1, h2]
      · by_cases h3 : hi ≤ -1099511627776
        · simp [h1, h2, h3]
        · simp [h1, h2, h3]
  · simp
theorem make_f (lo hi : Int) : ints_Make.f lo hi = some (no3 false lo hi) := by
  unfold ints_Make.f
  rw [norm_f]
  rfl
theorem neg_f {e : Bool} {lo hi : Int} : ints_Neg.f e lo hi = some (neg (no3 e lo hi)) := by
  unfold ints_Neg.f
  rw [norm_f]
  rcases (no3_ok e lo hi).cases with h | ⟨l, u, h, h1, h2, h3, h4, h5⟩
  · rw [h]; rfl
  · rw [h]
    simp only [Option.bind_some, Bool.false_eq_true, if_false]
    rw [wrap_id (by omega) (by omega), wrap_id (by omega) (by omega), make_f]
    rfl
theorem clip_f (n : Int) : ints_clip.f n = some (clip n) := by unfold ints_clip.f clip; rw [mx_eq, mn_eq]
theorem hull_f (x y : Int) : ints_hull.f x y = some (hull x y) := by
  unfold ints_hull.f
  simp only [clip_f, Option.bind_some, mx_eq, mn_eq]
  rfl
theorem far_f (n : Int) : ints_far.f n = some (decide (n ≥ 1099511627776 ∨ n ≤ -1099511627776)) := by
  unfold ints_far.f
  split
  · rename_i h; simp [h]
  · rename_i h; simp [h]
theorem sum_f {x y : Int} (hx : -1099511627776 ≤ x ∧ x ≤ 1099511627776) (hy : -1099511627776 ≤ y ∧ y ≤ 1099511627776) : ints_sum.f x y = some (sum x y) := by
  unfold ints_sum.f sum
  simp only [far_f, clip_f, Option.bind_some, decide_eq_true_eq]
  rw [wrap_id (by omega) (by omega)]
  split
  · rfl
  · split <;> rfl
theorem add_f (k : Nat) (hk : 0 < k) (e : Bool) (lo hi : Int) (e' : Bool) (lo' hi' : Int) : ints_Add.f k e lo hi e' lo' hi' = some (add (no3 e lo hi) (no3 e' lo' hi')) := by
  obtain ⟨k, rfl⟩ : ∃ m, k = m + 1 := ⟨k - 1, by omega⟩
  unfold ints_Add.f
  simp only [norm_f, Option.bind_some]
  rcases (no3_ok e lo hi).cases with h | ⟨l, u, h, h1, h2, h3, h4, h5⟩
  · rw [h]; simp [ints_Add.j0, add, ints_none.f]
  · rcases (no3_ok e' lo' hi').cases with g | ⟨l', u', g, g1, g2, g3, g4, g5⟩
    · rw [h, g]; simp [ints_Add.j0, add, ints_none.f]
    · rw [h, g, add_false rfl rfl]
      simp only [ints_Add.j0, Bool.false_eq_true, if_false]
      rw [sum_f (by omega) (by omega), sum_f (by omega) (by omega)]
      simp only [Option.bind_some, hull_f]
theorem sub_f (k : Nat) (hk : 0 < k) (e : Bool) (lo hi : Int) (e' : Bool) (lo' hi' : Int) : ints_Sub.f k e lo hi e' lo' hi' = some (sub (no3 e lo hi) (no3 e' lo' hi')) := by
  unfold ints_Sub.f
  simp only [neg_f, Option.bind_some, add_f k hk]
  rw [show no3 (neg (no3 e' lo' hi')).1 (neg (no3 e' lo' hi')).2.1 (neg (no3 e' lo' hi')).2.2 = neg (no3 e' lo' hi') from nr_ok (neg_ok _)]
  rfl
theorem join1_f (k : Nat) (hk : 1 < k) (e : Bool) (lo hi : Int) : ints_Join.f k [(⟨e, lo, hi⟩ : S23)] = some (no3 e lo hi) := by
  obtain ⟨k, rfl⟩ : ∃ m, k = m + 2 := ⟨k - 2, by omega⟩
  have h0 : rd_T23 [(⟨e, lo, hi⟩ : S23)] 0 = ⟨e, lo, hi⟩ := rfl
  simp only [ints_Join.f, ints_none.f, Option.bind_some, ints_Join.l0, List.length_singleton, h0, norm_f]
  rcases (no3_ok e lo hi).cases with h | ⟨l, u, h, _⟩ <;> rw [h] <;> simp [wrap64]
theorem join2_f (k : Nat) (hk : 2 < k) (e : Bool) (lo hi : Int) (e' : Bool) (lo' hi' : Int) : ints_Join.f k [(⟨e, lo, hi⟩ : S23), (⟨e', lo', hi'⟩ : S23)] = some (join (no3 e lo hi) (no3 e' lo' hi')) := by
  obtain ⟨k, rfl⟩ : ∃ m, k = m + 3 := ⟨k - 3, by omega⟩
  have h0 : rd_T23 [(⟨e, lo, hi⟩ : S23), (⟨e', lo', hi'⟩ : S23)] 0 = ⟨e, lo, hi⟩ := rfl
  have h1 : rd_T23 [(⟨e, lo, hi⟩ : S23), (⟨e', lo', hi'⟩ : S23)] 1 = ⟨e', lo', hi'⟩ := rfl
  have w0 : wrap64 (0 + 1) = 1 := by unfold wrap64; omega
  have w1 : wrap64 (1 + 1) = 2 := by unfold wrap64; omega
  simp only [ints_Join.f, ints_none.f, Option.bind_some, ints_Join.l0, h0, h1, w0, w1, norm_f, mx_eq, mn_eq]
  rcases (no3_ok e lo hi).cases with h | ⟨l, u, h, _⟩ <;> rcases (no3_ok e' lo' hi').cases with g | ⟨l', u', g, _⟩ <;> rw [h, g] <;> simp [join]
theorem point_f (n : Int) : ints_Point.f n = some (no3 false n n) := by
  unfold ints_Point.f
  rw [make_f]
  rfl
theorem has_f (e : Bool) (lo hi n : Int) : ints_Has.f e lo hi n = some (has (no3 e lo hi) n) := by
  unfold ints_Has.f
  rw [norm_f]
  rcases (no3_ok e lo hi).cases with h | ⟨l, u, h, h1, h2, h3, h4, h5⟩ <;> rw [h]
  · rfl
  · simp only [Option.bind_some, has, Bool.false_eq_true, if_false, Bool.not_false, Bool.true_and]
    by_cases c1 : l = -1099511627776 <;> by_cases c2 : u = 1099511627776 <;> by_cases c3 : n ≥ l <;> simp [c1, c2, c3] <;> omega
theorem meet_f (k : Nat) (hk : 0 < k) (e : Bool) (lo hi : Int) (e' : Bool) (lo' hi' : Int) : ints_Meet.f k e lo hi e' lo' hi' = some (meet (no3 e lo hi) (no3 e' lo' hi')) := by
  obtain ⟨k, rfl⟩ : ∃ m, k = m + 1 := ⟨k - 1, by omega⟩
  unfold ints_Meet.f
  simp only [norm_f, Option.bind_some]
  rcases (no3_ok e lo hi).cases with h | ⟨l, u, h, h1, h2, h3, h4, h5⟩ <;> rw [h]
  · simp [ints_Meet.j0, meet, ints_none.f]
  · rcases (no3_ok e' lo' hi').cases with g | ⟨l', u', g, g1, g2, g3, g4, g5⟩ <;> rw [g]
    · simp [ints_Meet.j0, meet, ints_none.f]
    · simp only [ints_Meet.j0, meet, Bool.false_eq_true, if_false, make_f, Option.bind_some, mx_eq, mn_eq, or_self]
end Go.Proofs.Ytinmgnlofininaa.Ev
end
section
set_option linter.unusedVariables false
set_option linter.unusedSimpArgs false
namespace Go.Proofs.Ytinmgnlofininaa.Spec
open Go.RowKit
theorem inside_false {lo hi lo' hi' : Int} : inside (false, lo, hi) (false, lo', hi') = true ↔ lo' ≤ lo ∧ hi ≤ hi' := by simp [inside]
end Go.Proofs.Ytinmgnlofininaa.Spec
end
section
set_option linter.unusedVariables false
set_option linter.unusedSimpArgs false
namespace Go.Proofs.Ytinmgnlofininaa.Spec
open Go.RowKit
abbrev Cl := Iv × Iv
/-- A clock in the one way. -/
def cn (d p : Iv) : Cl := if d.1 = true ∨ p.1 = true then ((true, 0, 0), (true, 0, 0)) else (d, p)
/-- As six cells. -/
abbrev pk6 (c : Cl) : Bool × Int × Int × Bool × Int × Int := (c.1.1, c.1.2.1, c.1.2.2, c.2.1, c.2.2.1, c.2.2.2)
def OkC (c : Cl) : Prop := Ok c.1 ∧ Ok c.2 ∧ (c.1.1 = true ↔ c.2.1 = true)
theorem cn_ok {d p : Iv} (hd : Ok d) (hp : Ok p) : OkC (cn d p) := by
  unfold cn
  split
  · exact ⟨.inl rfl, .inl rfl, Iff.rfl⟩
  · rename_i h
    exact ⟨hd, hp, ⟨fun x => absurd (.inl x) h, fun x => absurd (.inr x) h⟩⟩
theorem cn_id {c : Cl} (h : OkC c) : cn c.1 c.2 = c := by
  unfold cn
  split
  · rename_i g
    have h1 : c.1.1 = true := by rcases g with g | g; exact g; exact h.2.2.mpr g
    have h2 : c.2.1 = true := h.2.2.mp h1
    obtain ⟨a, b⟩ := c
    rcases h.1 with e | e
    · rcases h.2.1 with f | f
      · simp only at e f; rw [e, f]
      · exact absurd h2 (by rw [f.1]; simp)
    · exact absurd h1 (by rw [e.1]; simp)
  · rfl
theorem cn_same {b : Iv} (hb : Ok b) : cn b b = (b, b) := cn_id (c := (b, b)) ⟨hb, hb, Iff.rfl⟩
def both (f : Iv → Iv → Iv) (a b : Cl) : Cl := cn (f a.1 b.1) (f a.2 b.2)
def ofC (v k : Iv) : Cl := cn (sub v k) (add v k)
def reduce (v : Iv) (c : Cl) (k : Iv) : Iv := meet (meet v (add c.1 k)) (sub c.2 k)
def hasC (c : Cl) (v k : Int) : Bool := decide (-2199023255552 ≤ v ∧ v ≤ 2199023255552 ∧ -2199023255552 ≤ k ∧ k ≤ 2199023255552) && (has c.1 (v - k) && has c.2 (v + k))
theorem ofC_ok {v k : Iv} (hv : Ok v) (hk : Ok k) : OkC (ofC v k) := cn_ok (sub_ok hv) (add_ok hv hk)
def loS (j : Int) (a : Int) (l : List Int) : Int := l.foldl (fun a n => if n ≤ j then max a n else a) a
def hiS (j : Int) (a : Int) (l : List Int) : Int := l.foldl (fun a n => if n ≥ j then min a n else a) a
theorem loS_le (j : Int) (l : List Int) : ∀ a, a ≤ j → a ≤ loS j a l ∧ loS j a l ≤ j := by
  unfold loS
  induction l with
  | nil => intro a h; exact ⟨Int.le_refl _, h⟩
  | cons n l ih =>
    intro a h
    rw [List.foldl_cons]
    split
    · rename_i c
      have := ih (max a n) (by omega)
      omega
    · exact ih a h
theorem hiS_ge (j : Int) (l : List Int) : ∀ a, j ≤ a → hiS j a l ≤ a ∧ j ≤ hiS j a l := by
  unfold hiS
  induction l with
  | nil => intro a h; exact ⟨Int.le_refl _, h⟩
  | cons n l ih =>
    intro a h
    rw [List.foldl_cons]
    split
    · rename_i c
      have := ih (min a n) (by omega)
      omega
    · exact ih a h
def widen (o n : Iv) (l : List Int) : Iv := if o.1 = true then n else
  no3 false (if (join o n).2.1 = o.2.1 then (join o n).2.1 else loS (join o n).2.1 (-1099511627776) l) (if (join o n).2.2 = o.2.2 then (join o n).2.2 else hiS (join o n).2.2 1099511627776 l)
theorem widen_ok {o n : Iv} (hn : Ok n) (l : List Int) : Ok (widen o n l) := by
  unfold widen
  split
  · exact hn
  · exact no3_ok _ _ _
/-- What it is where something was: ends no nearer than those of both. -/
theorem widen_false {o n : Iv} (ho : Ok o) (hn : Ok n) (l : List Int) (h : o.1 = false) : ∃ lo hi, widen o n l = (false, lo, hi) ∧ lo ≤ (join o n).2.1 ∧ (join o n).2.2 ≤ hi ∧ -1099511627776 ≤ lo ∧ hi ≤ 1099511627776 := by
  have hj := join_ok ho hn
  have hj1 : (join o n).1 = false := by
    unfold join
    rw [h]
    simp only [Bool.false_eq_true, if_false]
    split
    · exact h
    · rfl
  unfold widen
  rw [if_neg (by rw [h]; simp)]
  rcases hj with e | ⟨_, h1, h2, h3, h4, h5⟩
  · rw [e] at hj1; cases hj1
  · have a := loS_le (join o n).2.1 l (-1099511627776) h1
    have b := hiS_ge (join o n).2.2 l 1099511627776 h3
    refine ⟨_, _, no3_false ?_ ?_ ?_ ?_ ?_, ?_, ?_, ?_, ?_⟩ <;> (try split) <;> (try split) <;> omega
theorem inside_of_join {o n w : Iv} {lo hi : Int} (ho : Ok o) (hn : Ok n) (h : o.1 = false) (hw : w = (false, lo, hi)) (h1 : lo ≤ (join o n).2.1) (h2 : (join o n).2.2 ≤ hi) : inside o w = true ∧ inside n w = true := by
  subst hw
  rcases ho.cases with rfl | ⟨l, u, rfl, a1, a2, a3, a4, a5⟩
  · cases h
  · rcases hn.cases with rfl | ⟨l', u', rfl, b1, b2, b3, b4, b5⟩
    · simp only [join, Bool.false_eq_true, if_false, if_true] at h1 h2
      exact ⟨by rw [inside_false]; exact ⟨h1, h2⟩, rfl⟩
    · simp only [join, Bool.false_eq_true, if_false] at h1 h2
      rw [inside_false, inside_false]
      omega
theorem inside_widen {o n : Iv} (ho : Ok o) (hn : Ok n) (l : List Int) : inside o (widen o n l) = true ∧ inside n (widen o n l) = true := by
  cases h : o.1 with
  | true =>
    rcases ho with e | e
    · subst e
      refine ⟨rfl, ?_⟩
      simp only [widen, if_true]
      rcases hn.cases with rfl | ⟨l', u', rfl, b1, b2, b3, b4, b5⟩
      · rfl
      · rw [inside_false]; omega
    · rw [e.1] at h; cases h
  | false =>
    obtain ⟨lo, hi, e, h1, h2, _⟩ := widen_false ho hn l h
    exact inside_of_join ho hn h e h1 h2
end Go.Proofs.Ytinmgnlofininaa.Spec
end
section
set_option linter.unusedVariables false
set_option linter.unusedSimpArgs false
namespace Go.Proofs.Ytinmgnlofininaa.Ev
open Go.RowKit Go.Proofs.Ytinmgnlofininaa.PAll Go.Proofs.YtinmgnlofininaaW.PrintWords Go.Proofs.YtinmgnlofininaaW.PrintLast Go.Proofs.YtinmgnlofininaaW.PrintMore Go.Proofs.Ytinmgnlofininaa.Spec
theorem rd_at (l : List Int) (i : Nat) (h : i < l.length) : rd l (i : Int) = l[i] := by
  unfold rd
  simp [List.getD_eq_getElem?_getD, h]
theorem wrap_next {i n : Nat} (h : i < n) (hn : n ≤ 1000) : wrap64 ((i : Int) + 1) = ((i + 1 : Nat) : Int) := by
  rw [wrap_id (by omega) (by omega)]
  omega
theorem loS_cons (j a n : Int) (l : List Int) : loS j a (n :: l) = loS j (if n ≤ j then max a n else a) l := rfl
theorem hiS_cons (j a n : Int) (l : List Int) : hiS j a (n :: l) = hiS j (if n ≥ j then min a n else a) l := rfl
theorem wl0_end (M : Nat) (l : List Int) (lo hi : Int) (i : Int) (oe : Bool) (ol oh : Int) (je : Bool) (jl jh : Int) (h : ¬ i < (l.length : Int)) :
    ints_Widen.l0 (M + 1) lo hi l (l.length : Int) i oe ol oh je jl jh = some (no3 false (if jl = ol then jl else lo) (if jh = oh then jh else hi)) := by
  rw [ints_Widen.l0, if_neg h]
  by_cases c : jl = ol <;> by_cases d : jh = oh <;> simp only [c, d, if_true, if_false, make_f, Option.bind_some]
theorem wl0_step (M : Nat) (l : List Int) (lo hi : Int) (i : Nat) (oe : Bool) (ol oh : Int) (je : Bool) (jl jh : Int) (h : i < l.length) (hl : l.length ≤ 1000) :
    ints_Widen.l0 (M + 1) lo hi l (l.length : Int) (i : Int) oe ol oh je jl jh = ints_Widen.l0 M (if l[i] ≤ jl then max lo l[i] else lo) (if l[i] ≥ jh then min hi l[i] else hi) l (l.length : Int) ((i + 1 : Nat) : Int) oe ol oh je jl jh := by
  rw [ints_Widen.l0, if_pos (by omega), if_pos (by omega), if_pos (by omega), rd_at l i h, wrap_next h hl, mx_eq, mn_eq]
  by_cases c : l[i] ≤ jl <;> by_cases d : l[i] ≥ jh <;> simp only [c, d, if_true, if_false]
theorem wl0_f (l : List Int) (oe : Bool) (ol oh : Int) (je : Bool) (jl jh : Int) (hl : l.length ≤ 1000) (m : Nat) (d : Nat) :
    ∀ (i : Nat) (lo hi : Int), i + d = l.length → ints_Widen.l0 (m + d + 1) lo hi l (l.length : Int) (i : Int) oe ol oh je jl jh = some (no3 false (if jl = ol then jl else loS jl lo (l.drop i)) (if jh = oh then jh else hiS jh hi (l.drop i))) := by
  induction d with
  | zero =>
    intro i lo hi h
    have e : l.drop i = [] := List.drop_of_length_le (by omega)
    rw [e]
    exact wl0_end m l lo hi i oe ol oh je jl jh (by omega)
  | succ d ih =>
    intro i lo hi h
    have hi' : i < l.length := by omega
    have e : l.drop i = l[i] :: l.drop (i + 1) := List.drop_eq_getElem_cons hi'
    have s := wl0_step (m + d + 1) l lo hi i oe ol oh je jl jh hi' hl
    have g := ih (i + 1) (if l[i] ≤ jl then max lo l[i] else lo) (if l[i] ≥ jh then min hi l[i] else hi) (by omega)
    rw [e, loS_cons, hiS_cons, ← g]
    exact s
theorem widen_f (k : Nat) (l : List Int) (hl : l.length ≤ 200) (hk : 300 ≤ k) (e : Bool) (lo hi : Int) (e' : Bool) (lo' hi' : Int) : ints_Widen.f k e lo hi e' lo' hi' l = some (widen (no3 e lo hi) (no3 e' lo' hi') l) := by
  unfold ints_Widen.f
  simp only [norm_f, Option.bind_some]
  rcases (no3_ok e lo hi).cases with h | ⟨a, u, h, h1, h2, h3, h4, h5⟩
  · rw [h]; rfl
  · rw [h]
    simp only [Bool.false_eq_true, if_false]
    rw [join2_f k (by omega), no3_false h1 h2 h3 h4 h5]
    simp only [Option.bind_some]
    obtain ⟨m, rfl⟩ : ∃ m, k = m + l.length + 1 := ⟨k - l.length - 1, by omega⟩
    have g := wl0_f l false a u (join (false, a, u) (no3 e' lo' hi')).1 (join (false, a, u) (no3 e' lo' hi')).2.1 (join (false, a, u) (no3 e' lo' hi')).2.2 (by omega) m l.length 0 (-1099511627776) 1099511627776 (by omega)
    simp only [Int.natCast_zero, List.drop_zero] at g
    rw [g]
    rfl
end Go.Proofs.Ytinmgnlofininaa.Ev
end
section
set_option linter.unusedVariables false
set_option linter.unusedSimpArgs false
namespace Go.Proofs.Ytinmgnlofininaa.Ev
open Go.RowKit Go.Proofs.Ytinmgnlofininaa.PAll Go.Proofs.YtinmgnlofininaaW.PrintWords Go.Proofs.YtinmgnlofininaaW.PrintLast Go.Proofs.YtinmgnlofininaaW.PrintMore Go.Proofs.Ytinmgnlofininaa.Spec
theorem r3 {s : Iv} (h : Ok s) : no3 s.1 s.2.1 s.2.2 = s := nr_ok h
theorem cnorm_f (k : Nat) (hk : 1 < k) (e : Bool) (lo hi : Int) (e' : Bool) (lo' hi' : Int) : clock_norm.f k e lo hi e' lo' hi' = some (pk6 (cn (no3 e lo hi) (no3 e' lo' hi'))) := by
  unfold clock_norm.f
  rw [join1_f k hk, join1_f k hk]
  simp only [Option.bind_some]
  unfold cn
  by_cases c : (no3 e lo hi).1 = true
  · rw [if_pos c, if_pos (.inl c)]
  · rw [if_neg c]
    by_cases d : (no3 e' lo' hi').1 = true
    · rw [if_pos d, if_pos (.inr d)]
    · rw [if_neg d, if_neg (by rintro (h | h); exact c h; exact d h)]
/-- A clock that is whole already. -/
theorem cnorm_of (k : Nat) (hk : 1 < k) {d p : Iv} (hd : Ok d) (hp : Ok p) : clock_norm.f k d.1 d.2.1 d.2.2 p.1 p.2.1 p.2.2 = some (pk6 (cn d p)) := by
  rw [cnorm_f k hk, r3 hd, r3 hp]
/-- The clock of six cells. -/
abbrev cl (e : Bool) (lo hi : Int) (e' : Bool) (lo' hi' : Int) : Cl := cn (no3 e lo hi) (no3 e' lo' hi')
theorem cl_ok (e : Bool) (lo hi : Int) (e' : Bool) (lo' hi' : Int) : OkC (cl e lo hi e' lo' hi') := cn_ok (no3_ok _ _ _) (no3_ok _ _ _)
theorem cl_id {c : Cl} (h : OkC c) : cl c.1.1 c.1.2.1 c.1.2.2 c.2.1 c.2.2.1 c.2.2.2 = c := by
  unfold cl
  rw [r3 h.1, r3 h.2.1, cn_id h]
theorem cof_f (k : Nat) (hk : 3 < k) (e : Bool) (lo hi : Int) (e' : Bool) (lo' hi' : Int) : clock_Of.f k e lo hi e' lo' hi' = some (pk6 (ofC (no3 e lo hi) (no3 e' lo' hi'))) := by
  unfold clock_Of.f
  rw [sub_f k (by omega), add_f k (by omega)]
  simp only [Option.bind_some]
  rw [cnorm_of k (by omega) (sub_ok (no3_ok _ _ _)) (add_ok (no3_ok _ _ _) (no3_ok _ _ _))]
  rfl
section
variable (k : Nat) (hk : 3 < k) (a0 : Bool) (a1 a2 : Int) (a3 : Bool) (a4 a5 : Int) (b0 : Bool) (b1 b2 : Int) (b3 : Bool) (b4 b5 : Int)
include hk
theorem bothAdd_f : clock_bothAdd.f k a0 a1 a2 a3 a4 a5 b0 b1 b2 b3 b4 b5 = some (pk6 (both add (cl a0 a1 a2 a3 a4 a5) (cl b0 b1 b2 b3 b4 b5))) := by
  have oa := cl_ok a0 a1 a2 a3 a4 a5
  have ob := cl_ok b0 b1 b2 b3 b4 b5
  unfold clock_bothAdd.f
  rw [cnorm_f k (by omega), cnorm_f k (by omega)]
  simp only [Option.bind_some, add_f k (by omega : 0 < k)]
  rw [r3 oa.1, r3 oa.2.1, r3 ob.1, r3 ob.2.1, cnorm_of k (by omega) (add_ok oa.1 ob.1) (add_ok oa.2.1 ob.2.1)]
  rfl
theorem bothMeet_f : clock_bothMeet.f k a0 a1 a2 a3 a4 a5 b0 b1 b2 b3 b4 b5 = some (pk6 (both meet (cl a0 a1 a2 a3 a4 a5) (cl b0 b1 b2 b3 b4 b5))) := by
  have oa := cl_ok a0 a1 a2 a3 a4 a5
  have ob := cl_ok b0 b1 b2 b3 b4 b5
  unfold clock_bothMeet.f
  rw [cnorm_f k (by omega), cnorm_f k (by omega)]
  simp only [Option.bind_some, meet_f k (by omega : 0 < k)]
  rw [r3 oa.1, r3 oa.2.1, r3 ob.1, r3 ob.2.1, cnorm_of k (by omega) (meet_ok _ _) (meet_ok _ _)]
  rfl
theorem bothJoin_f : clock_bothJoin.f k a0 a1 a2 a3 a4 a5 b0 b1 b2 b3 b4 b5 = some (pk6 (both join (cl a0 a1 a2 a3 a4 a5) (cl b0 b1 b2 b3 b4 b5))) := by
  have oa := cl_ok a0 a1 a2 a3 a4 a5
  have ob := cl_ok b0 b1 b2 b3 b4 b5
  unfold clock_bothJoin.f
  rw [cnorm_f k (by omega), cnorm_f k (by omega)]
  simp only [Option.bind_some, clock_Join_1.f, join2_f k (by omega : 2 < k)]
  rw [r3 oa.1, r3 oa.2.1, r3 ob.1, r3 ob.2.1, cnorm_of k (by omega) (join_ok oa.1 ob.1) (join_ok oa.2.1 ob.2.1)]
  rfl
theorem meetC_f : clock_Meet.f k a0 a1 a2 a3 a4 a5 b0 b1 b2 b3 b4 b5 = some (pk6 (both meet (cl a0 a1 a2 a3 a4 a5) (cl b0 b1 b2 b3 b4 b5))) := by
  unfold clock_Meet.f
  rw [bothMeet_f k hk]
  rfl
theorem joinC_f : clock_Join.f k a0 a1 a2 a3 a4 a5 b0 b1 b2 b3 b4 b5 = some (pk6 (both join (cl a0 a1 a2 a3 a4 a5) (cl b0 b1 b2 b3 b4 b5))) := by
  unfold clock_Join.f
  rw [bothJoin_f k hk]
  rfl
theorem move_f : clock_Move.f k a0 a1 a2 a3 a4 a5 b0 b1 b2 = some (pk6 (both add (cl a0 a1 a2 a3 a4 a5) (no3 b0 b1 b2, no3 b0 b1 b2))) := by
  unfold clock_Move.f
  rw [bothAdd_f k hk]
  unfold cl
  rw [cn_same (no3_ok b0 b1 b2)]
  rfl
theorem tick_f : clock_Tick.f k a0 a1 a2 a3 a4 a5 = some (pk6 (both add (cl a0 a1 a2 a3 a4 a5) ((false, -1, -1), (false, 1, 1)))) := by
  have h1 : no3 false (-1) (-1) = (false, -1, -1) := no3_false (by omega) (by omega) (by omega) (by omega) (by omega)
  have h2 : no3 false 1 1 = (false, 1, 1) := no3_false (by omega) (by omega) (by omega) (by omega) (by omega)
  unfold clock_Tick.f
  rw [point_f, point_f, h1, h2]
  simp only [Option.bind_some, bothAdd_f k hk]
  unfold cl
  rw [h1, h2]
  rfl
theorem tight_f (c0 : Bool) (c1 c2 : Int) : clock_Tight.f k a0 a1 a2 a3 a4 a5 b0 b1 b2 c0 c1 c2 = some (pk6 (both meet (cl a0 a1 a2 a3 a4 a5) (ofC (no3 b0 b1 b2) (no3 c0 c1 c2)))) := by
  unfold clock_Tight.f
  rw [cof_f k hk]
  simp only [Option.bind_some, meetC_f k hk]
  rw [cl_id (ofC_ok (no3_ok b0 b1 b2) (no3_ok c0 c1 c2))]
theorem reduce_f : clock_Reduce.f k b0 b1 b2 a0 a1 a2 a3 a4 a5 b3 b4 b5 = some (reduce (no3 b0 b1 b2) (cl a0 a1 a2 a3 a4 a5) (no3 b3 b4 b5)) := by
  have oa := cl_ok a0 a1 a2 a3 a4 a5
  unfold clock_Reduce.f
  rw [cnorm_f k (by omega)]
  simp only [Option.bind_some, add_f k (by omega : 0 < k), sub_f k (by omega : 0 < k), meet_f k (by omega : 0 < k)]
  rw [r3 oa.1, r3 oa.2.1, r3 (add_ok oa.1 (no3_ok b3 b4 b5)), r3 (meet_ok _ _), r3 (sub_ok oa.2.1)]
  rfl
theorem hasC_f (v n : Int) : clock_Has.f k a0 a1 a2 a3 a4 a5 v n = some (hasC (cl a0 a1 a2 a3 a4 a5) v n) := by
  have oa := cl_ok a0 a1 a2 a3 a4 a5
  obtain ⟨k, rfl⟩ : ∃ m, k = m + 1 := ⟨k - 1, by omega⟩
  unfold clock_Has.f hasC
  rw [mx_eq, mn_eq]
  simp only [clock_Has.j0]
  by_cases c : min v n < -2199023255552
  · rw [if_pos c, if_pos trivial, decide_eq_false (by omega)]
    rfl
  · rw [if_neg c]
    by_cases d : max v n > 2199023255552
    · rw [if_pos (by simpa using d), decide_eq_false (by omega)]
      rfl
    · rw [if_neg (by simpa using d), decide_eq_true (by omega), cnorm_f k (by omega), wrap_id (x := v - n) (by omega) (by omega), wrap_id (x := v + n) (by omega) (by omega)]
      simp only [Option.bind_some, has_f]
      rw [r3 oa.1, r3 oa.2.1]
      cases has (cl a0 a1 a2 a3 a4 a5).1 (v - n) <;> simp
end
section
variable (k : Nat) (a0 : Bool) (a1 a2 : Int) (a3 : Bool) (a4 a5 : Int) (b0 : Bool) (b1 b2 : Int) (b3 : Bool) (b4 b5 : Int)
theorem widenC_f (l : List Int) (hl : l.length ≤ 200) (hk' : 300 ≤ k) : clock_Widen.f k a0 a1 a2 a3 a4 a5 b0 b1 b2 b3 b4 b5 l = some (pk6 (both (fun x y => widen x y l) (cl a0 a1 a2 a3 a4 a5) (cl b0 b1 b2 b3 b4 b5))) := by
  have oa := cl_ok a0 a1 a2 a3 a4 a5
  have ob := cl_ok b0 b1 b2 b3 b4 b5
  unfold clock_Widen.f clock_bothWiden.f
  rw [cnorm_f k (by omega), cnorm_f k (by omega)]
  simp only [Option.bind_some, clock_WidenDo.f, widen_f k l hl hk']
  rw [r3 oa.1, r3 oa.2.1, r3 ob.1, r3 ob.2.1, cnorm_of k (by omega) (widen_ok ob.1 l) (widen_ok ob.2.1 l)]
  rfl
end
end Go.Proofs.Ytinmgnlofininaa.Ev
end
section
namespace Go.Proofs.Ytinmgnlofininaa.Ev
open Go.RowKit Go.Proofs.Ytinmgnlofininaa.PAll Go.Proofs.YtinmgnlofininaaW.PrintWords Go.Proofs.YtinmgnlofininaaW.PrintLast Go.Proofs.YtinmgnlofininaaW.PrintMore
theorem works21_at : flyballlaw21_works.f 30 = some true := by kernel_rfl
theorem works21 (k : Nat) (hk : 30 ≤ k) : flyballlaw21_works.f k = some true := at_rounds flyballlaw21_works.mono hk works21_at
end Go.Proofs.Ytinmgnlofininaa.Ev
end
section
set_option linter.unusedVariables false
set_option linter.unusedSimpArgs false
namespace Go.Proofs.YtinmgnlofininaaAid
open Go.Deep Go.Joins Go.ChangeShapes Go.WideShapes Go.RowKit
section
variable {H : Type} {enc : TypeId × Value → H} {P : Program} {w : World} {base : Nat} {spare : Nat → Bool} {held : Bool}
theorem trod_bii {t : TypeId} {f0 f1 f2 : Field} {n : Nat} {cs : List Value} {y : DataW H × List MemPlace} (hs : P.underlying t = some (.struct #[f0, f1, f2])) (hone : oneCellFields P #[f0, f1, f2] = true)
    (h0 : P.underlying f0.type = some .bool) (h1 : P.underlying f1.type = some (.int .i64)) (h2 : P.underlying f2.type = some (.int .i64)) (hl : cs.length = 3) (h : DataW.trod enc P w base spare held n t cs = some y) :
    ∃ (b : Bool) (x z : Int), cs = [.bool b, .int .i64 x, .int .i64 z] ∧ y = (.agg [.lit (.bool b), .lit (.int .i64 x), .lit (.int .i64 z)], []) ∧ (Lit.int .i64 x).wf = true ∧ (Lit.int .i64 z).wf = true := by
  obtain ⟨xs, m, _, hx, _, hlen, hg⟩ := DataW.trod_struct hs h
  obtain ⟨o0, k0⟩ := hone_of hone 0 f0 rfl
  obtain ⟨o1, k1⟩ := hone_of hone 1 f1 rfl
  obtain ⟨o2, k2⟩ := hone_of hone 2 f2 rfl
  match cs, hl with
  | [c0, c1, c2], _ =>
    match xs, hlen with
    | [y0, y1, y2], _ =>
      have g0 : DataW.trod enc P w base spare held m f0.type [c0] = some y0 := by simpa [o0, k0] using hg 0 f0 rfl
      have g1 : DataW.trod enc P w base spare held m f1.type [c1] = some y1 := by simpa [o1, k1] using hg 1 f1 rfl
      have g2 : DataW.trod enc P w base spare held m f2.type [c2] = some y2 := by simpa [o2, k2] using hg 2 f2 rfl
      obtain ⟨b, e0, rfl⟩ := DataW.trod_bool h0 g0
      obtain ⟨x, e1, rfl, wx⟩ := DataW.trod_int h1 g1
      obtain ⟨z, e2, rfl, wz⟩ := DataW.trod_int h2 g2
      simp only [List.cons.injEq, and_true] at e0 e1 e2
      subst e0 e1 e2
      exact ⟨b, x, z, rfl, by simpa using hx, wx, wz⟩
theorem trod_bii_mk {t : TypeId} {f0 f1 f2 : Field} {b : Bool} {x z : Int} (hs : P.underlying t = some (.struct #[f0, f1, f2])) (hone : oneCellFields P #[f0, f1, f2] = true) (hC : P.cellsOf t = 3)
    (h0 : P.underlying f0.type = some .bool) (h1 : P.underlying f1.type = some (.int .i64)) (h2 : P.underlying f2.type = some (.int .i64)) (wx : (Lit.int .i64 x).wf = true) (wz : (Lit.int .i64 z).wf = true) :
    DataW.trod enc P w base spare held 2 t [.bool b, .int .i64 x, .int .i64 z] = some (.agg [.lit (.bool b), .lit (.int .i64 x), .lit (.int .i64 z)], []) := by
  obtain ⟨o0, k0⟩ := hone_of hone 0 f0 rfl
  obtain ⟨o1, k1⟩ := hone_of hone 1 f1 rfl
  obtain ⟨o2, k2⟩ := hone_of hone 2 f2 rfl
  have g0 : DataW.trod enc P w base spare held 1 f0.type [.bool b] = some (.lit (.bool b), []) := by simp [DataW.trod, h0]
  have := trod_struct3_mk (enc := enc) (w := w) (base := base) (spare := spare) (held := held) (n := 1) (cs := [.bool b, .int .i64 x, .int .i64 z]) hs (by simp [hC])
    (by simpa [o0, k0] using g0) (by simpa [o1, k1] using trod_int_mk (enc := enc) (w := w) (base := base) (spare := spare) (held := held) 0 h1 wx) (by simpa [o2, k2] using trod_int_mk (enc := enc) (w := w) (base := base) (spare := spare) (held := held) 0 h2 wz)
  simpa using this
theorem open_bii {r : Reach} {b0 : Nat} {t : TypeId} {f0 f1 f2 : Field} {v : Value} {d : DataW H} {p : List MemPlace} (hs : P.underlying t = some (.struct #[f0, f1, f2])) (hone : oneCellFields P #[f0, f1, f2] = true) (hC : P.cellsOf t = 3)
    (h0 : P.underlying f0.type = some .bool) (h1 : P.underlying f1.type = some (.int .i64)) (h2 : P.underlying f2.type = some (.int .i64))
    (hv : Value.okWide P w r b0 t v) (h : DataW.Trod enc P w base spare held t v d p) :
    ∃ (b : Bool) (x z : Int), v = .agg #[.bool b, .int .i64 x, .int .i64 z] ∧ d = .agg [.lit (.bool b), .lit (.int .i64 x), .lit (.int .i64 z)] ∧ p = [] ∧ (Lit.int .i64 x).wf = true ∧ (Lit.int .i64 z).wf = true := by
  obtain ⟨cs, rfl, hsz⟩ := okWide_struct hs hv
  obtain ⟨l⟩ := cs
  obtain ⟨fuel, hf⟩ := h
  obtain ⟨b, x, z, e, ey, wx, wz⟩ := trod_bii hs hone h0 h1 h2 (hsz.trans hC) hf
  simp only [Prod.mk.injEq] at ey
  have e' : l = [.bool b, .int .i64 x, .int .i64 z] := by simpa [Value.cells] using e
  subst e'
  exact ⟨b, x, z, rfl, ey.1, ey.2, wx, wz⟩
theorem shut_bii {t : TypeId} {f0 f1 f2 : Field} {b : Bool} {x z : Int} (hs : P.underlying t = some (.struct #[f0, f1, f2])) (hone : oneCellFields P #[f0, f1, f2] = true) (hC : P.cellsOf t = 3)
    (h0 : P.underlying f0.type = some .bool) (h1 : P.underlying f1.type = some (.int .i64)) (h2 : P.underlying f2.type = some (.int .i64)) (wx : (Lit.int .i64 x).wf = true) (wz : (Lit.int .i64 z).wf = true) :
    DataW.Trod enc P w base spare held t (.agg #[.bool b, .int .i64 x, .int .i64 z]) (.agg [.lit (.bool b), .lit (.int .i64 x), .lit (.int .i64 z)]) [] :=
  ⟨2, by simpa [Value.cells] using trod_bii_mk (enc := enc) (w := w) (base := base) (spare := spare) (held := held) (b := b) hs hone hC h0 h1 h2 wx wz⟩
theorem open_two {r : Reach} {b0 : Nat} {t e : TypeId} {g0 g1 f0 f1 f2 : Field} {v : Value} {d : DataW H} {p : List MemPlace} (ht : P.underlying t = some (.struct #[g0, g1])) (hT : P.cellsOf t = 6) (o0 : g0.offset = 0 ∧ g0.type = e) (o1 : g1.offset = 3 ∧ g1.type = e)
    (hs : P.underlying e = some (.struct #[f0, f1, f2])) (hone : oneCellFields P #[f0, f1, f2] = true) (hC : P.cellsOf e = 3)
    (h0 : P.underlying f0.type = some .bool) (h1 : P.underlying f1.type = some (.int .i64)) (h2 : P.underlying f2.type = some (.int .i64))
    (hv : Value.okWide P w r b0 t v) (h : DataW.Trod enc P w base spare held t v d p) :
    ∃ (b : Bool) (x z : Int) (b' : Bool) (x' z' : Int), v = .agg #[.bool b, .int .i64 x, .int .i64 z, .bool b', .int .i64 x', .int .i64 z'] ∧ d = .agg [.agg [.lit (.bool b), .lit (.int .i64 x), .lit (.int .i64 z)], .agg [.lit (.bool b'), .lit (.int .i64 x'), .lit (.int .i64 z')]] ∧ p = [] ∧
      (Lit.int .i64 x).wf = true ∧ (Lit.int .i64 z).wf = true ∧ (Lit.int .i64 x').wf = true ∧ (Lit.int .i64 z').wf = true := by
  obtain ⟨cs, rfl, hsz⟩ := okWide_struct ht hv
  obtain ⟨l⟩ := cs
  match l, hsz.trans hT with
  | [c0, c1, c2, c3, c4, c5], _ =>
    obtain ⟨fuel, hf⟩ := h
    obtain ⟨xs, m, _, hx, _, hlen, hg⟩ := DataW.trod_struct ht hf
    match xs, hlen with
    | [y0, y1], _ =>
      have q0 : DataW.trod enc P w base spare held m e [c0, c1, c2] = some y0 := by simpa [Value.cells, o0.1, o0.2, hC] using hg 0 g0 rfl
      have q1 : DataW.trod enc P w base spare held m e [c3, c4, c5] = some y1 := by simpa [Value.cells, o1.1, o1.2, hC] using hg 1 g1 rfl
      obtain ⟨b, x, z, e0, rfl, wx, wz⟩ := trod_bii hs hone h0 h1 h2 rfl q0
      obtain ⟨b', x', z', e1, rfl, wx', wz'⟩ := trod_bii hs hone h0 h1 h2 rfl q1
      simp only [List.cons.injEq, and_true] at e0 e1
      obtain ⟨rfl, rfl, rfl⟩ := e0
      obtain ⟨rfl, rfl, rfl⟩ := e1
      simp only [Prod.mk.injEq] at hx
      exact ⟨b, x, z, b', x', z', rfl, by simpa using hx.1, by simpa using hx.2, wx, wz, wx', wz'⟩
theorem shut_two {t e : TypeId} {g0 g1 f0 f1 f2 : Field} {b b' : Bool} {x z x' z' : Int} (ht : P.underlying t = some (.struct #[g0, g1])) (hT : P.cellsOf t = 6) (o0 : g0.offset = 0 ∧ g0.type = e) (o1 : g1.offset = 3 ∧ g1.type = e)
    (hs : P.underlying e = some (.struct #[f0, f1, f2])) (hone : oneCellFields P #[f0, f1, f2] = true) (hC : P.cellsOf e = 3)
    (h0 : P.underlying f0.type = some .bool) (h1 : P.underlying f1.type = some (.int .i64)) (h2 : P.underlying f2.type = some (.int .i64))
    (wx : (Lit.int .i64 x).wf = true) (wz : (Lit.int .i64 z).wf = true) (wx' : (Lit.int .i64 x').wf = true) (wz' : (Lit.int .i64 z').wf = true) :
    DataW.Trod enc P w base spare held t (.agg #[.bool b, .int .i64 x, .int .i64 z, .bool b', .int .i64 x', .int .i64 z']) (.agg [.agg [.lit (.bool b), .lit (.int .i64 x), .lit (.int .i64 z)], .agg [.lit (.bool b'), .lit (.int .i64 x'), .lit (.int .i64 z')]]) [] := by
  have ts := trod_struct2_mk (enc := enc) (w := w) (base := base) (spare := spare) (held := held) (n := 2) (cs := [.bool b, .int .i64 x, .int .i64 z, .bool b', .int .i64 x', .int .i64 z']) ht (by simp [hT])
    (by simpa [o0.1, o0.2, hC] using trod_bii_mk (enc := enc) (w := w) (base := base) (spare := spare) (held := held) (b := b) hs hone hC h0 h1 h2 wx wz)
    (by simpa [o1.1, o1.2, hC] using trod_bii_mk (enc := enc) (w := w) (base := base) (spare := spare) (held := held) (b := b') hs hone hC h0 h1 h2 wx' wz')
  exact ⟨_, by simpa [Value.cells] using ts⟩
end
end Go.Proofs.YtinmgnlofininaaAid
end
section
set_option linter.unusedVariables false
set_option linter.unusedSimpArgs false
namespace Go.Proofs.Ytinmgnlofininaa.Spec
open Go.RowKit
theorem has_falseQ (lo hi n : Int) : has (false, lo, hi) n = true ↔ (lo = -1099511627776 ∨ lo ≤ n) ∧ (hi = 1099511627776 ∨ n ≤ hi) := by simp [has]
abbrev Nr (x : Int) : Prop := -274877906944 ≤ x ∧ x ≤ 274877906944
theorem has_nearQ {a : Iv} {x : Int} (ha : Ok a) (hx : Nr x) (h : has a x = true) : ∃ lo hi, a = (false, lo, hi) ∧ lo ≤ x ∧ x ≤ hi ∧ -1099511627776 ≤ lo ∧ hi ≤ 1099511627776 ∧ lo < 1099511627776 ∧ -1099511627776 < hi := by
  rcases ha.cases with rfl | ⟨lo, hi, rfl, h1, h2, h3, h4, h5⟩
  · simp [has] at h
  · rw [has_falseQ] at h
    exact ⟨lo, hi, rfl, by omega, by omega, h1, h3, h4, h5⟩
theorem has_hullQ {l u n : Int} (h : l ≤ n ∨ l ≤ -1099511627776) (g : n ≤ u ∨ 1099511627776 ≤ u) : has (hull l u) n = true := by
  unfold hull clip
  rw [has_falseQ]
  omega
theorem addQ {a b : Iv} {x y : Int} (ha : Ok a) (hb : Ok b) (nx : Nr x) (ny : Nr y) (hx : has a x = true) (hy : has b y = true) : has (add a b) (x + y) = true := by
  obtain ⟨lo, hi, rfl, h1, h2, h3, h4, h5, h6⟩ := has_nearQ ha nx hx
  obtain ⟨l, u, rfl, g1, g2, g3, g4, g5, g6⟩ := has_nearQ hb ny hy
  rw [add_false rfl rfl]
  apply has_hullQ
  · simp only; unfold sum clip; split <;> (try split) <;> omega
  · simp only; unfold sum clip; split <;> (try split) <;> omega
theorem negQ {a : Iv} {x : Int} (ha : Ok a) (nx : Nr x) (hx : has a x = true) : has (neg a) (-x) = true := by
  obtain ⟨lo, hi, rfl, h1, h2, h3, h4, h5, h6⟩ := has_nearQ ha nx hx
  rw [neg_false h3 (by omega) h4 h5 h6, has_falseQ]
  omega
theorem subQ {a b : Iv} {x y : Int} (ha : Ok a) (hb : Ok b) (nx : Nr x) (ny : Nr y) (hx : has a x = true) (hy : has b y = true) : has (sub a b) (x - y) = true := by
  have := addQ ha (neg_ok b) nx (y := -y) (by omega) hx (negQ hb ny hy)
  rw [show x - y = x + -y by omega]
  exact this
theorem meetQ {a b : Iv} {x : Int} (ha : Ok a) (hb : Ok b) (nx : Nr x) : has (meet a b) x = (has a x && has b x) := by
  rcases ha.cases with rfl | ⟨lo, hi, rfl, h1, h2, h3, h4, h5⟩
  · simp [meet, has]
  rcases hb.cases with rfl | ⟨l, u, rfl, g1, g2, g3, g4, g5⟩
  · simp [meet, has]
  rw [Bool.eq_iff_iff, Bool.and_eq_true, has_falseQ, has_falseQ]
  simp only [meet, Bool.false_eq_true, or_self, if_false]
  by_cases c : max lo l > min hi u ∨ max lo l ≥ 1099511627776 ∨ min hi u ≤ -1099511627776
  · unfold no3
    rw [if_pos (.inr c)]
    constructor
    · intro h; simp [has] at h
    · intro h; omega
  · rw [no3_false (by omega) (by omega) (by omega) (by omega) (by omega), has_falseQ]
    omega
theorem insQ {a b : Iv} {x : Int} (ha : Ok a) (nx : Nr x) (i : inside a b = true) (hx : has a x = true) : has b x = true := by
  obtain ⟨lo, hi, rfl, h1, h2, h3, h4, h5, h6⟩ := has_nearQ ha nx hx
  obtain ⟨e, l, u⟩ := b
  simp only [inside, Bool.false_or, Bool.and_eq_true, Bool.not_eq_true', decide_eq_true_eq] at i
  obtain ⟨⟨e0, i1⟩, i2⟩ := i
  subst e0
  rw [has_falseQ]
  omega
theorem joinQ {a b : Iv} {x : Int} (ha : Ok a) (hb : Ok b) (nx : Nr x) (hx : has a x = true) : has (join a b) x = true ∧ has (join b a) x = true := by
  obtain ⟨lo, hi, rfl, h1, h2, h3, h4, h5, h6⟩ := has_nearQ ha nx hx
  rcases hb.cases with rfl | ⟨l, u, rfl, g1, g2, g3, g4, g5⟩
  · exact ⟨by simpa [join] using hx, by simpa [join] using hx⟩
  · simp only [join, Bool.false_eq_true, if_false]
    rw [has_falseQ, has_falseQ]
    omega
theorem has_empty {a : Iv} {x : Int} (h : a.1 = true) : has a x = false := by simp [has, h]
theorem hasC_near (c : Cl) {v k : Int} (hv : -2199023255552 ≤ v ∧ v ≤ 2199023255552) (hk : -2199023255552 ≤ k ∧ k ≤ 2199023255552) : hasC c v k = (has c.1 (v - k) && has c.2 (v + k)) := by
  unfold hasC
  rw [decide_eq_true ⟨hv.1, hv.2, hk.1, hk.2⟩, Bool.true_and]
theorem hasC_cn (d p : Iv) {v k : Int} (hv : -2199023255552 ≤ v ∧ v ≤ 2199023255552) (hk : -2199023255552 ≤ k ∧ k ≤ 2199023255552) : hasC (cn d p) v k = (has d (v - k) && has p (v + k)) := by
  rw [hasC_near _ hv hk]
  unfold cn
  split
  · rename_i h
    rcases h with h | h
    · rw [has_empty (a := d) h]; simp [has]
    · rw [has_empty (a := p) h]; simp [has]
  · rfl
end Go.Proofs.Ytinmgnlofininaa.Spec
end
section
set_option linter.unusedVariables false
set_option linter.unusedSimpArgs false
namespace Go.Proofs.Ytinmgnlofininaa.Pure
open Go.RowKit Go.Proofs.Ytinmgnlofininaa.PAll Go.Proofs.YtinmgnlofininaaW.PrintWords Go.Proofs.YtinmgnlofininaaW.PrintLast Go.Proofs.YtinmgnlofininaaW.PrintMore Go.Proofs.Ytinmgnlofininaa.Spec Go.Proofs.Ytinmgnlofininaa.Ev
theorem pt_near {x : Int} (h : Nr x) : no3 false x x = (false, x, x) := no3_false (by omega) (by omega) (by omega) (by omega) (by omega)
theorem has_pt {x : Int} : has (false, x, x) x = true := by rw [has_falseQ]; omega
section
variable {a b : Cl} {n m : Int} (oa : OkC a) (ob : OkC b) (hn : -34359738368 ≤ n ∧ n ≤ 34359738368) (hm : -34359738368 ≤ m ∧ m ≤ 34359738368) (h : has a.1 (n - m) = true ∧ has a.2 (n + m) = true)
include oa ob hn hm h
omit ob in
theorem s_tick : hasC (both add a ((false, -1, -1), (false, 1, 1))) n (m + 1) = true := by
  unfold both
  rw [hasC_cn _ _ (by omega) (by omega), Bool.and_eq_true]
  have o1 : Ok (false, -1, -1) := .inr (by simp)
  have o2 : Ok (false, 1, 1) := .inr (by simp)
  have e1 := addQ oa.1 o1 (x := n - m) (y := -1) (by omega) (by omega) h.1 has_pt
  have e2 := addQ oa.2.1 o2 (x := n + m) (y := 1) (by omega) (by omega) h.2 has_pt
  rw [show n - (m + 1) = n - m + -1 by omega, show n + (m + 1) = n + m + 1 by omega]
  exact ⟨e1, e2⟩
omit ob in
theorem s_move {by_ : Int} (hb : -34359738368 ≤ by_ ∧ by_ ≤ 34359738368) : hasC (both add a (no3 false by_ by_, no3 false by_ by_)) (n + by_) m = true := by
  unfold both
  rw [hasC_cn _ _ (by omega) (by omega), Bool.and_eq_true]
  have o := no3_ok false by_ by_
  have p : has (no3 false by_ by_) by_ = true := by rw [pt_near (by omega)]; exact has_pt
  have e1 := addQ oa.1 o (x := n - m) (y := by_) (by omega) (by omega) h.1 p
  have e2 := addQ oa.2.1 o (x := n + m) (y := by_) (by omega) (by omega) h.2 p
  rw [show n + by_ - m = n - m + by_ by omega, show n + by_ + m = n + m + by_ by omega]
  exact ⟨e1, e2⟩
theorem s_join : hasC (both join a b) n m = true ∧ hasC (both join b a) n m = true := by
  unfold both
  rw [hasC_cn _ _ (by omega) (by omega), hasC_cn _ _ (by omega) (by omega), Bool.and_eq_true, Bool.and_eq_true]
  have e1 := joinQ oa.1 ob.1 (x := n - m) (by omega) h.1
  have e2 := joinQ oa.2.1 ob.2.1 (x := n + m) (by omega) h.2
  exact ⟨⟨e1.1, e2.1⟩, e1.2, e2.2⟩
theorem s_widen (l : List Int) : hasC (both (fun x y => widen x y l) a b) n m = true ∧ hasC (both (fun x y => widen x y l) b a) n m = true := by
  unfold both
  rw [hasC_cn _ _ (by omega) (by omega), hasC_cn _ _ (by omega) (by omega), Bool.and_eq_true, Bool.and_eq_true]
  exact ⟨⟨insQ oa.1 (by omega) (inside_widen oa.1 ob.1 l).1 h.1, insQ oa.2.1 (by omega) (inside_widen oa.2.1 ob.2.1 l).1 h.2⟩, insQ oa.1 (by omega) (inside_widen ob.1 oa.1 l).2 h.1, insQ oa.2.1 (by omega) (inside_widen ob.2.1 oa.2.1 l).2 h.2⟩
theorem s_meet : hasC (both meet a b) n m = hasC b n m := by
  unfold both
  rw [hasC_cn _ _ (by omega) (by omega), hasC_near _ (by omega) (by omega), meetQ oa.1 ob.1 (by omega), meetQ oa.2.1 ob.2.1 (by omega), h.1, h.2, Bool.true_and, Bool.true_and]
end
section
set_option linter.unusedSectionVars false
variable {a : Cl} {v k : Iv} {n m : Int} (oa : OkC a) (hn : -34359738368 ≤ n ∧ n ≤ 34359738368) (hm : -34359738368 ≤ m ∧ m ≤ 34359738368) (h : has a.1 (n - m) = true ∧ has a.2 (n + m) = true) (ov : Ok v) (ok : Ok k) (hv : has v n = true) (hk : has k m = true)
include oa hn hm h ov ok hv hk
theorem s_of : has (ofC v k).1 (n - m) = true ∧ has (ofC v k).2 (n + m) = true := by
  have e : hasC (ofC v k) n m = true := by
    unfold ofC
    rw [hasC_cn _ _ (by omega) (by omega), Bool.and_eq_true]
    exact ⟨subQ ov ok (by omega) (by omega) hv hk, addQ ov ok (by omega) (by omega) hv hk⟩
  rw [hasC_near _ (by omega) (by omega), Bool.and_eq_true] at e
  exact e
theorem s_ofC : hasC (ofC v k) n m = true := by
  rw [hasC_near _ (by omega) (by omega), Bool.and_eq_true]
  exact s_of oa hn hm h ov ok hv hk
theorem s_tight : hasC (both meet a (ofC v k)) n m = true := by
  rw [s_meet oa (ofC_ok ov ok) hn hm h]
  exact s_ofC oa hn hm h ov ok hv hk
theorem s_reduce : has (reduce v a k) n = true := by
  unfold reduce
  have e1 := addQ oa.1 ok (x := n - m) (y := m) (by omega) (by omega) h.1 hk
  have e2 := subQ oa.2.1 ok (x := n + m) (y := m) (by omega) (by omega) h.2 hk
  rw [show n - m + m = n by omega] at e1
  rw [show n + m - m = n by omega] at e2
  rw [meetQ (meet_ok _ _) (sub_ok oa.2.1) (by omega), meetQ ov (add_ok oa.1 ok) (by omega), hv, e1, e2]
  rfl
end
theorem sound_j0 (k : Nat) (hk : 1000 ≤ k) (a0_0 : Bool) (a0_1 a0_2 : Int) (a0_3 : Bool) (a0_4 a0_5 : Int) (a1_0 : Bool) (a1_1 a1_2 : Int) (a1_3 : Bool) (a1_4 a1_5 : Int) (a2_0 : Bool) (a2_1 a2_2 : Int) (a3_0 : Bool) (a3_1 a3_2 : Int) (n m by_ : Int) (l : List Int)
    (hl : l.length ≤ 200) (hn : -34359738368 ≤ n ∧ n ≤ 34359738368) (hm : -34359738368 ≤ m ∧ m ≤ 34359738368) (hb : -34359738368 ≤ by_ ∧ by_ ≤ 34359738368)
    (h : hasC (cl a0_0 a0_1 a0_2 a0_3 a0_4 a0_5) n m = true) :
    flyballlaw21_ClockSound.j0 (k + 1 + 1) n m by_ l true false a0_0 a0_1 a0_2 a0_3 a0_4 a0_5 a1_0 a1_1 a1_2 a1_3 a1_4 a1_5 a2_0 a2_1 a2_2 a3_0 a3_1 a3_2 = some true := by
  have oa := cl_ok a0_0 a0_1 a0_2 a0_3 a0_4 a0_5
  have ob := cl_ok a1_0 a1_1 a1_2 a1_3 a1_4 a1_5
  have ov := no3_ok a2_0 a2_1 a2_2
  have ok := no3_ok a3_0 a3_1 a3_2
  have oc : ∀ d p : Iv, Ok d → Ok p → cl (cn d p).1.1 (cn d p).1.2.1 (cn d p).1.2.2 (cn d p).2.1 (cn d p).2.2.1 (cn d p).2.2.2 = cn d p := fun d p hd hp => cl_id (cn_ok hd hp)
  have o1 : Ok (false, -1, -1) := .inr (by simp)
  have o2 : Ok (false, 1, 1) := .inr (by simp)
  have hh := h
  rw [hasC_near _ (by omega) (by omega), Bool.and_eq_true] at hh
  have op := no3_ok false by_ by_
  simp only [flyballlaw21_ClockSound.j0, Bool.false_eq_true, if_false, tick_f (k + 1) (by omega), move_f (k + 1) (by omega), joinC_f (k + 1) (by omega), meetC_f (k + 1) (by omega), widenC_f (k + 1) _ _ _ _ _ _ _ _ _ _ _ _ l hl (by omega), point_f, hasC_f (k + 1) (by omega), Option.bind_some, tight_f (k + 1) (by omega), reduce_f (k + 1) (by omega), cof_f (k + 1) (by omega), r3 op]
  rw [wrap_id (x := m + 1) (by omega) (by omega), wrap_id (x := n + by_) (by omega) (by omega)]
  simp only [both, oc _ _ (add_ok oa.1 o1) (add_ok oa.2.1 o2), oc _ _ (add_ok oa.1 op) (add_ok oa.2.1 op), oc _ _ (join_ok oa.1 ob.1) (join_ok oa.2.1 ob.2.1), oc _ _ (join_ok ob.1 oa.1) (join_ok ob.2.1 oa.2.1), oc _ _ (meet_ok _ _) (meet_ok _ _), oc _ _ (widen_ok ob.1 l) (widen_ok ob.2.1 l), oc _ _ (widen_ok oa.1 l) (widen_ok oa.2.1 l)]
  have e1 := s_tick oa hn hm hh
  have e2 := s_move oa hn hm hh hb
  have e3 := s_join oa ob hn hm hh
  have e4 := s_widen oa ob hn hm hh l
  have e5 := s_meet oa ob hn hm hh
  simp only [both] at e1 e2 e3 e4 e5
  rw [if_pos e1, e2, if_pos e3.1, if_pos e3.2, if_pos e4.1, e4.2, e5]
  simp only [has_f, Option.bind_some]
  have q : ∀ x : Bool, (x = true → has (no3 a2_0 a2_1 a2_2) n = true ∧ has (no3 a3_0 a3_1 a3_2) m = true) → flyballlaw21_ClockSound.j1 (k + 1) n m true true true true x a0_0 a0_1 a0_2 a0_3 a0_4 a0_5 a2_0 a2_1 a2_2 a3_0 a3_1 a3_2 = some true := by
    intro x hx
    cases x with
    | false => simp [flyballlaw21_ClockSound.j1]
    | true =>
      obtain ⟨c1, c2⟩ := hx rfl
      have f1 := s_reduce oa hn hm hh ov ok c1 c2
      have f2 := s_tight oa hn hm hh ov ok c1 c2
      have f3 := s_ofC oa hn hm hh ov ok c1 c2
      have orr : Ok (reduce (no3 a2_0 a2_1 a2_2) (cl a0_0 a0_1 a0_2 a0_3 a0_4 a0_5) (no3 a3_0 a3_1 a3_2)) := meet_ok _ _
      have oo := ofC_ok ov ok
      simp only [flyballlaw21_ClockSound.j1, if_true, tight_f k (by omega), reduce_f k (by omega), cof_f k (by omega), hasC_f k (by omega), has_f, Option.bind_some]
      rw [r3 orr, if_pos f1, cl_id oo, f3]
      simp only [both, oc _ _ (meet_ok _ _) (meet_ok _ _)]
      simp only [both] at f2
      rw [if_pos f2]
  by_cases c1 : has (no3 a2_0 a2_1 a2_2) n = true
  · rw [if_pos c1]
    simp only [beq_self_eq_true]
    exact q _ fun g => ⟨c1, g⟩
  · rw [if_neg c1]
    simp only [beq_self_eq_true]
    exact q _ fun g => by cases g
theorem ClockSound (a0_0 : Bool) (a0_1 a0_2 : Int) (a0_3 : Bool) (a0_4 a0_5 : Int) (a1_0 : Bool) (a1_1 a1_2 : Int) (a1_3 : Bool) (a1_4 a1_5 : Int) (a2_0 : Bool) (a2_1 a2_2 : Int) (a3_0 : Bool) (a3_1 a3_2 : Int) (n m by_ : Int) (l : List Int) : ∃ k, flyballlaw21_ClockSound.f k a0_0 a0_1 a0_2 a0_3 a0_4 a0_5 a1_0 a1_1 a1_2 a1_3 a1_4 a1_5 a2_0 a2_1 a2_2 a3_0 a3_1 a3_2 n m by_ l = some true := by
  refine ⟨1002, ?_⟩
  unfold flyballlaw21_ClockSound.f
  rw [works21 _ (by omega)]
  have t : flyballlaw21_ClockSound.j0 1002 n m by_ l true true a0_0 a0_1 a0_2 a0_3 a0_4 a0_5 a1_0 a1_1 a1_2 a1_3 a1_4 a1_5 a2_0 a2_1 a2_2 a3_0 a3_1 a3_2 = some true := by simp [flyballlaw21_ClockSound.j0]
  simp only [Option.bind_some, if_true, t, hasC_f 1002 (by omega)]
  repeat' split
  all_goals first | rfl | skip
  rename_i c1 c2 c3 c4 c5 c6 c7
  cases e : hasC (cl a0_0 a0_1 a0_2 a0_3 a0_4 a0_5) n m with
  | false => exact t
  | true => exact sound_j0 1000 (by omega) _ _ _ _ _ _ _ _ _ _ _ _ _ _ _ _ _ _ n m by_ l (by omega) (by omega) (by omega) (by omega) e
end Go.Proofs.Ytinmgnlofininaa.Pure
end
