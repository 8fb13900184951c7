/- What the claim needs of several texts, in one. -/
import Derived.RowKit
import Derived.KernelRfl
import Derived.WalkKit
import Derived.ProofKit
import Derived.OpenShut
import Derived.ShutString
import Derived.ChangeOld
import Derived.Below
import Derived.SizedLaws
import Derived.Lib.SmallJoins
import Derived.Test.YtinmgnlofininaaZKW
import Derived.Test.YtinmgnlofininaaZKx3
import Derived.Test.YtinmgnlofininaaZKx4
import Derived.Test.YtinmgnlofininaaZKx5
import Derived.Test.YtinmgnlofininaaZKx16
import Derived.Test.YtinmgnlofininaaZKx17
import Derived.Test.YtinmgnlofininaaZKx22
import Derived.Test.YtinmgnlofininaaZKx23
import Derived.Test.YtinmgnlofininaaZKx25
import Derived.Test.YtinmgnlofininaaZKx26
import Derived.Test.YtinmgnlofininaaZKx27
import Derived.Test.YtinmgnlofininaaZKx28
import Derived.Test.YtinmgnlofininaaZKx29
import Derived.Test.YtinmgnlofininaaZKx30
import Derived.Test.YtinmgnlofininaaZKx31
import Derived.Test.YtinmgnlofininaaZKx34
import Derived.Test.YtinmgnlofininaaZKx35
import Derived.Test.YtinmgnlofininaaZKx36
import Derived.Test.YtinmgnlofininaaZKx40
section
set_option linter.unusedVariables false
set_option linter.unusedSimpArgs false
namespace Go.Proofs.Ytinmgnlofininaa.Spec
open Go.RowKit Go.Proofs.YtinmgnlofininaaW.PrintWords Go.Proofs.YtinmgnlofininaaW.PrintLast Go.Proofs.YtinmgnlofininaaW.PrintMore
abbrev Iv := Bool × Int × Int
theorem mx_eq (a b : Int) : mx a b = max a b := by unfold mx; split <;> omega
theorem mn_eq (a b : Int) : mn a b = min a b := by unfold mn; split <;> omega
theorem wrap_id {x : Int} (h : -9223372036854775808 ≤ x) (h' : x ≤ 9223372036854775807) : wrap64 x = x := by unfold wrap64; omega
def no3 (e : Bool) (lo hi : Int) : Iv := if e = true ∨ lo > hi ∨ lo ≥ 1099511627776 ∨ hi ≤ -1099511627776 then (true, 0, 0) else (false, max lo (-1099511627776), min hi 1099511627776)
abbrev nr (s : Iv) : Iv := no3 s.1 s.2.1 s.2.2
/-- Written in the one way. -/
def Ok (s : Iv) : Prop := s = (true, 0, 0) ∨ s.1 = false ∧ -1099511627776 ≤ s.2.1 ∧ s.2.1 ≤ s.2.2 ∧ s.2.2 ≤ 1099511627776 ∧ s.2.1 < 1099511627776 ∧ -1099511627776 < s.2.2
theorem no3_ok (e : Bool) (lo hi : Int) : Ok (no3 e lo hi) := by
  unfold no3 Ok
  split
  · exact .inl rfl
  · refine .inr ⟨rfl, ?_⟩
    simp only
    omega
theorem Ok.cases {s : Iv} (h : Ok s) : s = (true, 0, 0) ∨ ∃ lo hi, s = (false, lo, hi) ∧ -1099511627776 ≤ lo ∧ lo ≤ hi ∧ hi ≤ 1099511627776 ∧ lo < 1099511627776 ∧ -1099511627776 < hi := by
  obtain ⟨e, lo, hi⟩ := s
  rcases h with h | ⟨h, h1⟩
  · exact .inl h
  · simp only at h
    subst h
    exact .inr ⟨lo, hi, rfl, h1⟩
theorem no3_false {lo hi : Int} (h1 : -1099511627776 ≤ lo) (h2 : lo ≤ hi) (h3 : hi ≤ 1099511627776) (h4 : lo < 1099511627776) (h5 : -1099511627776 < hi) : no3 false lo hi = (false, lo, hi) := by
  unfold no3
  rw [if_neg (by simp; omega)]
  rw [show max lo (-1099511627776) = lo by omega, show min hi 1099511627776 = hi by omega]
theorem no3_true (lo hi : Int) : no3 true lo hi = (true, 0, 0) := by simp [no3]
theorem nr_ok {s : Iv} (h : Ok s) : nr s = s := by
  rcases h.cases with rfl | ⟨lo, hi, rfl, h1, h2, h3, h4, h5⟩
  · exact no3_true _ _
  · exact no3_false h1 h2 h3 h4 h5
def has (s : Iv) (n : Int) : Bool := !s.1 && (decide (s.2.1 = -1099511627776 ∨ s.2.1 ≤ n)) && (decide (s.2.2 = 1099511627776 ∨ n ≤ s.2.2))
def inside (a b : Iv) : Bool := a.1 || (!b.1 && decide (b.2.1 ≤ a.2.1) && decide (a.2.2 ≤ b.2.2))
def join (a b : Iv) : Iv := if a.1 = true then b else if b.1 = true then a else (false, min a.2.1 b.2.1, max a.2.2 b.2.2)
def meet (a b : Iv) : Iv := if a.1 = true ∨ b.1 = true then (true, 0, 0) else no3 false (max a.2.1 b.2.1) (min a.2.2 b.2.2)
def clip (n : Int) : Int := max (min n 1099511627776) (-1099511627776)
def sum (x y : Int) : Int := if x ≥ 1099511627776 ∨ x ≤ -1099511627776 then x else if y ≥ 1099511627776 ∨ y ≤ -1099511627776 then y else clip (x + y)
def hull (lo hi : Int) : Iv := (false, min (clip lo) 1099511627775, max (clip hi) (-1099511627775))
def add (a b : Iv) : Iv := if a.1 = true ∨ b.1 = true then (true, 0, 0) else hull (sum a.2.1 b.2.1) (sum a.2.2 b.2.2)
theorem join_ok {a b : Iv} (ha : Ok a) (hb : Ok b) : Ok (join a b) := by
  rcases ha.cases with rfl | ⟨lo, hi, rfl, h1, h2, h3, h4, h5⟩
  · simpa [join] using hb
  · rcases hb.cases with rfl | ⟨lo', hi', rfl, g1, g2, g3, g4, g5⟩
    · simpa [join] using ha
    · refine .inr ⟨by simp [join], ?_⟩
      simp only [join, Bool.false_eq_true, if_false]
      omega
theorem meet_ok (a b : Iv) : Ok (meet a b) := by
  unfold meet
  split
  · exact .inl rfl
  · exact no3_ok _ _ _
end Go.Proofs.Ytinmgnlofininaa.Spec
end
section
set_option linter.unusedVariables false
set_option linter.unusedSimpArgs false
namespace Go.Proofs.Ytinmgnlofininaa.Ev
open Go.RowKit Go.Proofs.Ytinmgnlofininaa.PAll Go.Proofs.YtinmgnlofininaaW.PrintWords Go.Proofs.YtinmgnlofininaaW.PrintLast Go.Proofs.YtinmgnlofininaaW.PrintMore Go.Proofs.Ytinmgnlofininaa.Spec
theorem norm_f (e : Bool) (lo hi : Int) : ints_norm.f e lo hi = some (no3 e lo hi) := by
  unfold ints_norm.f ints_none.f no3
  cases e
  · simp only [Bool.false_eq_true, if_false, false_or, Option.bind_some, mx_eq, mn_eq]
    by_cases h1 : lo > hi
    · simp [h1]
    · by_cases h2 : lo ≥ 1099511627776
      · simp [h1, h2]
      · by_cases h3 : hi ≤ -1099511627776
        · simp [h1, h2, h3]
        · simp [h1, h2, h3]
  · simp
theorem make_f (lo hi : Int) : ints_Make.f lo hi = some (no3 false lo hi) := by
  unfold ints_Make.f
  rw [norm_f]
  rfl
theorem join1_f (k : Nat) (hk : 1 < k) (e : Bool) (lo hi : Int) : ints_Join.f k [(⟨e, lo, hi⟩ : S23)] = some (no3 e lo hi) := by
  obtain ⟨k, rfl⟩ : ∃ m, k = m + 2 := ⟨k - 2, by omega⟩
  have h0 : rd_T23 [(⟨e, lo, hi⟩ : S23)] 0 = ⟨e, lo, hi⟩ := rfl
  simp only [ints_Join.f, ints_none.f, Option.bind_some, ints_Join.l0, List.length_singleton, h0, norm_f]
  rcases (no3_ok e lo hi).cases with h | ⟨l, u, h, _⟩ <;> rw [h] <;> simp [wrap64]
theorem join2_f (k : Nat) (hk : 2 < k) (e : Bool) (lo hi : Int) (e' : Bool) (lo' hi' : Int) : ints_Join.f k [(⟨e, lo, hi⟩ : S23), (⟨e', lo', hi'⟩ : S23)] = some (join (no3 e lo hi) (no3 e' lo' hi')) := by
  obtain ⟨k, rfl⟩ : ∃ m, k = m + 3 := ⟨k - 3, by omega⟩
  have h0 : rd_T23 [(⟨e, lo, hi⟩ : S23), (⟨e', lo', hi'⟩ : S23)] 0 = ⟨e, lo, hi⟩ := rfl
  have h1 : rd_T23 [(⟨e, lo, hi⟩ : S23), (⟨e', lo', hi'⟩ : S23)] 1 = ⟨e', lo', hi'⟩ := rfl
  have w0 : wrap64 (0 + 1) = 1 := by unfold wrap64; omega
  have w1 : wrap64 (1 + 1) = 2 := by unfold wrap64; omega
  simp only [ints_Join.f, ints_none.f, Option.bind_some, ints_Join.l0, h0, h1, w0, w1, norm_f, mx_eq, mn_eq]
  rcases (no3_ok e lo hi).cases with h | ⟨l, u, h, _⟩ <;> rcases (no3_ok e' lo' hi').cases with g | ⟨l', u', g, _⟩ <;> rw [h, g] <;> simp [join]
theorem has_f (e : Bool) (lo hi n : Int) : ints_Has.f e lo hi n = some (has (no3 e lo hi) n) := by
  unfold ints_Has.f
  rw [norm_f]
  rcases (no3_ok e lo hi).cases with h | ⟨l, u, h, h1, h2, h3, h4, h5⟩ <;> rw [h]
  · rfl
  · simp only [Option.bind_some, has, Bool.false_eq_true, if_false, Bool.not_false, Bool.true_and]
    by_cases c1 : l = -1099511627776 <;> by_cases c2 : u = 1099511627776 <;> by_cases c3 : n ≥ l <;> simp [c1, c2, c3] <;> omega
theorem inside_f (e : Bool) (lo hi : Int) (e' : Bool) (lo' hi' : Int) : ints_Inside.f e lo hi e' lo' hi' = some (inside (no3 e lo hi) (no3 e' lo' hi')) := by
  unfold ints_Inside.f
  simp only [norm_f, Option.bind_some]
  rcases (no3_ok e lo hi).cases with h | ⟨l, u, h, h1, h2, h3, h4, h5⟩ <;> rw [h]
  · rfl
  · rcases (no3_ok e' lo' hi').cases with g | ⟨l', u', g, g1, g2, g3, g4, g5⟩ <;> rw [g]
    · rfl
    · simp only [inside, Bool.false_eq_true, if_false, Bool.not_false, Bool.true_and, Bool.false_or]
      by_cases c : l' ≤ l <;> simp [c]
theorem meet_f (k : Nat) (hk : 0 < k) (e : Bool) (lo hi : Int) (e' : Bool) (lo' hi' : Int) : ints_Meet.f k e lo hi e' lo' hi' = some (meet (no3 e lo hi) (no3 e' lo' hi')) := by
  obtain ⟨k, rfl⟩ : ∃ m, k = m + 1 := ⟨k - 1, by omega⟩
  unfold ints_Meet.f
  simp only [norm_f, Option.bind_some]
  rcases (no3_ok e lo hi).cases with h | ⟨l, u, h, h1, h2, h3, h4, h5⟩ <;> rw [h]
  · simp [ints_Meet.j0, meet, ints_none.f]
  · rcases (no3_ok e' lo' hi').cases with g | ⟨l', u', g, g1, g2, g3, g4, g5⟩ <;> rw [g]
    · simp [ints_Meet.j0, meet, ints_none.f]
    · simp only [ints_Meet.j0, meet, Bool.false_eq_true, if_false, make_f, Option.bind_some, mx_eq, mn_eq, or_self]
end Go.Proofs.Ytinmgnlofininaa.Ev
end
section
set_option linter.unusedVariables false
set_option linter.unusedSimpArgs false
namespace Go.Proofs.Ytinmgnlofininaa.Ev
open Go.RowKit Go.Proofs.Ytinmgnlofininaa.PAll Go.Proofs.YtinmgnlofininaaW.PrintWords Go.Proofs.YtinmgnlofininaaW.PrintLast Go.Proofs.YtinmgnlofininaaW.PrintMore Go.Proofs.Ytinmgnlofininaa.Spec
theorem rnorm_f (e : Bool) (lo hi : Int) : flyballref17_Norm.f e lo hi = some (no3 e lo hi) := by
  unfold flyballref17_Norm.f no3
  cases e
  · simp only [Bool.false_eq_true, if_false, false_or, mx_eq, mn_eq]
    by_cases h1 : lo > hi
    · simp [h1]
    · by_cases h2 : lo ≥ 1099511627776
      · simp [h1, h2]
      · by_cases h3 : hi ≤ -1099511627776
        · simp [h1, h2, h3]
        · simp [h1, h2, h3]
  · simp
theorem rhas_f (e : Bool) (lo hi n : Int) : flyballref17_Has.f e lo hi n = some (has (no3 e lo hi) n) := by
  unfold flyballref17_Has.f
  rw [rnorm_f]
  rcases (no3_ok e lo hi).cases with h | ⟨l, u, h, h1, h2, h3, h4, h5⟩ <;> rw [h]
  · rfl
  · simp only [Option.bind_some, has, Bool.false_eq_true, if_false, Bool.not_false, Bool.true_and]
    by_cases c1 : l = -1099511627776 <;> by_cases c2 : u = 1099511627776 <;> by_cases c3 : n ≥ l <;> simp [c1, c2, c3] <;> omega
theorem rinside_f (e : Bool) (lo hi : Int) (e' : Bool) (lo' hi' : Int) : flyballref17_Inside.f e lo hi e' lo' hi' = some (inside (no3 e lo hi) (no3 e' lo' hi')) := by
  unfold flyballref17_Inside.f
  simp only [rnorm_f, Option.bind_some]
  rcases (no3_ok e lo hi).cases with h | ⟨l, u, h, h1, h2, h3, h4, h5⟩ <;> rw [h]
  · rfl
  · rcases (no3_ok e' lo' hi').cases with g | ⟨l', u', g, g1, g2, g3, g4, g5⟩ <;> rw [g]
    · rfl
    · simp only [inside, Bool.false_eq_true, if_false, Bool.not_false, Bool.true_and, Bool.false_or]
      by_cases c : l' ≤ l <;> simp [c]
theorem rjoin_f (e : Bool) (lo hi : Int) (e' : Bool) (lo' hi' : Int) : flyballref17_Join.f e lo hi e' lo' hi' = some (join (no3 e lo hi) (no3 e' lo' hi')) := by
  unfold flyballref17_Join.f
  simp only [rnorm_f, Option.bind_some, mx_eq, mn_eq]
  rcases (no3_ok e lo hi).cases with h | ⟨l, u, h, h1, h2, h3, h4, h5⟩ <;> rw [h]
  · rfl
  · rcases (no3_ok e' lo' hi').cases with g | ⟨l', u', g, g1, g2, g3, g4, g5⟩ <;> rw [g] <;> rfl
theorem rmeet_f (e : Bool) (lo hi : Int) (e' : Bool) (lo' hi' : Int) : flyballref17_Meet.f e lo hi e' lo' hi' = some (meet (no3 e lo hi) (no3 e' lo' hi')) := by
  unfold flyballref17_Meet.f
  simp only [rnorm_f, Option.bind_some, mx_eq, mn_eq]
  rcases (no3_ok e lo hi).cases with h | ⟨l, u, h, h1, h2, h3, h4, h5⟩ <;> rw [h]
  · rfl
  · rcases (no3_ok e' lo' hi').cases with g | ⟨l', u', g, g1, g2, g3, g4, g5⟩ <;> rw [g] <;> rfl
end Go.Proofs.Ytinmgnlofininaa.Ev
end
section
set_option linter.unusedVariables false
set_option linter.unusedSimpArgs false
namespace Go.Proofs.Ytinmgnlofininaa.Spec
open Go.RowKit
abbrev Cl := Iv × Iv
/-- A clock in the one way. -/
def cn (d p : Iv) : Cl := if d.1 = true ∨ p.1 = true then ((true, 0, 0), (true, 0, 0)) else (d, p)
/-- As six cells. -/
abbrev pk6 (c : Cl) : Bool × Int × Int × Bool × Int × Int := (c.1.1, c.1.2.1, c.1.2.2, c.2.1, c.2.2.1, c.2.2.2)
def OkC (c : Cl) : Prop := Ok c.1 ∧ Ok c.2 ∧ (c.1.1 = true ↔ c.2.1 = true)
theorem cn_ok {d p : Iv} (hd : Ok d) (hp : Ok p) : OkC (cn d p) := by
  unfold cn
  split
  · exact ⟨.inl rfl, .inl rfl, Iff.rfl⟩
  · rename_i h
    exact ⟨hd, hp, ⟨fun x => absurd (.inl x) h, fun x => absurd (.inr x) h⟩⟩
def both (f : Iv → Iv → Iv) (a b : Cl) : Cl := cn (f a.1 b.1) (f a.2 b.2)
def insideC (a b : Cl) : Bool := inside a.1 b.1 && inside a.2 b.2
def hasC (c : Cl) (v k : Int) : Bool := decide (-2199023255552 ≤ v ∧ v ≤ 2199023255552 ∧ -2199023255552 ≤ k ∧ k ≤ 2199023255552) && (has c.1 (v - k) && has c.2 (v + k))
def loS (j : Int) (a : Int) (l : List Int) : Int := l.foldl (fun a n => if n ≤ j then max a n else a) a
def hiS (j : Int) (a : Int) (l : List Int) : Int := l.foldl (fun a n => if n ≥ j then min a n else a) a
def widen (o n : Iv) (l : List Int) : Iv := if o.1 = true then n else
  no3 false (if (join o n).2.1 = o.2.1 then (join o n).2.1 else loS (join o n).2.1 (-1099511627776) l) (if (join o n).2.2 = o.2.2 then (join o n).2.2 else hiS (join o n).2.2 1099511627776 l)
theorem widen_ok {o n : Iv} (hn : Ok n) (l : List Int) : Ok (widen o n l) := by
  unfold widen
  split
  · exact hn
  · exact no3_ok _ _ _
end Go.Proofs.Ytinmgnlofininaa.Spec
end
section
set_option linter.unusedVariables false
set_option linter.unusedSimpArgs false
namespace Go.Proofs.Ytinmgnlofininaa.Ev
open Go.RowKit Go.Proofs.Ytinmgnlofininaa.PAll Go.Proofs.YtinmgnlofininaaW.PrintWords Go.Proofs.YtinmgnlofininaaW.PrintLast Go.Proofs.YtinmgnlofininaaW.PrintMore Go.Proofs.Ytinmgnlofininaa.Spec
theorem rd_at (l : List Int) (i : Nat) (h : i < l.length) : rd l (i : Int) = l[i] := by
  unfold rd
  simp [List.getD_eq_getElem?_getD, h]
theorem wrap_next {i n : Nat} (h : i < n) (hn : n ≤ 1000) : wrap64 ((i : Int) + 1) = ((i + 1 : Nat) : Int) := by
  rw [wrap_id (by omega) (by omega)]
  omega
theorem loS_cons (j a n : Int) (l : List Int) : loS j a (n :: l) = loS j (if n ≤ j then max a n else a) l := rfl
theorem hiS_cons (j a n : Int) (l : List Int) : hiS j a (n :: l) = hiS j (if n ≥ j then min a n else a) l := rfl
theorem wl0_end (M : Nat) (l : List Int) (lo hi : Int) (i : Int) (oe : Bool) (ol oh : Int) (je : Bool) (jl jh : Int) (h : ¬ i < (l.length : Int)) :
    ints_Widen.l0 (M + 1) lo hi l (l.length : Int) i oe ol oh je jl jh = some (no3 false (if jl = ol then jl else lo) (if jh = oh then jh else hi)) := by
  rw [ints_Widen.l0, if_neg h]
  by_cases c : jl = ol <;> by_cases d : jh = oh <;> simp only [c, d, if_true, if_false, make_f, Option.bind_some]
theorem wl0_step (M : Nat) (l : List Int) (lo hi : Int) (i : Nat) (oe : Bool) (ol oh : Int) (je : Bool) (jl jh : Int) (h : i < l.length) (hl : l.length ≤ 1000) :
    ints_Widen.l0 (M + 1) lo hi l (l.length : Int) (i : Int) oe ol oh je jl jh = ints_Widen.l0 M (if l[i] ≤ jl then max lo l[i] else lo) (if l[i] ≥ jh then min hi l[i] else hi) l (l.length : Int) ((i + 1 : Nat) : Int) oe ol oh je jl jh := by
  rw [ints_Widen.l0, if_pos (by omega), if_pos (by omega), if_pos (by omega), rd_at l i h, wrap_next h hl, mx_eq, mn_eq]
  by_cases c : l[i] ≤ jl <;> by_cases d : l[i] ≥ jh <;> simp only [c, d, if_true, if_false]
theorem wl0_f (l : List Int) (oe : Bool) (ol oh : Int) (je : Bool) (jl jh : Int) (hl : l.length ≤ 1000) (m : Nat) (d : Nat) :
    ∀ (i : Nat) (lo hi : Int), i + d = l.length → ints_Widen.l0 (m + d + 1) lo hi l (l.length : Int) (i : Int) oe ol oh je jl jh = some (no3 false (if jl = ol then jl else loS jl lo (l.drop i)) (if jh = oh then jh else hiS jh hi (l.drop i))) := by
  induction d with
  | zero =>
    intro i lo hi h
    have e : l.drop i = [] := List.drop_of_length_le (by omega)
    rw [e]
    exact wl0_end m l lo hi i oe ol oh je jl jh (by omega)
  | succ d ih =>
    intro i lo hi h
    have hi' : i < l.length := by omega
    have e : l.drop i = l[i] :: l.drop (i + 1) := List.drop_eq_getElem_cons hi'
    have s := wl0_step (m + d + 1) l lo hi i oe ol oh je jl jh hi' hl
    have g := ih (i + 1) (if l[i] ≤ jl then max lo l[i] else lo) (if l[i] ≥ jh then min hi l[i] else hi) (by omega)
    rw [e, loS_cons, hiS_cons, ← g]
    exact s
theorem widen_f (k : Nat) (l : List Int) (hl : l.length ≤ 200) (hk : 300 ≤ k) (e : Bool) (lo hi : Int) (e' : Bool) (lo' hi' : Int) : ints_Widen.f k e lo hi e' lo' hi' l = some (widen (no3 e lo hi) (no3 e' lo' hi') l) := by
  unfold ints_Widen.f
  simp only [norm_f, Option.bind_some]
  rcases (no3_ok e lo hi).cases with h | ⟨a, u, h, h1, h2, h3, h4, h5⟩
  · rw [h]; rfl
  · rw [h]
    simp only [Bool.false_eq_true, if_false]
    rw [join2_f k (by omega), no3_false h1 h2 h3 h4 h5]
    simp only [Option.bind_some]
    obtain ⟨m, rfl⟩ : ∃ m, k = m + l.length + 1 := ⟨k - l.length - 1, by omega⟩
    have g := wl0_f l false a u (join (false, a, u) (no3 e' lo' hi')).1 (join (false, a, u) (no3 e' lo' hi')).2.1 (join (false, a, u) (no3 e' lo' hi')).2.2 (by omega) m l.length 0 (-1099511627776) 1099511627776 (by omega)
    simp only [Int.natCast_zero, List.drop_zero] at g
    rw [g]
    rfl
theorem rl1_end (M : Nat) (l : List Int) (hi : Int) (i : Int) (je : Bool) (jl jh : Int) (h : ¬ i < (l.length : Int)) : flyballref17_Widen.l1 (M + 1) l hi i je jl jh = some (no3 je jl hi) := by
  rw [flyballref17_Widen.l1, if_neg h, rnorm_f]
  rfl
theorem rl1_step (M : Nat) (l : List Int) (hi : Int) (i : Nat) (je : Bool) (jl jh : Int) (h : i < l.length) (hl : l.length ≤ 1000) : flyballref17_Widen.l1 (M + 1) l hi (i : Int) je jl jh = flyballref17_Widen.l1 M l (if l[i] ≥ jh then min hi l[i] else hi) ((i + 1 : Nat) : Int) je jl jh := by
  rw [flyballref17_Widen.l1, if_pos (by omega), if_pos (by omega), rd_at l i h, wrap_next h hl, mn_eq]
  by_cases d : l[i] ≥ jh <;> simp only [d, if_true, if_false]
theorem rl1_f (l : List Int) (je : Bool) (jl jh : Int) (hl : l.length ≤ 1000) (m : Nat) (d : Nat) :
    ∀ (i : Nat) (hi : Int), i + d = l.length → flyballref17_Widen.l1 (m + d + 1) l hi (i : Int) je jl jh = some (no3 je jl (hiS jh hi (l.drop i))) := by
  induction d with
  | zero =>
    intro i hi h
    have e : l.drop i = [] := List.drop_of_length_le (by omega)
    rw [e]
    exact rl1_end m l hi i je jl jh (by omega)
  | succ d ih =>
    intro i hi h
    have hi' : i < l.length := by omega
    have e : l.drop i = l[i] :: l.drop (i + 1) := List.drop_eq_getElem_cons hi'
    have s := rl1_step (m + d + 1) l hi i je jl jh hi' hl
    have g := ih (i + 1) (if l[i] ≥ jh then min hi l[i] else hi) (by omega)
    rw [e, hiS_cons, ← g]
    exact s
theorem rl0_end (M : Nat) (l : List Int) (lo : Int) (i : Int) (oe : Bool) (ol oh : Int) (je : Bool) (jl jh : Int) (h : ¬ i < (l.length : Int)) : flyballref17_Widen.l0 (M + 1) l lo i oe ol oh je jl jh = flyballref17_Widen.j1 M l oe ol oh je lo jh := by
  rw [flyballref17_Widen.l0, if_neg h]
theorem rl0_step (M : Nat) (l : List Int) (lo : Int) (i : Nat) (oe : Bool) (ol oh : Int) (je : Bool) (jl jh : Int) (h : i < l.length) (hl : l.length ≤ 1000) : flyballref17_Widen.l0 (M + 1) l lo (i : Int) oe ol oh je jl jh = flyballref17_Widen.l0 M l (if l[i] ≤ jl then max lo l[i] else lo) ((i + 1 : Nat) : Int) oe ol oh je jl jh := by
  rw [flyballref17_Widen.l0, if_pos (by omega), if_pos (by omega), rd_at l i h, wrap_next h hl, mx_eq]
  by_cases d : l[i] ≤ jl <;> simp only [d, if_true, if_false]
theorem rl0_f (l : List Int) (oe : Bool) (ol oh : Int) (je : Bool) (jl jh : Int) (hl : l.length ≤ 1000) (m : Nat) (d : Nat) :
    ∀ (i : Nat) (lo : Int), i + d = l.length → flyballref17_Widen.l0 (m + d + 1) l lo (i : Int) oe ol oh je jl jh = flyballref17_Widen.j1 m l oe ol oh je (loS jl lo (l.drop i)) jh := by
  induction d with
  | zero =>
    intro i lo h
    have e : l.drop i = [] := List.drop_of_length_le (by omega)
    rw [e]
    exact rl0_end m l lo i oe ol oh je jl jh (by omega)
  | succ d ih =>
    intro i lo h
    have hi' : i < l.length := by omega
    have e : l.drop i = l[i] :: l.drop (i + 1) := List.drop_eq_getElem_cons hi'
    have s := rl0_step (m + d + 1) l lo i oe ol oh je jl jh hi' hl
    have g := ih (i + 1) (if l[i] ≤ jl then max lo l[i] else lo) (by omega)
    rw [e, loS_cons, ← g]
    exact s
theorem rj1_f (l : List Int) (oe : Bool) (ol oh : Int) (je : Bool) (jl jh : Int) (hl : l.length ≤ 200) (k : Nat) (hk : 250 ≤ k) : flyballref17_Widen.j1 k l oe ol oh je jl jh = some (no3 je jl (if jh > oh then hiS jh 1099511627776 l else jh)) := by
  obtain ⟨m, rfl⟩ : ∃ m, k = (m + l.length + 1) + 1 := ⟨k - l.length - 2, by omega⟩
  rw [flyballref17_Widen.j1]
  by_cases c : jh > oh
  · rw [if_pos c, if_pos c]
    have g := rl1_f l je jl jh (by omega) m l.length 0 1099511627776 (by omega)
    simp only [Int.natCast_zero, List.drop_zero] at g
    exact g
  · rw [if_neg c, if_neg c, rnorm_f]
    rfl
theorem rwiden_f (k : Nat) (l : List Int) (hl : l.length ≤ 200) (hk : 600 ≤ k) (e : Bool) (lo hi : Int) (e' : Bool) (lo' hi' : Int) : flyballref17_Widen.f k e lo hi e' lo' hi' l = some (widen (no3 e lo hi) (no3 e' lo' hi') l) := by
  unfold flyballref17_Widen.f
  simp only [rnorm_f, Option.bind_some]
  have oo := no3_ok e lo hi
  have on := no3_ok e' lo' hi'
  generalize no3 e' lo' hi' = n at on ⊢
  rcases oo.cases with h | ⟨a, u, h, h1, h2, h3, h4, h5⟩
  · rw [h]; rfl
  · rw [h]
    have on' : Ok (false, a, u) := .inr ⟨rfl, h1, h2, h3, h4, h5⟩
    simp only [Bool.false_eq_true, if_false]
    rw [rjoin_f, no3_false h1 h2 h3 h4 h5, show no3 n.1 n.2.1 n.2.2 = n from nr_ok on]
    simp only [Option.bind_some]
    have hj1 : (join (false, a, u) n).1 = false ∧ (join (false, a, u) n).2.1 ≤ a ∧ u ≤ (join (false, a, u) n).2.2 := by
      rcases on.cases with rfl | ⟨l', u', rfl, b1, b2, b3, b4, b5⟩
      · simp [join]
      · simp only [join, Bool.false_eq_true, if_false]; exact ⟨trivial, by omega, by omega⟩
    simp only [widen, Bool.false_eq_true, if_false]
    generalize join (false, a, u) n = j at hj1 ⊢
    obtain ⟨je, jl, jh⟩ := j
    simp only at hj1 ⊢
    obtain ⟨rfl, c1, c2⟩ := hj1
    have q : ∀ x : Int, (if jh > u then x else jh) = (if jh = u then jh else x) := fun x => by
      by_cases c : jh = u
      · rw [if_pos c, if_neg (by omega)]
      · rw [if_neg c, if_pos (by omega)]
    by_cases c : jl < a
    · rw [if_pos c, if_neg (by omega)]
      obtain ⟨m, rfl⟩ : ∃ m, k = m + l.length + 1 := ⟨k - l.length - 1, by omega⟩
      have g := rl0_f l false a u false jl jh (by omega) m l.length 0 (-1099511627776) (by omega)
      simp only [Int.natCast_zero, List.drop_zero] at g
      rw [g, rj1_f l false a u false _ jh hl m (by omega), q]
    · rw [if_neg c, if_pos (by omega), rj1_f l false a u false jl jh hl k (by omega), q]
end Go.Proofs.Ytinmgnlofininaa.Ev
end
section
set_option linter.unusedVariables false
set_option linter.unusedSimpArgs false
namespace Go.Proofs.Ytinmgnlofininaa.Ev
open Go.RowKit Go.Proofs.Ytinmgnlofininaa.PAll Go.Proofs.YtinmgnlofininaaW.PrintWords Go.Proofs.YtinmgnlofininaaW.PrintLast Go.Proofs.YtinmgnlofininaaW.PrintMore Go.Proofs.Ytinmgnlofininaa.Spec
theorem r3 {s : Iv} (h : Ok s) : no3 s.1 s.2.1 s.2.2 = s := nr_ok h
theorem cnorm_f (k : Nat) (hk : 1 < k) (e : Bool) (lo hi : Int) (e' : Bool) (lo' hi' : Int) : clock_norm.f k e lo hi e' lo' hi' = some (pk6 (cn (no3 e lo hi) (no3 e' lo' hi'))) := by
  unfold clock_norm.f
  rw [join1_f k hk, join1_f k hk]
  simp only [Option.bind_some]
  unfold cn
  by_cases c : (no3 e lo hi).1 = true
  · rw [if_pos c, if_pos (.inl c)]
  · rw [if_neg c]
    by_cases d : (no3 e' lo' hi').1 = true
    · rw [if_pos d, if_pos (.inr d)]
    · rw [if_neg d, if_neg (by rintro (h | h); exact c h; exact d h)]
/-- A clock that is whole already. -/
theorem cnorm_of (k : Nat) (hk : 1 < k) {d p : Iv} (hd : Ok d) (hp : Ok p) : clock_norm.f k d.1 d.2.1 d.2.2 p.1 p.2.1 p.2.2 = some (pk6 (cn d p)) := by
  rw [cnorm_f k hk, r3 hd, r3 hp]
/-- The clock of six cells. -/
abbrev cl (e : Bool) (lo hi : Int) (e' : Bool) (lo' hi' : Int) : Cl := cn (no3 e lo hi) (no3 e' lo' hi')
theorem cl_ok (e : Bool) (lo hi : Int) (e' : Bool) (lo' hi' : Int) : OkC (cl e lo hi e' lo' hi') := cn_ok (no3_ok _ _ _) (no3_ok _ _ _)
section
variable (k : Nat) (hk : 3 < k) (a0 : Bool) (a1 a2 : Int) (a3 : Bool) (a4 a5 : Int) (b0 : Bool) (b1 b2 : Int) (b3 : Bool) (b4 b5 : Int)
include hk
theorem bothMeet_f : clock_bothMeet.f k a0 a1 a2 a3 a4 a5 b0 b1 b2 b3 b4 b5 = some (pk6 (both meet (cl a0 a1 a2 a3 a4 a5) (cl b0 b1 b2 b3 b4 b5))) := by
  have oa := cl_ok a0 a1 a2 a3 a4 a5
  have ob := cl_ok b0 b1 b2 b3 b4 b5
  unfold clock_bothMeet.f
  rw [cnorm_f k (by omega), cnorm_f k (by omega)]
  simp only [Option.bind_some, meet_f k (by omega : 0 < k)]
  rw [r3 oa.1, r3 oa.2.1, r3 ob.1, r3 ob.2.1, cnorm_of k (by omega) (meet_ok _ _) (meet_ok _ _)]
  rfl
theorem bothJoin_f : clock_bothJoin.f k a0 a1 a2 a3 a4 a5 b0 b1 b2 b3 b4 b5 = some (pk6 (both join (cl a0 a1 a2 a3 a4 a5) (cl b0 b1 b2 b3 b4 b5))) := by
  have oa := cl_ok a0 a1 a2 a3 a4 a5
  have ob := cl_ok b0 b1 b2 b3 b4 b5
  unfold clock_bothJoin.f
  rw [cnorm_f k (by omega), cnorm_f k (by omega)]
  simp only [Option.bind_some, clock_Join_1.f, join2_f k (by omega : 2 < k)]
  rw [r3 oa.1, r3 oa.2.1, r3 ob.1, r3 ob.2.1, cnorm_of k (by omega) (join_ok oa.1 ob.1) (join_ok oa.2.1 ob.2.1)]
  rfl
theorem meetC_f : clock_Meet.f k a0 a1 a2 a3 a4 a5 b0 b1 b2 b3 b4 b5 = some (pk6 (both meet (cl a0 a1 a2 a3 a4 a5) (cl b0 b1 b2 b3 b4 b5))) := by
  unfold clock_Meet.f
  rw [bothMeet_f k hk]
  rfl
theorem joinC_f : clock_Join.f k a0 a1 a2 a3 a4 a5 b0 b1 b2 b3 b4 b5 = some (pk6 (both join (cl a0 a1 a2 a3 a4 a5) (cl b0 b1 b2 b3 b4 b5))) := by
  unfold clock_Join.f
  rw [bothJoin_f k hk]
  rfl
theorem insideC_f : clock_Inside.f k a0 a1 a2 a3 a4 a5 b0 b1 b2 b3 b4 b5 = some (insideC (cl a0 a1 a2 a3 a4 a5) (cl b0 b1 b2 b3 b4 b5)) := by
  have oa := cl_ok a0 a1 a2 a3 a4 a5
  have ob := cl_ok b0 b1 b2 b3 b4 b5
  unfold clock_Inside.f insideC
  rw [cnorm_f k (by omega), cnorm_f k (by omega)]
  simp only [Option.bind_some, inside_f]
  rw [r3 oa.1, r3 oa.2.1, r3 ob.1, r3 ob.2.1]
  cases inside (cl a0 a1 a2 a3 a4 a5).1 (cl b0 b1 b2 b3 b4 b5).1 <;> simp
theorem hasC_f (v n : Int) : clock_Has.f k a0 a1 a2 a3 a4 a5 v n = some (hasC (cl a0 a1 a2 a3 a4 a5) v n) := by
  have oa := cl_ok a0 a1 a2 a3 a4 a5
  obtain ⟨k, rfl⟩ : ∃ m, k = m + 1 := ⟨k - 1, by omega⟩
  unfold clock_Has.f hasC
  rw [mx_eq, mn_eq]
  simp only [clock_Has.j0]
  by_cases c : min v n < -2199023255552
  · rw [if_pos c, if_pos trivial, decide_eq_false (by omega)]
    rfl
  · rw [if_neg c]
    by_cases d : max v n > 2199023255552
    · rw [if_pos (by simpa using d), decide_eq_false (by omega)]
      rfl
    · rw [if_neg (by simpa using d), decide_eq_true (by omega), cnorm_f k (by omega), wrap_id (x := v - n) (by omega) (by omega), wrap_id (x := v + n) (by omega) (by omega)]
      simp only [Option.bind_some, has_f]
      rw [r3 oa.1, r3 oa.2.1]
      cases has (cl a0 a1 a2 a3 a4 a5).1 (v - n) <;> simp
end
section
variable (k : Nat) (a0 : Bool) (a1 a2 : Int) (a3 : Bool) (a4 a5 : Int) (b0 : Bool) (b1 b2 : Int) (b3 : Bool) (b4 b5 : Int)
theorem widenC_f (l : List Int) (hl : l.length ≤ 200) (hk' : 300 ≤ k) : clock_Widen.f k a0 a1 a2 a3 a4 a5 b0 b1 b2 b3 b4 b5 l = some (pk6 (both (fun x y => widen x y l) (cl a0 a1 a2 a3 a4 a5) (cl b0 b1 b2 b3 b4 b5))) := by
  have oa := cl_ok a0 a1 a2 a3 a4 a5
  have ob := cl_ok b0 b1 b2 b3 b4 b5
  unfold clock_Widen.f clock_bothWiden.f
  rw [cnorm_f k (by omega), cnorm_f k (by omega)]
  simp only [Option.bind_some, clock_WidenDo.f, widen_f k l hl hk']
  rw [r3 oa.1, r3 oa.2.1, r3 ob.1, r3 ob.2.1, cnorm_of k (by omega) (widen_ok ob.1 l) (widen_ok ob.2.1 l)]
  rfl
end
end Go.Proofs.Ytinmgnlofininaa.Ev
end
section
set_option linter.unusedVariables false
set_option linter.unusedSimpArgs false
namespace Go.Proofs.Ytinmgnlofininaa.Ev
open Go.RowKit Go.Proofs.Ytinmgnlofininaa.PAll Go.Proofs.YtinmgnlofininaaW.PrintWords Go.Proofs.YtinmgnlofininaaW.PrintLast Go.Proofs.YtinmgnlofininaaW.PrintMore Go.Proofs.Ytinmgnlofininaa.Spec
theorem qnorm_f (e : Bool) (lo hi : Int) (e' : Bool) (lo' hi' : Int) : flyballref21_Norm.f e lo hi e' lo' hi' = some (pk6 (cl e lo hi e' lo' hi')) := by
  unfold flyballref21_Norm.f
  simp only [rnorm_f, Option.bind_some]
  unfold cl cn
  by_cases c : (no3 e lo hi).1 = true
  · rw [if_pos c, if_pos (.inl c)]
  · rw [if_neg c]
    by_cases d : (no3 e' lo' hi').1 = true
    · rw [if_pos d, if_pos (.inr d)]
    · rw [if_neg d, if_neg (by rintro (h | h); exact c h; exact d h)]
theorem qnorm_of {d p : Iv} (hd : Ok d) (hp : Ok p) : flyballref21_Norm.f d.1 d.2.1 d.2.2 p.1 p.2.1 p.2.2 = some (pk6 (cn d p)) := by
  rw [qnorm_f]
  unfold cl
  rw [r3 hd, r3 hp]
section
variable (k : Nat) (hk : 1 < k) (a0 : Bool) (a1 a2 : Int) (a3 : Bool) (a4 a5 : Int) (b0 : Bool) (b1 b2 : Int) (b3 : Bool) (b4 b5 : Int)
theorem qmeet_f : flyballref21_Meet.f a0 a1 a2 a3 a4 a5 b0 b1 b2 b3 b4 b5 = some (pk6 (both meet (cl a0 a1 a2 a3 a4 a5) (cl b0 b1 b2 b3 b4 b5))) := by
  have oa := cl_ok a0 a1 a2 a3 a4 a5
  have ob := cl_ok b0 b1 b2 b3 b4 b5
  unfold flyballref21_Meet.f
  rw [qnorm_f, qnorm_f]
  simp only [Option.bind_some, rmeet_f]
  rw [r3 oa.1, r3 oa.2.1, r3 ob.1, r3 ob.2.1, qnorm_of (meet_ok _ _) (meet_ok _ _)]
  rfl
include hk
end
end Go.Proofs.Ytinmgnlofininaa.Ev
end
section
namespace Go.Proofs.Ytinmgnlofininaa.Ev
open Go.RowKit Go.Proofs.Ytinmgnlofininaa.PAll Go.Proofs.YtinmgnlofininaaW.PrintWords Go.Proofs.YtinmgnlofininaaW.PrintLast Go.Proofs.YtinmgnlofininaaW.PrintMore
theorem works21_at : flyballlaw21_works.f 30 = some true := by kernel_rfl
theorem works21 (k : Nat) (hk : 30 ≤ k) : flyballlaw21_works.f k = some true := at_rounds flyballlaw21_works.mono hk works21_at
end Go.Proofs.Ytinmgnlofininaa.Ev
end
section
set_option linter.unusedVariables false
set_option linter.unusedSimpArgs false
namespace Go.Proofs.Ytinmgnlofininaa.Pure
open Go.RowKit Go.Proofs.Ytinmgnlofininaa.PAll Go.Proofs.YtinmgnlofininaaW.PrintWords Go.Proofs.YtinmgnlofininaaW.PrintLast Go.Proofs.YtinmgnlofininaaW.PrintMore Go.Proofs.Ytinmgnlofininaa.Spec Go.Proofs.Ytinmgnlofininaa.Ev
theorem is_same (c : Cl) : flyballlaw21_is.f c.1.1 c.1.2.1 c.1.2.2 c.2.1 c.2.2.1 c.2.2.2 c.1.1 c.1.2.1 c.1.2.2 c.2.1 c.2.2.1 c.2.2.2 = some true := by simp [flyballlaw21_is.f]
section
variable (k : Nat) (a0 : Bool) (a1 a2 : Int) (a3 : Bool) (a4 a5 : Int) (b0 : Bool) (b1 b2 : Int) (b3 : Bool) (b4 b5 : Int)
theorem qjoin_f : flyballref21_Join.f a0 a1 a2 a3 a4 a5 b0 b1 b2 b3 b4 b5 = some (pk6 (both join (cl a0 a1 a2 a3 a4 a5) (cl b0 b1 b2 b3 b4 b5))) := by
  have oa := cl_ok a0 a1 a2 a3 a4 a5
  have ob := cl_ok b0 b1 b2 b3 b4 b5
  unfold flyballref21_Join.f
  rw [qnorm_f, qnorm_f]
  simp only [Option.bind_some, rjoin_f]
  rw [r3 oa.1, r3 oa.2.1, r3 ob.1, r3 ob.2.1, qnorm_of (join_ok oa.1 ob.1) (join_ok oa.2.1 ob.2.1)]
  rfl
theorem qinside_f : flyballref21_Inside.f a0 a1 a2 a3 a4 a5 b0 b1 b2 b3 b4 b5 = some (insideC (cl a0 a1 a2 a3 a4 a5) (cl b0 b1 b2 b3 b4 b5)) := by
  have oa := cl_ok a0 a1 a2 a3 a4 a5
  have ob := cl_ok b0 b1 b2 b3 b4 b5
  unfold flyballref21_Inside.f insideC
  rw [qnorm_f, qnorm_f]
  simp only [Option.bind_some, rinside_f]
  rw [r3 oa.1, r3 oa.2.1, r3 ob.1, r3 ob.2.1]
  cases inside (cl a0 a1 a2 a3 a4 a5).1 (cl b0 b1 b2 b3 b4 b5).1 <;> simp
theorem qwiden_f (l : List Int) (hl : l.length ≤ 200) (hk : 600 ≤ k) : flyballref21_Widen.f k a0 a1 a2 a3 a4 a5 b0 b1 b2 b3 b4 b5 l = some (pk6 (both (fun x y => widen x y l) (cl a0 a1 a2 a3 a4 a5) (cl b0 b1 b2 b3 b4 b5))) := by
  have oa := cl_ok a0 a1 a2 a3 a4 a5
  have ob := cl_ok b0 b1 b2 b3 b4 b5
  unfold flyballref21_Widen.f
  rw [qnorm_f, qnorm_f]
  simp only [Option.bind_some, rwiden_f k l hl hk]
  rw [r3 oa.1, r3 oa.2.1, r3 ob.1, r3 ob.2.1, qnorm_of (widen_ok ob.1 l) (widen_ok ob.2.1 l)]
  rfl
theorem qhas_f (hk : 0 < k) (v n : Int) : flyballref21_Has.f k a0 a1 a2 a3 a4 a5 v n = some (hasC (cl a0 a1 a2 a3 a4 a5) v n) := by
  have oa := cl_ok a0 a1 a2 a3 a4 a5
  obtain ⟨k, rfl⟩ : ∃ m, k = m + 1 := ⟨k - 1, by omega⟩
  unfold flyballref21_Has.f hasC
  rw [qnorm_f]
  simp only [Option.bind_some, flyballref21_Has.j0, rhas_f]
  rw [r3 oa.1, r3 oa.2.1]
  by_cases c1 : v < -2199023255552
  · rw [if_pos c1, if_pos trivial, decide_eq_false (by omega)]; rfl
  · rw [if_neg c1]
    by_cases c2 : v > 2199023255552
    · rw [if_pos c2, if_pos trivial, decide_eq_false (by omega)]; rfl
    · rw [if_neg c2]
      by_cases c3 : n < -2199023255552
      · rw [if_pos c3, if_pos trivial, decide_eq_false (by omega)]; rfl
      · rw [if_neg c3]
        by_cases c4 : n > 2199023255552
        · rw [if_pos (by simpa using c4), decide_eq_false (by omega)]; rfl
        · rw [if_neg (by simpa using c4), decide_eq_true (by omega), wrap_id (x := v - n) (by omega) (by omega), wrap_id (x := v + n) (by omega) (by omega)]
          cases has (cl a0 a1 a2 a3 a4 a5).1 (v - n) <;> simp
end
theorem ClockJoins (a0_0 : Bool) (a0_1 a0_2 : Int) (a0_3 : Bool) (a0_4 a0_5 : Int) (a1_0 : Bool) (a1_1 a1_2 : Int) (a1_3 : Bool) (a1_4 a1_5 : Int) (l2 : List Int) (a3 a4 : Int) (_ : (Lit.int .i64 a0_1).wf = true) (_ : (Lit.int .i64 a0_2).wf = true) (_ : (Lit.int .i64 a0_4).wf = true) (_ : (Lit.int .i64 a0_5).wf = true) (_ : (Lit.int .i64 a1_1).wf = true) (_ : (Lit.int .i64 a1_2).wf = true) (_ : (Lit.int .i64 a1_4).wf = true) (_ : (Lit.int .i64 a1_5).wf = true)
    (_ : l2.length ≤ maxLen) (_ : l2.length * 8 ≤ 140737488351232) (_ : ∀ x ∈ l2, (Lit.int .i64 x).wf = true) (_ : (Lit.int .i64 a3).wf = true) (_ : (Lit.int .i64 a4).wf = true) :
    ∃ k, flyballlaw21_ClockJoins.f k a0_0 a0_1 a0_2 a0_3 a0_4 a0_5 a1_0 a1_1 a1_2 a1_3 a1_4 a1_5 l2 a3 a4 = some true := by
  suffices h : ∀ k, 1000 ≤ k → flyballlaw21_ClockJoins.f k a0_0 a0_1 a0_2 a0_3 a0_4 a0_5 a1_0 a1_1 a1_2 a1_3 a1_4 a1_5 l2 a3 a4 = some true from ⟨_, h 1000 (by omega)⟩
  intro k hk
  unfold flyballlaw21_ClockJoins.f
  rw [works21 _ (by omega)]
  simp only [Option.bind_some, if_true]
  by_cases c : (l2.length : Int) > 200
  · rw [if_pos c]
  · rw [if_neg c]
    simp only [Option.bind_some, if_true, flyballlaw21_of.f, joinC_f k (by omega), qjoin_f, meetC_f k (by omega), qmeet_f, widenC_f k _ _ _ _ _ _ _ _ _ _ _ _ l2 (by omega) (by omega), qwiden_f k _ _ _ _ _ _ _ _ _ _ _ _ l2 (by omega) (by omega), insideC_f k (by omega), qinside_f, hasC_f k (by omega), qhas_f k _ _ _ _ _ _ (by omega), is_same, beq_self_eq_true]
end Go.Proofs.Ytinmgnlofininaa.Pure
end
section
set_option linter.unusedVariables false
set_option linter.unusedSimpArgs false
namespace Go.Proofs.YtinmgnlofininaaAid
open Go.Deep Go.Joins Go.ChangeShapes Go.WideShapes Go.RowKit
section
variable {H : Type} {enc : TypeId × Value → H} {P : Program} {w : World} {base : Nat} {spare : Nat → Bool} {held : Bool}
theorem trod_bii {t : TypeId} {f0 f1 f2 : Field} {n : Nat} {cs : List Value} {y : DataW H × List MemPlace} (hs : P.underlying t = some (.struct #[f0, f1, f2])) (hone : oneCellFields P #[f0, f1, f2] = true)
    (h0 : P.underlying f0.type = some .bool) (h1 : P.underlying f1.type = some (.int .i64)) (h2 : P.underlying f2.type = some (.int .i64)) (hl : cs.length = 3) (h : DataW.trod enc P w base spare held n t cs = some y) :
    ∃ (b : Bool) (x z : Int), cs = [.bool b, .int .i64 x, .int .i64 z] ∧ y = (.agg [.lit (.bool b), .lit (.int .i64 x), .lit (.int .i64 z)], []) ∧ (Lit.int .i64 x).wf = true ∧ (Lit.int .i64 z).wf = true := by
  obtain ⟨xs, m, _, hx, _, hlen, hg⟩ := DataW.trod_struct hs h
  obtain ⟨o0, k0⟩ := hone_of hone 0 f0 rfl
  obtain ⟨o1, k1⟩ := hone_of hone 1 f1 rfl
  obtain ⟨o2, k2⟩ := hone_of hone 2 f2 rfl
  match cs, hl with
  | [c0, c1, c2], _ =>
    match xs, hlen with
    | [y0, y1, y2], _ =>
      have g0 : DataW.trod enc P w base spare held m f0.type [c0] = some y0 := by simpa [o0, k0] using hg 0 f0 rfl
      have g1 : DataW.trod enc P w base spare held m f1.type [c1] = some y1 := by simpa [o1, k1] using hg 1 f1 rfl
      have g2 : DataW.trod enc P w base spare held m f2.type [c2] = some y2 := by simpa [o2, k2] using hg 2 f2 rfl
      obtain ⟨b, e0, rfl⟩ := DataW.trod_bool h0 g0
      obtain ⟨x, e1, rfl, wx⟩ := DataW.trod_int h1 g1
      obtain ⟨z, e2, rfl, wz⟩ := DataW.trod_int h2 g2
      simp only [List.cons.injEq, and_true] at e0 e1 e2
      subst e0 e1 e2
      exact ⟨b, x, z, rfl, by simpa using hx, wx, wz⟩
theorem trod_bii_mk {t : TypeId} {f0 f1 f2 : Field} {b : Bool} {x z : Int} (hs : P.underlying t = some (.struct #[f0, f1, f2])) (hone : oneCellFields P #[f0, f1, f2] = true) (hC : P.cellsOf t = 3)
    (h0 : P.underlying f0.type = some .bool) (h1 : P.underlying f1.type = some (.int .i64)) (h2 : P.underlying f2.type = some (.int .i64)) (wx : (Lit.int .i64 x).wf = true) (wz : (Lit.int .i64 z).wf = true) :
    DataW.trod enc P w base spare held 2 t [.bool b, .int .i64 x, .int .i64 z] = some (.agg [.lit (.bool b), .lit (.int .i64 x), .lit (.int .i64 z)], []) := by
  obtain ⟨o0, k0⟩ := hone_of hone 0 f0 rfl
  obtain ⟨o1, k1⟩ := hone_of hone 1 f1 rfl
  obtain ⟨o2, k2⟩ := hone_of hone 2 f2 rfl
  have g0 : DataW.trod enc P w base spare held 1 f0.type [.bool b] = some (.lit (.bool b), []) := by simp [DataW.trod, h0]
  have := trod_struct3_mk (enc := enc) (w := w) (base := base) (spare := spare) (held := held) (n := 1) (cs := [.bool b, .int .i64 x, .int .i64 z]) hs (by simp [hC])
    (by simpa [o0, k0] using g0) (by simpa [o1, k1] using trod_int_mk (enc := enc) (w := w) (base := base) (spare := spare) (held := held) 0 h1 wx) (by simpa [o2, k2] using trod_int_mk (enc := enc) (w := w) (base := base) (spare := spare) (held := held) 0 h2 wz)
  simpa using this
theorem open_two {r : Reach} {b0 : Nat} {t e : TypeId} {g0 g1 f0 f1 f2 : Field} {v : Value} {d : DataW H} {p : List MemPlace} (ht : P.underlying t = some (.struct #[g0, g1])) (hT : P.cellsOf t = 6) (o0 : g0.offset = 0 ∧ g0.type = e) (o1 : g1.offset = 3 ∧ g1.type = e)
    (hs : P.underlying e = some (.struct #[f0, f1, f2])) (hone : oneCellFields P #[f0, f1, f2] = true) (hC : P.cellsOf e = 3)
    (h0 : P.underlying f0.type = some .bool) (h1 : P.underlying f1.type = some (.int .i64)) (h2 : P.underlying f2.type = some (.int .i64))
    (hv : Value.okWide P w r b0 t v) (h : DataW.Trod enc P w base spare held t v d p) :
    ∃ (b : Bool) (x z : Int) (b' : Bool) (x' z' : Int), v = .agg #[.bool b, .int .i64 x, .int .i64 z, .bool b', .int .i64 x', .int .i64 z'] ∧ d = .agg [.agg [.lit (.bool b), .lit (.int .i64 x), .lit (.int .i64 z)], .agg [.lit (.bool b'), .lit (.int .i64 x'), .lit (.int .i64 z')]] ∧ p = [] ∧
      (Lit.int .i64 x).wf = true ∧ (Lit.int .i64 z).wf = true ∧ (Lit.int .i64 x').wf = true ∧ (Lit.int .i64 z').wf = true := by
  obtain ⟨cs, rfl, hsz⟩ := okWide_struct ht hv
  obtain ⟨l⟩ := cs
  match l, hsz.trans hT with
  | [c0, c1, c2, c3, c4, c5], _ =>
    obtain ⟨fuel, hf⟩ := h
    obtain ⟨xs, m, _, hx, _, hlen, hg⟩ := DataW.trod_struct ht hf
    match xs, hlen with
    | [y0, y1], _ =>
      have q0 : DataW.trod enc P w base spare held m e [c0, c1, c2] = some y0 := by simpa [Value.cells, o0.1, o0.2, hC] using hg 0 g0 rfl
      have q1 : DataW.trod enc P w base spare held m e [c3, c4, c5] = some y1 := by simpa [Value.cells, o1.1, o1.2, hC] using hg 1 g1 rfl
      obtain ⟨b, x, z, e0, rfl, wx, wz⟩ := trod_bii hs hone h0 h1 h2 rfl q0
      obtain ⟨b', x', z', e1, rfl, wx', wz'⟩ := trod_bii hs hone h0 h1 h2 rfl q1
      simp only [List.cons.injEq, and_true] at e0 e1
      obtain ⟨rfl, rfl, rfl⟩ := e0
      obtain ⟨rfl, rfl, rfl⟩ := e1
      simp only [Prod.mk.injEq] at hx
      exact ⟨b, x, z, b', x', z', rfl, by simpa using hx.1, by simpa using hx.2, wx, wz, wx', wz'⟩
theorem shut_two {t e : TypeId} {g0 g1 f0 f1 f2 : Field} {b b' : Bool} {x z x' z' : Int} (ht : P.underlying t = some (.struct #[g0, g1])) (hT : P.cellsOf t = 6) (o0 : g0.offset = 0 ∧ g0.type = e) (o1 : g1.offset = 3 ∧ g1.type = e)
    (hs : P.underlying e = some (.struct #[f0, f1, f2])) (hone : oneCellFields P #[f0, f1, f2] = true) (hC : P.cellsOf e = 3)
    (h0 : P.underlying f0.type = some .bool) (h1 : P.underlying f1.type = some (.int .i64)) (h2 : P.underlying f2.type = some (.int .i64))
    (wx : (Lit.int .i64 x).wf = true) (wz : (Lit.int .i64 z).wf = true) (wx' : (Lit.int .i64 x').wf = true) (wz' : (Lit.int .i64 z').wf = true) :
    DataW.Trod enc P w base spare held t (.agg #[.bool b, .int .i64 x, .int .i64 z, .bool b', .int .i64 x', .int .i64 z']) (.agg [.agg [.lit (.bool b), .lit (.int .i64 x), .lit (.int .i64 z)], .agg [.lit (.bool b'), .lit (.int .i64 x'), .lit (.int .i64 z')]]) [] := by
  have ts := trod_struct2_mk (enc := enc) (w := w) (base := base) (spare := spare) (held := held) (n := 2) (cs := [.bool b, .int .i64 x, .int .i64 z, .bool b', .int .i64 x', .int .i64 z']) ht (by simp [hT])
    (by simpa [o0.1, o0.2, hC] using trod_bii_mk (enc := enc) (w := w) (base := base) (spare := spare) (held := held) (b := b) hs hone hC h0 h1 h2 wx wz)
    (by simpa [o1.1, o1.2, hC] using trod_bii_mk (enc := enc) (w := w) (base := base) (spare := spare) (held := held) (b := b') hs hone hC h0 h1 h2 wx' wz')
  exact ⟨_, by simpa [Value.cells] using ts⟩
end
end Go.Proofs.YtinmgnlofininaaAid
end
