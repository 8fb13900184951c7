/- What the claim needs of several texts, in one. -/
import Derived.RowKit
import Derived.KernelRfl
import Derived.Test.YtinmgnlofininaaZKW
import Derived.Test.YtinmgnlofininaaZKx0
import Derived.Test.YtinmgnlofininaaZKx3
import Derived.Test.YtinmgnlofininaaZKx4
import Derived.Test.YtinmgnlofininaaZKx5
import Derived.Test.YtinmgnlofininaaZKx22
import Derived.Test.YtinmgnlofininaaZKx25
import Derived.Test.YtinmgnlofininaaZKx26
import Derived.Test.YtinmgnlofininaaZKx27
import Derived.Test.YtinmgnlofininaaZKx28
import Derived.Test.YtinmgnlofininaaZKx29
import Derived.Test.YtinmgnlofininaaZKx30
import Derived.Test.YtinmgnlofininaaZKx31
import Derived.Test.YtinmgnlofininaaZKx32
section
set_option linter.unusedVariables false
set_option linter.unusedSimpArgs false
namespace Go.Proofs.Ytinmgnlofininaa.Spec
open Go.RowKit Go.Proofs.YtinmgnlofininaaW.PrintWords Go.Proofs.YtinmgnlofininaaW.PrintLast Go.Proofs.YtinmgnlofininaaW.PrintMore
abbrev Iv := Bool × Int × Int
theorem mx_eq (a b : Int) : mx a b = max a b := by unfold mx; split <;> omega
theorem mn_eq (a b : Int) : mn a b = min a b := by unfold mn; split <;> omega
theorem wrap_id {x : Int} (h : -9223372036854775808 ≤ x) (h' : x ≤ 9223372036854775807) : wrap64 x = x := by unfold wrap64; omega
def no3 (e : Bool) (lo hi : Int) : Iv := if e = true ∨ lo > hi ∨ lo ≥ 1099511627776 ∨ hi ≤ -1099511627776 then (true, 0, 0) else (false, max lo (-1099511627776), min hi 1099511627776)
abbrev nr (s : Iv) : Iv := no3 s.1 s.2.1 s.2.2
/-- Written in the one way. -/
def Ok (s : Iv) : Prop := s = (true, 0, 0) ∨ s.1 = false ∧ -1099511627776 ≤ s.2.1 ∧ s.2.1 ≤ s.2.2 ∧ s.2.2 ≤ 1099511627776 ∧ s.2.1 < 1099511627776 ∧ -1099511627776 < s.2.2
theorem no3_ok (e : Bool) (lo hi : Int) : Ok (no3 e lo hi) := by
  unfold no3 Ok
  split
  · exact .inl rfl
  · refine .inr ⟨rfl, ?_⟩
    simp only
    omega
theorem Ok.cases {s : Iv} (h : Ok s) : s = (true, 0, 0) ∨ ∃ lo hi, s = (false, lo, hi) ∧ -1099511627776 ≤ lo ∧ lo ≤ hi ∧ hi ≤ 1099511627776 ∧ lo < 1099511627776 ∧ -1099511627776 < hi := by
  obtain ⟨e, lo, hi⟩ := s
  rcases h with h | ⟨h, h1⟩
  · exact .inl h
  · simp only at h
    subst h
    exact .inr ⟨lo, hi, rfl, h1⟩
theorem no3_false {lo hi : Int} (h1 : -1099511627776 ≤ lo) (h2 : lo ≤ hi) (h3 : hi ≤ 1099511627776) (h4 : lo < 1099511627776) (h5 : -1099511627776 < hi) : no3 false lo hi = (false, lo, hi) := by
  unfold no3
  rw [if_neg (by simp; omega)]
  rw [show max lo (-1099511627776) = lo by omega, show min hi 1099511627776 = hi by omega]
theorem no3_true (lo hi : Int) : no3 true lo hi = (true, 0, 0) := by simp [no3]
theorem nr_ok {s : Iv} (h : Ok s) : nr s = s := by
  rcases h.cases with rfl | ⟨lo, hi, rfl, h1, h2, h3, h4, h5⟩
  · exact no3_true _ _
  · exact no3_false h1 h2 h3 h4 h5
def has (s : Iv) (n : Int) : Bool := !s.1 && (decide (s.2.1 = -1099511627776 ∨ s.2.1 ≤ n)) && (decide (s.2.2 = 1099511627776 ∨ n ≤ s.2.2))
def inside (a b : Iv) : Bool := a.1 || (!b.1 && decide (b.2.1 ≤ a.2.1) && decide (a.2.2 ≤ b.2.2))
def join (a b : Iv) : Iv := if a.1 = true then b else if b.1 = true then a else (false, min a.2.1 b.2.1, max a.2.2 b.2.2)
def meet (a b : Iv) : Iv := if a.1 = true ∨ b.1 = true then (true, 0, 0) else no3 false (max a.2.1 b.2.1) (min a.2.2 b.2.2)
def neg (a : Iv) : Iv := if a.1 = true then (true, 0, 0) else no3 false (-a.2.2) (-a.2.1)
def clip (n : Int) : Int := max (min n 1099511627776) (-1099511627776)
def sum (x y : Int) : Int := if x ≥ 1099511627776 ∨ x ≤ -1099511627776 then x else if y ≥ 1099511627776 ∨ y ≤ -1099511627776 then y else clip (x + y)
def hull (lo hi : Int) : Iv := (false, min (clip lo) 1099511627775, max (clip hi) (-1099511627775))
def add (a b : Iv) : Iv := if a.1 = true ∨ b.1 = true then (true, 0, 0) else hull (sum a.2.1 b.2.1) (sum a.2.2 b.2.2)
def sub (a b : Iv) : Iv := add a (neg b)
theorem join_ok {a b : Iv} (ha : Ok a) (hb : Ok b) : Ok (join a b) := by
  rcases ha.cases with rfl | ⟨lo, hi, rfl, h1, h2, h3, h4, h5⟩
  · simpa [join] using hb
  · rcases hb.cases with rfl | ⟨lo', hi', rfl, g1, g2, g3, g4, g5⟩
    · simpa [join] using ha
    · refine .inr ⟨by simp [join], ?_⟩
      simp only [join, Bool.false_eq_true, if_false]
      omega
theorem meet_ok (a b : Iv) : Ok (meet a b) := by
  unfold meet
  split
  · exact .inl rfl
  · exact no3_ok _ _ _
theorem neg_ok (a : Iv) : Ok (neg a) := by
  unfold neg
  split
  · exact .inl rfl
  · exact no3_ok _ _ _
theorem neg_false {lo hi : Int} (h1 : -1099511627776 ≤ lo) (h2 : lo ≤ hi) (h3 : hi ≤ 1099511627776) (h4 : lo < 1099511627776) (h5 : -1099511627776 < hi) : neg (false, lo, hi) = (false, -hi, -lo) := by
  unfold neg
  simp only [Bool.false_eq_true, if_false]
  exact no3_false (by omega) (by omega) (by omega) (by omega) (by omega)
theorem clip_bd (n : Int) : -1099511627776 ≤ clip n ∧ clip n ≤ 1099511627776 := by unfold clip; omega
theorem add_false {a b : Iv} (ha : a.1 = false) (hb : b.1 = false) : add a b = hull (sum a.2.1 b.2.1) (sum a.2.2 b.2.2) := by simp [add, ha, hb]
theorem hull_ok {lo hi : Int} (h : min (clip lo) 1099511627775 ≤ max (clip hi) (-1099511627775)) : Ok (hull lo hi) := by
  have := clip_bd lo
  have := clip_bd hi
  refine .inr ⟨rfl, ?_⟩
  simp only [hull]
  omega
theorem add_ok {a b : Iv} (ha : Ok a) (hb : Ok b) : Ok (add a b) := by
  rcases ha.cases with rfl | ⟨lo, hi, rfl, h1, h2, h3, h4, h5⟩
  · simp [add, Ok]
  · rcases hb.cases with rfl | ⟨lo', hi', rfl, g1, g2, g3, g4, g5⟩
    · simp [add, Ok]
    · rw [add_false rfl rfl]
      apply hull_ok
      simp only
      unfold sum clip
      split <;> split <;> (try split) <;> (try split) <;> omega
theorem sub_ok {a b : Iv} (ha : Ok a) : Ok (sub a b) := add_ok ha (neg_ok b)
end Go.Proofs.Ytinmgnlofininaa.Spec
end
section
set_option linter.unusedVariables false
set_option linter.unusedSimpArgs false
namespace Go.Proofs.Ytinmgnlofininaa.Ev
open Go.RowKit Go.Proofs.Ytinmgnlofininaa.PAll Go.Proofs.YtinmgnlofininaaW.PrintWords Go.Proofs.YtinmgnlofininaaW.PrintLast Go.Proofs.YtinmgnlofininaaW.PrintMore Go.Proofs.Ytinmgnlofininaa.Spec
theorem norm_f (e : Bool) (lo hi : Int) : ints_norm.f e lo hi = some (no3 e lo hi) := by
  unfold ints_norm.f ints_none.f no3
  cases e
  · simp only [Bool.false_eq_true, if_false, false_or, Option.bind_some, mx_eq, mn_eq]
    by_cases h1 : lo > hi
    · simp [h1]
    · by_cases h2 : lo ≥ 1099511627776
      · simp [h1, h2]
      · by_cases h3 : hi ≤ -1099511627776
        · simp [h1, h2, h3]
        · simp [h1, h2, h3]
  · simp
theorem make_f (lo hi : Int) : ints_Make.f lo hi = some (no3 false lo hi) := by
  unfold ints_Make.f
  rw [norm_f]
  rfl
theorem neg_f {e : Bool} {lo hi : Int} : ints_Neg.f e lo hi = some (neg (no3 e lo hi)) := by
  unfold ints_Neg.f
  rw [norm_f]
  rcases (no3_ok e lo hi).cases with h | ⟨l, u, h, h1, h2, h3, h4, h5⟩
  · rw [h]; rfl
  · rw [h]
    simp only [Option.bind_some, Bool.false_eq_true, if_false]
    rw [wrap_id (by omega) (by omega), wrap_id (by omega) (by omega), make_f]
    rfl
theorem clip_f (n : Int) : ints_clip.f n = some (clip n) := by unfold ints_clip.f clip; rw [mx_eq, mn_eq]
theorem hull_f (x y : Int) : ints_hull.f x y = some (hull x y) := by
  unfold ints_hull.f
  simp only [clip_f, Option.bind_some, mx_eq, mn_eq]
  rfl
theorem far_f (n : Int) : ints_far.f n = some (decide (n ≥ 1099511627776 ∨ n ≤ -1099511627776)) := by
  unfold ints_far.f
  split
  · rename_i h; simp [h]
  · rename_i h; simp [h]
theorem sum_f {x y : Int} (hx : -1099511627776 ≤ x ∧ x ≤ 1099511627776) (hy : -1099511627776 ≤ y ∧ y ≤ 1099511627776) : ints_sum.f x y = some (sum x y) := by
  unfold ints_sum.f sum
  simp only [far_f, clip_f, Option.bind_some, decide_eq_true_eq]
  rw [wrap_id (by omega) (by omega)]
  split
  · rfl
  · split <;> rfl
theorem add_f (k : Nat) (hk : 0 < k) (e : Bool) (lo hi : Int) (e' : Bool) (lo' hi' : Int) : ints_Add.f k e lo hi e' lo' hi' = some (add (no3 e lo hi) (no3 e' lo' hi')) := by
  obtain ⟨k, rfl⟩ : ∃ m, k = m + 1 := ⟨k - 1, by omega⟩
  unfold ints_Add.f
  simp only [norm_f, Option.bind_some]
  rcases (no3_ok e lo hi).cases with h | ⟨l, u, h, h1, h2, h3, h4, h5⟩
  · rw [h]; simp [ints_Add.j0, add, ints_none.f]
  · rcases (no3_ok e' lo' hi').cases with g | ⟨l', u', g, g1, g2, g3, g4, g5⟩
    · rw [h, g]; simp [ints_Add.j0, add, ints_none.f]
    · rw [h, g, add_false rfl rfl]
      simp only [ints_Add.j0, Bool.false_eq_true, if_false]
      rw [sum_f (by omega) (by omega), sum_f (by omega) (by omega)]
      simp only [Option.bind_some, hull_f]
theorem sub_f (k : Nat) (hk : 0 < k) (e : Bool) (lo hi : Int) (e' : Bool) (lo' hi' : Int) : ints_Sub.f k e lo hi e' lo' hi' = some (sub (no3 e lo hi) (no3 e' lo' hi')) := by
  unfold ints_Sub.f
  simp only [neg_f, Option.bind_some, add_f k hk]
  rw [show no3 (neg (no3 e' lo' hi')).1 (neg (no3 e' lo' hi')).2.1 (neg (no3 e' lo' hi')).2.2 = neg (no3 e' lo' hi') from nr_ok (neg_ok _)]
  rfl
theorem join1_f (k : Nat) (hk : 1 < k) (e : Bool) (lo hi : Int) : ints_Join.f k [(⟨e, lo, hi⟩ : S23)] = some (no3 e lo hi) := by
  obtain ⟨k, rfl⟩ : ∃ m, k = m + 2 := ⟨k - 2, by omega⟩
  have h0 : rd_T23 [(⟨e, lo, hi⟩ : S23)] 0 = ⟨e, lo, hi⟩ := rfl
  simp only [ints_Join.f, ints_none.f, Option.bind_some, ints_Join.l0, List.length_singleton, h0, norm_f]
  rcases (no3_ok e lo hi).cases with h | ⟨l, u, h, _⟩ <;> rw [h] <;> simp [wrap64]
theorem join2_f (k : Nat) (hk : 2 < k) (e : Bool) (lo hi : Int) (e' : Bool) (lo' hi' : Int) : ints_Join.f k [(⟨e, lo, hi⟩ : S23), (⟨e', lo', hi'⟩ : S23)] = some (join (no3 e lo hi) (no3 e' lo' hi')) := by
  obtain ⟨k, rfl⟩ : ∃ m, k = m + 3 := ⟨k - 3, by omega⟩
  have h0 : rd_T23 [(⟨e, lo, hi⟩ : S23), (⟨e', lo', hi'⟩ : S23)] 0 = ⟨e, lo, hi⟩ := rfl
  have h1 : rd_T23 [(⟨e, lo, hi⟩ : S23), (⟨e', lo', hi'⟩ : S23)] 1 = ⟨e', lo', hi'⟩ := rfl
  have w0 : wrap64 (0 + 1) = 1 := by unfold wrap64; omega
  have w1 : wrap64 (1 + 1) = 2 := by unfold wrap64; omega
  simp only [ints_Join.f, ints_none.f, Option.bind_some, ints_Join.l0, h0, h1, w0, w1, norm_f, mx_eq, mn_eq]
  rcases (no3_ok e lo hi).cases with h | ⟨l, u, h, _⟩ <;> rcases (no3_ok e' lo' hi').cases with g | ⟨l', u', g, _⟩ <;> rw [h, g] <;> simp [join]
theorem point_f (n : Int) : ints_Point.f n = some (no3 false n n) := by
  unfold ints_Point.f
  rw [make_f]
  rfl
theorem meet_f (k : Nat) (hk : 0 < k) (e : Bool) (lo hi : Int) (e' : Bool) (lo' hi' : Int) : ints_Meet.f k e lo hi e' lo' hi' = some (meet (no3 e lo hi) (no3 e' lo' hi')) := by
  obtain ⟨k, rfl⟩ : ∃ m, k = m + 1 := ⟨k - 1, by omega⟩
  unfold ints_Meet.f
  simp only [norm_f, Option.bind_some]
  rcases (no3_ok e lo hi).cases with h | ⟨l, u, h, h1, h2, h3, h4, h5⟩ <;> rw [h]
  · simp [ints_Meet.j0, meet, ints_none.f]
  · rcases (no3_ok e' lo' hi').cases with g | ⟨l', u', g, g1, g2, g3, g4, g5⟩ <;> rw [g]
    · simp [ints_Meet.j0, meet, ints_none.f]
    · simp only [ints_Meet.j0, meet, Bool.false_eq_true, if_false, make_f, Option.bind_some, mx_eq, mn_eq, or_self]
end Go.Proofs.Ytinmgnlofininaa.Ev
end
section
set_option linter.unusedVariables false
set_option linter.unusedSimpArgs false
namespace Go.Proofs.Ytinmgnlofininaa.Spec
open Go.RowKit
abbrev Cl := Iv × Iv
/-- A clock in the one way. -/
def cn (d p : Iv) : Cl := if d.1 = true ∨ p.1 = true then ((true, 0, 0), (true, 0, 0)) else (d, p)
/-- As six cells. -/
abbrev pk6 (c : Cl) : Bool × Int × Int × Bool × Int × Int := (c.1.1, c.1.2.1, c.1.2.2, c.2.1, c.2.2.1, c.2.2.2)
def OkC (c : Cl) : Prop := Ok c.1 ∧ Ok c.2 ∧ (c.1.1 = true ↔ c.2.1 = true)
theorem cn_ok {d p : Iv} (hd : Ok d) (hp : Ok p) : OkC (cn d p) := by
  unfold cn
  split
  · exact ⟨.inl rfl, .inl rfl, Iff.rfl⟩
  · rename_i h
    exact ⟨hd, hp, ⟨fun x => absurd (.inl x) h, fun x => absurd (.inr x) h⟩⟩
theorem cn_id {c : Cl} (h : OkC c) : cn c.1 c.2 = c := by
  unfold cn
  split
  · rename_i g
    have h1 : c.1.1 = true := by rcases g with g | g; exact g; exact h.2.2.mpr g
    have h2 : c.2.1 = true := h.2.2.mp h1
    obtain ⟨a, b⟩ := c
    rcases h.1 with e | e
    · rcases h.2.1 with f | f
      · simp only at e f; rw [e, f]
      · exact absurd h2 (by rw [f.1]; simp)
    · exact absurd h1 (by rw [e.1]; simp)
  · rfl
theorem cn_same {b : Iv} (hb : Ok b) : cn b b = (b, b) := cn_id (c := (b, b)) ⟨hb, hb, Iff.rfl⟩
def both (f : Iv → Iv → Iv) (a b : Cl) : Cl := cn (f a.1 b.1) (f a.2 b.2)
def ofC (v k : Iv) : Cl := cn (sub v k) (add v k)
def reduce (v : Iv) (c : Cl) (k : Iv) : Iv := meet (meet v (add c.1 k)) (sub c.2 k)
def loS (j : Int) (a : Int) (l : List Int) : Int := l.foldl (fun a n => if n ≤ j then max a n else a) a
def hiS (j : Int) (a : Int) (l : List Int) : Int := l.foldl (fun a n => if n ≥ j then min a n else a) a
def widen (o n : Iv) (l : List Int) : Iv := if o.1 = true then n else
  no3 false (if (join o n).2.1 = o.2.1 then (join o n).2.1 else loS (join o n).2.1 (-1099511627776) l) (if (join o n).2.2 = o.2.2 then (join o n).2.2 else hiS (join o n).2.2 1099511627776 l)
theorem widen_ok {o n : Iv} (hn : Ok n) (l : List Int) : Ok (widen o n l) := by
  unfold widen
  split
  · exact hn
  · exact no3_ok _ _ _
end Go.Proofs.Ytinmgnlofininaa.Spec
end
section
set_option linter.unusedVariables false
set_option linter.unusedSimpArgs false
namespace Go.Proofs.Ytinmgnlofininaa.Ev
open Go.RowKit Go.Proofs.Ytinmgnlofininaa.PAll Go.Proofs.YtinmgnlofininaaW.PrintWords Go.Proofs.YtinmgnlofininaaW.PrintLast Go.Proofs.YtinmgnlofininaaW.PrintMore Go.Proofs.Ytinmgnlofininaa.Spec
theorem rd_at (l : List Int) (i : Nat) (h : i < l.length) : rd l (i : Int) = l[i] := by
  unfold rd
  simp [List.getD_eq_getElem?_getD, h]
theorem wrap_next {i n : Nat} (h : i < n) (hn : n ≤ 1000) : wrap64 ((i : Int) + 1) = ((i + 1 : Nat) : Int) := by
  rw [wrap_id (by omega) (by omega)]
  omega
theorem loS_cons (j a n : Int) (l : List Int) : loS j a (n :: l) = loS j (if n ≤ j then max a n else a) l := rfl
theorem hiS_cons (j a n : Int) (l : List Int) : hiS j a (n :: l) = hiS j (if n ≥ j then min a n else a) l := rfl
theorem wl0_end (M : Nat) (l : List Int) (lo hi : Int) (i : Int) (oe : Bool) (ol oh : Int) (je : Bool) (jl jh : Int) (h : ¬ i < (l.length : Int)) :
    ints_Widen.l0 (M + 1) lo hi l (l.length : Int) i oe ol oh je jl jh = some (no3 false (if jl = ol then jl else lo) (if jh = oh then jh else hi)) := by
  rw [ints_Widen.l0, if_neg h]
  by_cases c : jl = ol <;> by_cases d : jh = oh <;> simp only [c, d, if_true, if_false, make_f, Option.bind_some]
theorem wl0_step (M : Nat) (l : List Int) (lo hi : Int) (i : Nat) (oe : Bool) (ol oh : Int) (je : Bool) (jl jh : Int) (h : i < l.length) (hl : l.length ≤ 1000) :
    ints_Widen.l0 (M + 1) lo hi l (l.length : Int) (i : Int) oe ol oh je jl jh = ints_Widen.l0 M (if l[i] ≤ jl then max lo l[i] else lo) (if l[i] ≥ jh then min hi l[i] else hi) l (l.length : Int) ((i + 1 : Nat) : Int) oe ol oh je jl jh := by
  rw [ints_Widen.l0, if_pos (by omega), if_pos (by omega), if_pos (by omega), rd_at l i h, wrap_next h hl, mx_eq, mn_eq]
  by_cases c : l[i] ≤ jl <;> by_cases d : l[i] ≥ jh <;> simp only [c, d, if_true, if_false]
theorem wl0_f (l : List Int) (oe : Bool) (ol oh : Int) (je : Bool) (jl jh : Int) (hl : l.length ≤ 1000) (m : Nat) (d : Nat) :
    ∀ (i : Nat) (lo hi : Int), i + d = l.length → ints_Widen.l0 (m + d + 1) lo hi l (l.length : Int) (i : Int) oe ol oh je jl jh = some (no3 false (if jl = ol then jl else loS jl lo (l.drop i)) (if jh = oh then jh else hiS jh hi (l.drop i))) := by
  induction d with
  | zero =>
    intro i lo hi h
    have e : l.drop i = [] := List.drop_of_length_le (by omega)
    rw [e]
    exact wl0_end m l lo hi i oe ol oh je jl jh (by omega)
  | succ d ih =>
    intro i lo hi h
    have hi' : i < l.length := by omega
    have e : l.drop i = l[i] :: l.drop (i + 1) := List.drop_eq_getElem_cons hi'
    have s := wl0_step (m + d + 1) l lo hi i oe ol oh je jl jh hi' hl
    have g := ih (i + 1) (if l[i] ≤ jl then max lo l[i] else lo) (if l[i] ≥ jh then min hi l[i] else hi) (by omega)
    rw [e, loS_cons, hiS_cons, ← g]
    exact s
theorem widen_f (k : Nat) (l : List Int) (hl : l.length ≤ 200) (hk : 300 ≤ k) (e : Bool) (lo hi : Int) (e' : Bool) (lo' hi' : Int) : ints_Widen.f k e lo hi e' lo' hi' l = some (widen (no3 e lo hi) (no3 e' lo' hi') l) := by
  unfold ints_Widen.f
  simp only [norm_f, Option.bind_some]
  rcases (no3_ok e lo hi).cases with h | ⟨a, u, h, h1, h2, h3, h4, h5⟩
  · rw [h]; rfl
  · rw [h]
    simp only [Bool.false_eq_true, if_false]
    rw [join2_f k (by omega), no3_false h1 h2 h3 h4 h5]
    simp only [Option.bind_some]
    obtain ⟨m, rfl⟩ : ∃ m, k = m + l.length + 1 := ⟨k - l.length - 1, by omega⟩
    have g := wl0_f l false a u (join (false, a, u) (no3 e' lo' hi')).1 (join (false, a, u) (no3 e' lo' hi')).2.1 (join (false, a, u) (no3 e' lo' hi')).2.2 (by omega) m l.length 0 (-1099511627776) 1099511627776 (by omega)
    simp only [Int.natCast_zero, List.drop_zero] at g
    rw [g]
    rfl
end Go.Proofs.Ytinmgnlofininaa.Ev
end
section
set_option linter.unusedVariables false
set_option linter.unusedSimpArgs false
namespace Go.Proofs.Ytinmgnlofininaa.Ev
open Go.RowKit Go.Proofs.Ytinmgnlofininaa.PAll Go.Proofs.YtinmgnlofininaaW.PrintWords Go.Proofs.YtinmgnlofininaaW.PrintLast Go.Proofs.YtinmgnlofininaaW.PrintMore Go.Proofs.Ytinmgnlofininaa.Spec
theorem r3 {s : Iv} (h : Ok s) : no3 s.1 s.2.1 s.2.2 = s := nr_ok h
theorem cnorm_f (k : Nat) (hk : 1 < k) (e : Bool) (lo hi : Int) (e' : Bool) (lo' hi' : Int) : clock_norm.f k e lo hi e' lo' hi' = some (pk6 (cn (no3 e lo hi) (no3 e' lo' hi'))) := by
  unfold clock_norm.f
  rw [join1_f k hk, join1_f k hk]
  simp only [Option.bind_some]
  unfold cn
  by_cases c : (no3 e lo hi).1 = true
  · rw [if_pos c, if_pos (.inl c)]
  · rw [if_neg c]
    by_cases d : (no3 e' lo' hi').1 = true
    · rw [if_pos d, if_pos (.inr d)]
    · rw [if_neg d, if_neg (by rintro (h | h); exact c h; exact d h)]
/-- A clock that is whole already. -/
theorem cnorm_of (k : Nat) (hk : 1 < k) {d p : Iv} (hd : Ok d) (hp : Ok p) : clock_norm.f k d.1 d.2.1 d.2.2 p.1 p.2.1 p.2.2 = some (pk6 (cn d p)) := by
  rw [cnorm_f k hk, r3 hd, r3 hp]
/-- The clock of six cells. -/
abbrev cl (e : Bool) (lo hi : Int) (e' : Bool) (lo' hi' : Int) : Cl := cn (no3 e lo hi) (no3 e' lo' hi')
theorem cl_ok (e : Bool) (lo hi : Int) (e' : Bool) (lo' hi' : Int) : OkC (cl e lo hi e' lo' hi') := cn_ok (no3_ok _ _ _) (no3_ok _ _ _)
theorem cl_id {c : Cl} (h : OkC c) : cl c.1.1 c.1.2.1 c.1.2.2 c.2.1 c.2.2.1 c.2.2.2 = c := by
  unfold cl
  rw [r3 h.1, r3 h.2.1, cn_id h]
theorem cof_f (k : Nat) (hk : 3 < k) (e : Bool) (lo hi : Int) (e' : Bool) (lo' hi' : Int) : clock_Of.f k e lo hi e' lo' hi' = some (pk6 (ofC (no3 e lo hi) (no3 e' lo' hi'))) := by
  unfold clock_Of.f
  rw [sub_f k (by omega), add_f k (by omega)]
  simp only [Option.bind_some]
  rw [cnorm_of k (by omega) (sub_ok (no3_ok _ _ _)) (add_ok (no3_ok _ _ _) (no3_ok _ _ _))]
  rfl
section
variable (k : Nat) (hk : 3 < k) (a0 : Bool) (a1 a2 : Int) (a3 : Bool) (a4 a5 : Int) (b0 : Bool) (b1 b2 : Int) (b3 : Bool) (b4 b5 : Int)
include hk
theorem bothAdd_f : clock_bothAdd.f k a0 a1 a2 a3 a4 a5 b0 b1 b2 b3 b4 b5 = some (pk6 (both add (cl a0 a1 a2 a3 a4 a5) (cl b0 b1 b2 b3 b4 b5))) := by
  have oa := cl_ok a0 a1 a2 a3 a4 a5
  have ob := cl_ok b0 b1 b2 b3 b4 b5
  unfold clock_bothAdd.f
  rw [cnorm_f k (by omega), cnorm_f k (by omega)]
  simp only [Option.bind_some, add_f k (by omega : 0 < k)]
  rw [r3 oa.1, r3 oa.2.1, r3 ob.1, r3 ob.2.1, cnorm_of k (by omega) (add_ok oa.1 ob.1) (add_ok oa.2.1 ob.2.1)]
  rfl
theorem bothJoin_f : clock_bothJoin.f k a0 a1 a2 a3 a4 a5 b0 b1 b2 b3 b4 b5 = some (pk6 (both join (cl a0 a1 a2 a3 a4 a5) (cl b0 b1 b2 b3 b4 b5))) := by
  have oa := cl_ok a0 a1 a2 a3 a4 a5
  have ob := cl_ok b0 b1 b2 b3 b4 b5
  unfold clock_bothJoin.f
  rw [cnorm_f k (by omega), cnorm_f k (by omega)]
  simp only [Option.bind_some, clock_Join_1.f, join2_f k (by omega : 2 < k)]
  rw [r3 oa.1, r3 oa.2.1, r3 ob.1, r3 ob.2.1, cnorm_of k (by omega) (join_ok oa.1 ob.1) (join_ok oa.2.1 ob.2.1)]
  rfl
theorem joinC_f : clock_Join.f k a0 a1 a2 a3 a4 a5 b0 b1 b2 b3 b4 b5 = some (pk6 (both join (cl a0 a1 a2 a3 a4 a5) (cl b0 b1 b2 b3 b4 b5))) := by
  unfold clock_Join.f
  rw [bothJoin_f k hk]
  rfl
theorem move_f : clock_Move.f k a0 a1 a2 a3 a4 a5 b0 b1 b2 = some (pk6 (both add (cl a0 a1 a2 a3 a4 a5) (no3 b0 b1 b2, no3 b0 b1 b2))) := by
  unfold clock_Move.f
  rw [bothAdd_f k hk]
  unfold cl
  rw [cn_same (no3_ok b0 b1 b2)]
  rfl
theorem tick_f : clock_Tick.f k a0 a1 a2 a3 a4 a5 = some (pk6 (both add (cl a0 a1 a2 a3 a4 a5) ((false, -1, -1), (false, 1, 1)))) := by
  have h1 : no3 false (-1) (-1) = (false, -1, -1) := no3_false (by omega) (by omega) (by omega) (by omega) (by omega)
  have h2 : no3 false 1 1 = (false, 1, 1) := no3_false (by omega) (by omega) (by omega) (by omega) (by omega)
  unfold clock_Tick.f
  rw [point_f, point_f, h1, h2]
  simp only [Option.bind_some, bothAdd_f k hk]
  unfold cl
  rw [h1, h2]
  rfl
theorem reduce_f : clock_Reduce.f k b0 b1 b2 a0 a1 a2 a3 a4 a5 b3 b4 b5 = some (reduce (no3 b0 b1 b2) (cl a0 a1 a2 a3 a4 a5) (no3 b3 b4 b5)) := by
  have oa := cl_ok a0 a1 a2 a3 a4 a5
  unfold clock_Reduce.f
  rw [cnorm_f k (by omega)]
  simp only [Option.bind_some, add_f k (by omega : 0 < k), sub_f k (by omega : 0 < k), meet_f k (by omega : 0 < k)]
  rw [r3 oa.1, r3 oa.2.1, r3 (add_ok oa.1 (no3_ok b3 b4 b5)), r3 (meet_ok _ _), r3 (sub_ok oa.2.1)]
  rfl
end
section
variable (k : Nat) (a0 : Bool) (a1 a2 : Int) (a3 : Bool) (a4 a5 : Int) (b0 : Bool) (b1 b2 : Int) (b3 : Bool) (b4 b5 : Int)
theorem widenC_f (l : List Int) (hl : l.length ≤ 200) (hk' : 300 ≤ k) : clock_Widen.f k a0 a1 a2 a3 a4 a5 b0 b1 b2 b3 b4 b5 l = some (pk6 (both (fun x y => widen x y l) (cl a0 a1 a2 a3 a4 a5) (cl b0 b1 b2 b3 b4 b5))) := by
  have oa := cl_ok a0 a1 a2 a3 a4 a5
  have ob := cl_ok b0 b1 b2 b3 b4 b5
  unfold clock_Widen.f clock_bothWiden.f
  rw [cnorm_f k (by omega), cnorm_f k (by omega)]
  simp only [Option.bind_some, clock_WidenDo.f, widen_f k l hl hk']
  rw [r3 oa.1, r3 oa.2.1, r3 ob.1, r3 ob.2.1, cnorm_of k (by omega) (widen_ok ob.1 l) (widen_ok ob.2.1 l)]
  rfl
end
end Go.Proofs.Ytinmgnlofininaa.Ev
end
section
namespace Go.Proofs.Ytinmgnlofininaa.Ev
open Go.RowKit Go.Proofs.Ytinmgnlofininaa.PAll Go.Proofs.YtinmgnlofininaaW.PrintWords Go.Proofs.YtinmgnlofininaaW.PrintLast Go.Proofs.YtinmgnlofininaaW.PrintMore
theorem works21_at : flyballlaw21_works.f 30 = some true := by kernel_rfl
theorem works21 (k : Nat) (hk : 30 ≤ k) : flyballlaw21_works.f k = some true := at_rounds flyballlaw21_works.mono hk works21_at
end Go.Proofs.Ytinmgnlofininaa.Ev
end
section
set_option linter.unusedVariables false
set_option linter.unusedSimpArgs false
namespace Go.Proofs.Ytinmgnlofininaa.Pure
open Go.RowKit Go.Proofs.Ytinmgnlofininaa.PAll Go.Proofs.YtinmgnlofininaaW.PrintWords Go.Proofs.YtinmgnlofininaaW.PrintLast Go.Proofs.YtinmgnlofininaaW.PrintMore Go.Proofs.Ytinmgnlofininaa.Spec Go.Proofs.Ytinmgnlofininaa.Ev
abbrev Sm (x : Int) : Prop := -274877906944 ≤ x ∧ x ≤ 274877906944
theorem iv_eq {a b c d : Int} (h : a = c) (g : b = d) : ((false, a, b) : Iv) = (false, c, d) := by rw [h, g]
theorem no3_pt {x : Int} (h : Sm x) : no3 false x x = (false, x, x) := no3_false (by omega) (by omega) (by omega) (by omega) (by omega)
theorem neg_pt {x : Int} (h : Sm x) : neg (false, x, x) = (false, -x, -x) := neg_false (by omega) (by omega) (by omega) (by omega) (by omega)
theorem add_pt {x y : Int} (h : Sm x) (g : Sm y) : add (false, x, x) (false, y, y) = (false, x + y, x + y) := by
  rw [add_false rfl rfl]
  unfold hull
  refine iv_eq ?_ ?_ <;> simp only <;> unfold sum clip <;> split <;> (try split) <;> omega
theorem cn_false {d p : Iv} (h : d.1 = false) (g : p.1 = false) : cn d p = (d, p) := by
  unfold cn
  rw [if_neg (by simp [h, g])]
theorem both_pt {x y u v : Int} (hx : Sm x) (hy : Sm y) (hu : Sm u) (hv : Sm v) : both add ((false, x, x), (false, y, y)) ((false, u, u), (false, v, v)) = ((false, x + u, x + u), (false, y + v, y + v)) := by
  unfold both
  rw [add_pt hx hu, add_pt hy hv, cn_false rfl rfl]
theorem of_pt {f : Int} (h : Sm f) : ofC (false, f, f) (false, 0, 0) = ((false, f, f), (false, f, f)) := by
  unfold ofC sub
  rw [neg_pt (by omega), add_pt h (by omega), add_pt h (by omega), cn_false rfl rfl]
  simp
theorem join_pt (f : Int) : join (false, f, f) (false, f, f) = (false, f, f) := by simp [join]
theorem widen_pt {f : Int} (h : Sm f) : widen (false, f, f) (false, f, f) [] = (false, f, f) := by
  unfold widen
  rw [join_pt, if_neg (by simp), if_pos rfl, if_pos rfl]
  exact no3_pt h
theorem widen_up {f h g : Int} (hf : Sm f) (hh : h = f ∨ h = 1099511627776) (hg : f < g ∧ g < 1099511627776) : widen (false, f, h) (join (false, f, h) (false, g, g)) [] = (false, f, 1099511627776) := by
  have e1 : join (false, f, h) (false, g, g) = (false, f, max h g) := by
    simp only [join, Bool.false_eq_true, if_false]
    exact iv_eq (by omega) rfl
  have e2 : join (false, f, h) (false, f, max h g) = (false, f, max h g) := by
    simp only [join, Bool.false_eq_true, if_false]
    exact iv_eq (by omega) (by omega)
  rw [e1]
  unfold widen
  rw [e2, if_neg (by simp), if_pos rfl]
  by_cases c : max h g = h
  · rw [if_pos c]
    have : h = 1099511627776 := by omega
    rw [this]
    rw [show max (1099511627776 : Int) g = 1099511627776 by omega]
    dsimp only
    exact no3_false (by omega) (by omega) (by omega) (by omega) (by omega)
  · rw [if_neg c]
    simp only [hiS, List.foldl_nil]
    exact no3_false (by omega) (by omega) (by omega) (by omega) (by omega)
section
variable (k : Nat) (hk : 300 ≤ k) {f : Int} (hf : -2147483648 ≤ f ∧ f ≤ 2147483647)
set_option linter.unusedSectionVars false
include hk hf
theorem okpt {x : Int} (h : Sm x) : Ok (false, x, x) := .inr (by simp; omega)
theorem c_move {x y : Int} (hx : Sm x) (hy : Sm y) : clock_Move.f k false x x false y y false 1 1 = some (false, x + 1, x + 1, false, y + 1, y + 1) := by
  have h : OkC ((false, x, x), (false, y, y)) := ⟨okpt k hk hf hx, okpt k hk hf hy, by simp⟩
  rw [move_f k (by omega), show cl false x x false y y = _ from cl_id h, no3_pt (by omega), both_pt hx hy (by omega) (by omega)]
theorem c_tick {x y : Int} (hx : Sm x) (hy : Sm y) : clock_Tick.f k false x x false y y = some (false, x - 1, x - 1, false, y + 1, y + 1) := by
  have h : OkC ((false, x, x), (false, y, y)) := ⟨okpt k hk hf hx, okpt k hk hf hy, by simp⟩
  rw [tick_f k (by omega), show cl false x x false y y = _ from cl_id h, both_pt hx hy (by omega) (by omega)]
  rfl
theorem c_up {h g : Int} (hh : h = f ∨ h = 1099511627776) (hg : f < g ∧ g < 274877906944) :
    ∃ t : Bool × Int × Int × Bool × Int × Int, clock_Join.f k false f f false f h false f f false g g = some t ∧ clock_Widen.f k false f f false f h t.1 t.2.1 t.2.2.1 t.2.2.2.1 t.2.2.2.2.1 t.2.2.2.2.2 [] = some (false, f, f, false, f, 1099511627776) := by
  have o1 : Ok (false, f, f) := okpt k hk hf (by omega)
  have o2 : Ok (false, f, h) := .inr (by simp; omega)
  have o3 : Ok (false, g, g) := okpt k hk hf (by omega)
  have a : OkC ((false, f, f), (false, f, h)) := ⟨o1, o2, by simp⟩
  have b : OkC ((false, f, f), (false, g, g)) := ⟨o1, o3, by simp⟩
  refine ⟨_, joinC_f k (by omega) _ _ _ _ _ _ _ _ _ _ _ _, ?_⟩
  have e : both join (cl false f f false f h) (cl false f f false g g) = ((false, f, f), join (false, f, h) (false, g, g)) := by
    rw [show cl false f f false f h = _ from cl_id a, show cl false f f false g g = _ from cl_id b]
    unfold both
    rw [join_pt, cn_false rfl rfl]
  rw [e]
  have oj : OkC ((false, f, f), join (false, f, h) (false, g, g)) := ⟨o1, join_ok o2 o3, by simp [join]⟩
  rw [widenC_f k _ _ _ _ _ _ _ _ _ _ _ _ [] (by simp) (by omega), show cl false f f false f h = _ from cl_id a]
  rw [show cl _ _ _ _ _ _ = _ from cl_id oj]
  unfold both
  simp only
  rw [widen_pt (by omega), widen_up (by omega) hh (by omega), cn_false rfl rfl]
end
theorem red_all {a b : Int} (h1 : -1099511627776 ≤ a) (h2 : a ≤ b) (h3 : b ≤ 1099511627776) (h4 : a < 1099511627776) (h5 : -1099511627776 < b) : meet (false, -1099511627776, 1099511627776) (false, a, b) = (false, a, b) := by
  simp only [meet, Bool.false_eq_true, or_self, if_false]
  rw [show max (-1099511627776) a = a by omega, show min 1099511627776 b = b by omega]
  exact no3_false h1 h2 h3 h4 h5
theorem ends_c (k : Nat) (hk : 300 ≤ k) {f t : Int} (hf : -2147483648 ≤ f ∧ f ≤ 2147483647) (ht : 0 ≤ t ∧ t ≤ 200) : clock_Reduce.f k false (-1099511627776) 1099511627776 false f f false (f + 2 * t) (f + 2 * t) false t t = some (false, f + t, f + t) := by
  have o1 : Ok (false, f, f) := okpt k hk hf (by omega)
  have o3 : Ok (false, f + 2 * t, f + 2 * t) := okpt k hk hf (by omega)
  rw [reduce_f k (by omega), show cl false f f false (f + 2 * t) (f + 2 * t) = _ from cl_id (c := ((false, f, f), (false, f + 2 * t, f + 2 * t))) ⟨o1, o3, by simp⟩, no3_pt (by omega), no3_false (by omega) (by omega) (by omega) (by omega) (by omega)]
  unfold reduce sub
  rw [neg_pt (by omega), add_pt (by omega) (by omega), add_pt (by omega) (by omega), red_all (by omega) (by omega) (by omega) (by omega) (by omega)]
  simp only [meet, Bool.false_eq_true, or_self, if_false]
  rw [show f + 2 * t + -t = f + t by omega, show max (f + t) (f + t) = f + t by omega, show min (f + t) (f + t) = f + t by omega]
  rw [no3_pt (by omega)]
theorem ends_j (k : Nat) (hk : 300 ≤ k) {f : Int} (hf : -2147483648 ≤ f ∧ f ≤ 2147483647) : clock_Reduce.f k false (-1099511627776) 1099511627776 false f f false f 1099511627776 false 0 2147483647 = some (false, f, f + 2147483647) := by
  have o1 : Ok (false, f, f) := okpt k hk hf (by omega)
  have o3 : Ok (false, f, 1099511627776) := .inr (by simp; omega)
  have e1 : add (false, f, f) (false, 0, 2147483647) = (false, f, f + 2147483647) := by
    rw [add_false rfl rfl]
    unfold hull
    refine iv_eq ?_ ?_ <;> simp only <;> unfold sum clip <;> split <;> (try split) <;> omega
  have e2 : add (false, f, 1099511627776) (false, -2147483647, 0) = (false, f - 2147483647, 1099511627776) := by
    rw [add_false rfl rfl]
    unfold hull
    refine iv_eq ?_ ?_ <;> simp only <;> unfold sum clip <;> split <;> (try split) <;> omega
  rw [reduce_f k (by omega), show cl false f f false f 1099511627776 = _ from cl_id (c := ((false, f, f), (false, f, 1099511627776))) ⟨o1, o3, by simp⟩, no3_false (by omega) (by omega) (by omega) (by omega) (by omega), no3_false (lo := 0) (by omega) (by omega) (by omega) (by omega) (by omega)]
  unfold reduce sub
  rw [neg_false (by omega) (by omega) (by omega) (by omega) (by omega), e1, show (-0 : Int) = 0 by rfl, e2, red_all (by omega) (by omega) (by omega) (by omega) (by omega)]
  simp only [meet, Bool.false_eq_true, or_self, if_false]
  rw [show max f (f - 2147483647) = f by omega, show min (f + 2147483647) 1099511627776 = f + 2147483647 by omega]
  rw [no3_false (by omega) (by omega) (by omega) (by omega) (by omega)]
theorem counts_end (M : Nat) (hM : 300 ≤ M) {f t : Int} (hf : -2147483648 ≤ f ∧ f ≤ 2147483647) (ht : 0 ≤ t ∧ t ≤ 200) (h : Int) (hh : t = 0 ∨ h = 1099511627776) :
    flyballlaw21_ClockCounts.l0 (M + 1) f t true t false f f false (f + 2 * t) (f + 2 * t) false f f false f h = some true := by
  simp only [flyballlaw21_ClockCounts.l0, Int.lt_irrefl, if_false, make_f, point_f, Option.bind_some, if_true]
  rw [wrap_id (x := f) (by omega) (by omega), wrap_id (x := f + t) (by omega) (by omega), wrap_id (x := f + 2147483647) (by omega) (by omega)]
  rw [no3_pt (x := t) (by omega), no3_pt (x := f + t) (by omega), no3_false (lo := -1099511627776) (by omega) (by omega) (by omega) (by omega) (by omega), no3_false (lo := 0) (by omega) (by omega) (by omega) (by omega) (by omega), no3_false (lo := f) (by omega) (by omega) (by omega) (by omega) (by omega)]
  simp only []
  rw [ends_c M hM hf ht]
  simp only [Option.bind_some, beq_self_eq_true, Bool.and_self, if_true]
  by_cases c : t = 0
  · simp only [if_pos c]
    rw [reduce_f M (by omega)]
    rfl
  · rcases hh with hh | rfl
    · exact absurd hh c
    · rw [ends_j M hM hf]
      simp [c]
theorem counts_loop {f t : Int} (hf : -2147483648 ≤ f ∧ f ≤ 2147483647) (ht : 0 ≤ t ∧ t ≤ 200) : ∀ (d : Nat) (i : Int) (h : Int), i + d = t → 0 ≤ i → (i = 0 ∧ h = f ∨ 0 < i ∧ h = 1099511627776) →
    flyballlaw21_ClockCounts.l0 (300 + d + 1) f t true i false f f false (f + 2 * i) (f + 2 * i) false f f false f h = some true
  | 0, i, h, e, h0, hh => by
    obtain rfl : i = t := by omega
    exact counts_end 300 (by omega) hf ht h (by omega)
  | d + 1, i, h, e, h0, hh => by
    have ih := counts_loop hf ht d (i + 1) 1099511627776 (by omega) (by omega) (by omega)
    obtain ⟨u, e1, e2⟩ := c_up (300 + (d + 1)) (by omega) hf (h := h) (g := f + 2 * i + 1 + 1) (by omega) (by omega)
    rw [flyballlaw21_ClockCounts.l0, if_pos (by omega), point_f, no3_pt (by omega)]
    simp only [Option.bind_some]
    rw [c_move _ (by omega) hf (by omega) (by omega)]
    simp only [Option.bind_some]
    rw [c_tick _ (by omega) hf (by omega) (by omega)]
    simp only [Option.bind_some]
    rw [show f + 1 - 1 = f by omega, e1]
    simp only [Option.bind_some]
    rw [e2]
    simp only [Option.bind_some]
    rw [wrap_id (x := i + 1) (by omega) (by omega), show f + 2 * i + 1 + 1 = f + 2 * (i + 1) by omega]
    exact ih
theorem ClockCounts : flyballlaw21_ClockCounts.Pure := by
  intro f t wf wt
  have hf : -2147483648 ≤ f ∧ f ≤ 2147483647 := by
    have e1 : IntKind.i32.min = -2147483648 := rfl
    have e2 : IntKind.i32.max = 2147483647 := rfl
    simp [Lit.wf] at wf
    omega
  have tt : ∀ k, flyballlaw21_ClockCounts.j0 (k + 1) f t true true = some true := fun k => by simp [flyballlaw21_ClockCounts.j0]
  by_cases c1 : t < 0
  · refine ⟨302, ?_⟩
    unfold flyballlaw21_ClockCounts.f
    rw [works21 _ (by omega)]
    simp only [Option.bind_some, if_true, if_pos c1, tt]
  by_cases c2 : t > 200
  · refine ⟨302, ?_⟩
    unfold flyballlaw21_ClockCounts.f
    rw [works21 _ (by omega)]
    simp only [Option.bind_some, if_true, if_neg c1, decide_eq_true c2, tt]
  · refine ⟨300 + t.toNat + 1 + 1, ?_⟩
    unfold flyballlaw21_ClockCounts.f
    rw [works21 _ (by omega)]
    simp only [Option.bind_some, if_true, if_neg c1, decide_eq_false c2]
    have h := counts_loop (t := t) hf ⟨by omega, by omega⟩ t.toNat 0 f (by omega) (by omega) (.inl ⟨rfl, rfl⟩)
    rw [show f + 2 * 0 = f by omega] at h
    rw [flyballlaw21_ClockCounts.j0, if_neg (by simp), wrap_id (x := f) (by omega) (by omega), point_f, point_f, no3_pt (x := f) (by omega), no3_pt (x := 0) (by omega)]
    simp only [Option.bind_some]
    rw [cof_f _ (by omega), no3_pt (x := f) (by omega), no3_pt (x := 0) (by omega), of_pt (by omega)]
    simp only [Option.bind_some]
    exact h
end Go.Proofs.Ytinmgnlofininaa.Pure
end
