/- Clocks as pairs of intervals, and where intervals go on to: plain functions and what they obey. -/
import Derived.Test.YtinmgnlofininaaSpecM
set_option linter.unusedVariables false
set_option linter.unusedSimpArgs false
namespace Go.Proofs.Ytinmgnlofininaa.Spec
open Go.RowKit
abbrev Cl := Iv × Iv
/-- A clock in the one way. -/
def cn (d p : Iv) : Cl := if d.1 = true ∨ p.1 = true then ((true, 0, 0), (true, 0, 0)) else (d, p)
/-- As six cells. -/
abbrev pk6 (c : Cl) : Bool × Int × Int × Bool × Int × Int := (c.1.1, c.1.2.1, c.1.2.2, c.2.1, c.2.2.1, c.2.2.2)
def OkC (c : Cl) : Prop := Ok c.1 ∧ Ok c.2 ∧ (c.1.1 = true ↔ c.2.1 = true)
theorem cn_ok {d p : Iv} (hd : Ok d) (hp : Ok p) : OkC (cn d p) := by
  unfold cn
  split
  · exact ⟨.inl rfl, .inl rfl, Iff.rfl⟩
  · rename_i h
    exact ⟨hd, hp, ⟨fun x => absurd (.inl x) h, fun x => absurd (.inr x) h⟩⟩
theorem cn_id {c : Cl} (h : OkC c) : cn c.1 c.2 = c := by
  unfold cn
  split
  · rename_i g
    have h1 : c.1.1 = true := by rcases g with g | g; exact g; exact h.2.2.mpr g
    have h2 : c.2.1 = true := h.2.2.mp h1
    obtain ⟨a, b⟩ := c
    rcases h.1 with e | e
    · rcases h.2.1 with f | f
      · simp only at e f; rw [e, f]
      · exact absurd h2 (by rw [f.1]; simp)
    · exact absurd h1 (by rw [e.1]; simp)
  · rfl
theorem cn_same {b : Iv} (hb : Ok b) : cn b b = (b, b) := cn_id (c := (b, b)) ⟨hb, hb, Iff.rfl⟩
def both (f : Iv → Iv → Iv) (a b : Cl) : Cl := cn (f a.1 b.1) (f a.2 b.2)
def ofC (v k : Iv) : Cl := cn (sub v k) (add v k)
def reduce (v : Iv) (c : Cl) (k : Iv) : Iv := meet (meet v (add c.1 k)) (sub c.2 k)
def insideC (a b : Cl) : Bool := inside a.1 b.1 && inside a.2 b.2
def hasC (c : Cl) (v k : Int) : Bool := decide (-2199023255552 ≤ v ∧ v ≤ 2199023255552 ∧ -2199023255552 ≤ k ∧ k ≤ 2199023255552) && (has c.1 (v - k) && has c.2 (v + k))
theorem ofC_ok {v k : Iv} (hv : Ok v) (hk : Ok k) : OkC (ofC v k) := cn_ok (sub_ok hv) (add_ok hv hk)
/-! ### where an interval goes on to -/
def loS (j : Int) (a : Int) (l : List Int) : Int := l.foldl (fun a n => if n ≤ j then max a n else a) a
def hiS (j : Int) (a : Int) (l : List Int) : Int := l.foldl (fun a n => if n ≥ j then min a n else a) a
theorem loS_le (j : Int) (l : List Int) : ∀ a, a ≤ j → a ≤ loS j a l ∧ loS j a l ≤ j := by
  unfold loS
  induction l with
  | nil => intro a h; exact ⟨Int.le_refl _, h⟩
  | cons n l ih =>
    intro a h
    rw [List.foldl_cons]
    split
    · rename_i c
      have := ih (max a n) (by omega)
      omega
    · exact ih a h
theorem hiS_ge (j : Int) (l : List Int) : ∀ a, j ≤ a → hiS j a l ≤ a ∧ j ≤ hiS j a l := by
  unfold hiS
  induction l with
  | nil => intro a h; exact ⟨Int.le_refl _, h⟩
  | cons n l ih =>
    intro a h
    rw [List.foldl_cons]
    split
    · rename_i c
      have := ih (min a n) (by omega)
      omega
    · exact ih a h
def widen (o n : Iv) (l : List Int) : Iv := if o.1 = true then n else
  no3 false (if (join o n).2.1 = o.2.1 then (join o n).2.1 else loS (join o n).2.1 (-1099511627776) l) (if (join o n).2.2 = o.2.2 then (join o n).2.2 else hiS (join o n).2.2 1099511627776 l)
theorem widen_ok {o n : Iv} (hn : Ok n) (l : List Int) : Ok (widen o n l) := by
  unfold widen
  split
  · exact hn
  · exact no3_ok _ _ _
/-- What it is where something was: ends no nearer than those of both. -/
theorem widen_false {o n : Iv} (ho : Ok o) (hn : Ok n) (l : List Int) (h : o.1 = false) : ∃ lo hi, widen o n l = (false, lo, hi) ∧ lo ≤ (join o n).2.1 ∧ (join o n).2.2 ≤ hi ∧ -1099511627776 ≤ lo ∧ hi ≤ 1099511627776 := by
  have hj := join_ok ho hn
  have hj1 : (join o n).1 = false := by
    unfold join
    rw [h]
    simp only [Bool.false_eq_true, if_false]
    split
    · exact h
    · rfl
  unfold widen
  rw [if_neg (by rw [h]; simp)]
  rcases hj with e | ⟨_, h1, h2, h3, h4, h5⟩
  · rw [e] at hj1; cases hj1
  · have a := loS_le (join o n).2.1 l (-1099511627776) h1
    have b := hiS_ge (join o n).2.2 l 1099511627776 h3
    refine ⟨_, _, no3_false ?_ ?_ ?_ ?_ ?_, ?_, ?_, ?_, ?_⟩ <;> (try split) <;> (try split) <;> omega
theorem inside_of_join {o n w : Iv} {lo hi : Int} (ho : Ok o) (hn : Ok n) (h : o.1 = false) (hw : w = (false, lo, hi)) (h1 : lo ≤ (join o n).2.1) (h2 : (join o n).2.2 ≤ hi) : inside o w = true ∧ inside n w = true := by
  subst hw
  rcases ho.cases with rfl | ⟨l, u, rfl, a1, a2, a3, a4, a5⟩
  · cases h
  · rcases hn.cases with rfl | ⟨l', u', rfl, b1, b2, b3, b4, b5⟩
    · simp only [join, Bool.false_eq_true, if_false, if_true] at h1 h2
      exact ⟨by rw [inside_false]; exact ⟨h1, h2⟩, rfl⟩
    · simp only [join, Bool.false_eq_true, if_false] at h1 h2
      rw [inside_false, inside_false]
      omega
theorem inside_widen {o n : Iv} (ho : Ok o) (hn : Ok n) (l : List Int) : inside o (widen o n l) = true ∧ inside n (widen o n l) = true := by
  cases h : o.1 with
  | true =>
    rcases ho with e | e
    · subst e
      refine ⟨rfl, ?_⟩
      simp only [widen, if_true]
      rcases hn.cases with rfl | ⟨l', u', rfl, b1, b2, b3, b4, b5⟩
      · rfl
      · rw [inside_false]; omega
    · rw [e.1] at h; cases h
  | false =>
    obtain ⟨lo, hi, e, h1, h2, _⟩ := widen_false ho hn l h
    exact inside_of_join ho hn h e h1 h2
end Go.Proofs.Ytinmgnlofininaa.Spec
