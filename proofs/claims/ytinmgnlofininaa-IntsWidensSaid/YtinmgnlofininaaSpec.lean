/- The intervals' operations as plain functions on triples (empty, lo, hi), and what they obey: no program in sight. -/
import Derived.Test.YtinmgnlofininaaWMore
import Derived.RowKit
set_option linter.unusedVariables false
set_option linter.unusedSimpArgs false
namespace Go.Proofs.Ytinmgnlofininaa.Spec
open Go.RowKit Go.Proofs.YtinmgnlofininaaW.PrintWords Go.Proofs.YtinmgnlofininaaW.PrintLast Go.Proofs.YtinmgnlofininaaW.PrintMore
abbrev Iv := Bool × Int × Int
theorem mx_eq (a b : Int) : mx a b = max a b := by unfold mx; split <;> omega
theorem mn_eq (a b : Int) : mn a b = min a b := by unfold mn; split <;> omega
theorem wrap_id {x : Int} (h : -9223372036854775808 ≤ x) (h' : x ≤ 9223372036854775807) : wrap64 x = x := by unfold wrap64; omega
def no3 (e : Bool) (lo hi : Int) : Iv := if e = true ∨ lo > hi ∨ lo ≥ 1099511627776 ∨ hi ≤ -1099511627776 then (true, 0, 0) else (false, max lo (-1099511627776), min hi 1099511627776)
abbrev nr (s : Iv) : Iv := no3 s.1 s.2.1 s.2.2
/-- Written in the one way. -/
def Ok (s : Iv) : Prop := s = (true, 0, 0) ∨ s.1 = false ∧ -1099511627776 ≤ s.2.1 ∧ s.2.1 ≤ s.2.2 ∧ s.2.2 ≤ 1099511627776 ∧ s.2.1 < 1099511627776 ∧ -1099511627776 < s.2.2
theorem no3_ok (e : Bool) (lo hi : Int) : Ok (no3 e lo hi) := by
  unfold no3 Ok
  split
  · exact .inl rfl
  · refine .inr ⟨rfl, ?_⟩
    simp only
    omega
theorem Ok.cases {s : Iv} (h : Ok s) : s = (true, 0, 0) ∨ ∃ lo hi, s = (false, lo, hi) ∧ -1099511627776 ≤ lo ∧ lo ≤ hi ∧ hi ≤ 1099511627776 ∧ lo < 1099511627776 ∧ -1099511627776 < hi := by
  obtain ⟨e, lo, hi⟩ := s
  rcases h with h | ⟨h, h1⟩
  · exact .inl h
  · simp only at h
    subst h
    exact .inr ⟨lo, hi, rfl, h1⟩
theorem no3_false {lo hi : Int} (h1 : -1099511627776 ≤ lo) (h2 : lo ≤ hi) (h3 : hi ≤ 1099511627776) (h4 : lo < 1099511627776) (h5 : -1099511627776 < hi) : no3 false lo hi = (false, lo, hi) := by
  unfold no3
  rw [if_neg (by simp; omega)]
  rw [show max lo (-1099511627776) = lo by omega, show min hi 1099511627776 = hi by omega]
theorem no3_true (lo hi : Int) : no3 true lo hi = (true, 0, 0) := by simp [no3]
theorem nr_ok {s : Iv} (h : Ok s) : nr s = s := by
  rcases h.cases with rfl | ⟨lo, hi, rfl, h1, h2, h3, h4, h5⟩
  · exact no3_true _ _
  · exact no3_false h1 h2 h3 h4 h5
def has (s : Iv) (n : Int) : Bool := !s.1 && (decide (s.2.1 = -1099511627776 ∨ s.2.1 ≤ n)) && (decide (s.2.2 = 1099511627776 ∨ n ≤ s.2.2))
def inside (a b : Iv) : Bool := a.1 || (!b.1 && decide (b.2.1 ≤ a.2.1) && decide (a.2.2 ≤ b.2.2))
def join (a b : Iv) : Iv := if a.1 = true then b else if b.1 = true then a else (false, min a.2.1 b.2.1, max a.2.2 b.2.2)
def meet (a b : Iv) : Iv := if a.1 = true ∨ b.1 = true then (true, 0, 0) else no3 false (max a.2.1 b.2.1) (min a.2.2 b.2.2)
def neg (a : Iv) : Iv := if a.1 = true then (true, 0, 0) else no3 false (-a.2.2) (-a.2.1)
def clip (n : Int) : Int := max (min n 1099511627776) (-1099511627776)
def sum (x y : Int) : Int := if x ≥ 1099511627776 ∨ x ≤ -1099511627776 then x else if y ≥ 1099511627776 ∨ y ≤ -1099511627776 then y else clip (x + y)
def hull (lo hi : Int) : Iv := (false, min (clip lo) 1099511627775, max (clip hi) (-1099511627775))
def add (a b : Iv) : Iv := if a.1 = true ∨ b.1 = true then (true, 0, 0) else hull (sum a.2.1 b.2.1) (sum a.2.2 b.2.2)
def sub (a b : Iv) : Iv := add a (neg b)
def abs (a : Iv) : Iv := join (meet a (false, 0, 1099511627776)) (meet (neg a) (false, 0, 1099511627776))
theorem join_ok {a b : Iv} (ha : Ok a) (hb : Ok b) : Ok (join a b) := by
  rcases ha.cases with rfl | ⟨lo, hi, rfl, h1, h2, h3, h4, h5⟩
  · simpa [join] using hb
  · rcases hb.cases with rfl | ⟨lo', hi', rfl, g1, g2, g3, g4, g5⟩
    · simpa [join] using ha
    · refine .inr ⟨by simp [join], ?_⟩
      simp only [join, Bool.false_eq_true, if_false]
      omega
theorem meet_ok (a b : Iv) : Ok (meet a b) := by
  unfold meet
  split
  · exact .inl rfl
  · exact no3_ok _ _ _
theorem neg_ok (a : Iv) : Ok (neg a) := by
  unfold neg
  split
  · exact .inl rfl
  · exact no3_ok _ _ _
theorem neg_false {lo hi : Int} (h1 : -1099511627776 ≤ lo) (h2 : lo ≤ hi) (h3 : hi ≤ 1099511627776) (h4 : lo < 1099511627776) (h5 : -1099511627776 < hi) : neg (false, lo, hi) = (false, -hi, -lo) := by
  unfold neg
  simp only [Bool.false_eq_true, if_false]
  exact no3_false (by omega) (by omega) (by omega) (by omega) (by omega)
theorem clip_bd (n : Int) : -1099511627776 ≤ clip n ∧ clip n ≤ 1099511627776 := by unfold clip; omega
theorem sum_bd {x y : Int} (hx : -1099511627776 ≤ x ∧ x ≤ 1099511627776) (hy : -1099511627776 ≤ y ∧ y ≤ 1099511627776) : -1099511627776 ≤ sum x y ∧ sum x y ≤ 1099511627776 := by
  unfold sum clip
  split
  · exact hx
  · split
    · exact hy
    · omega
theorem sum_mono {x x' y y' : Int} (hx : -1099511627776 ≤ x) (hx' : x' ≤ 1099511627776) (hy : -1099511627776 ≤ y) (hy' : y' ≤ 1099511627776) (h : x ≤ x') (g : y ≤ y') : sum x y ≤ sum x' y' := by
  unfold sum clip
  split <;> split <;> (try split) <;> (try split) <;> omega
theorem add_false {a b : Iv} (ha : a.1 = false) (hb : b.1 = false) : add a b = hull (sum a.2.1 b.2.1) (sum a.2.2 b.2.2) := by simp [add, ha, hb]
theorem hull_ok {lo hi : Int} (h : min (clip lo) 1099511627775 ≤ max (clip hi) (-1099511627775)) : Ok (hull lo hi) := by
  have := clip_bd lo
  have := clip_bd hi
  refine .inr ⟨rfl, ?_⟩
  simp only [hull]
  omega
theorem add_ok {a b : Iv} (ha : Ok a) (hb : Ok b) : Ok (add a b) := by
  rcases ha.cases with rfl | ⟨lo, hi, rfl, h1, h2, h3, h4, h5⟩
  · simp [add, Ok]
  · rcases hb.cases with rfl | ⟨lo', hi', rfl, g1, g2, g3, g4, g5⟩
    · simp [add, Ok]
    · rw [add_false rfl rfl]
      apply hull_ok
      simp only
      unfold sum clip
      split <;> split <;> (try split) <;> (try split) <;> omega
theorem sub_ok {a b : Iv} (ha : Ok a) : Ok (sub a b) := add_ok ha (neg_ok b)
theorem abs_ok (a : Iv) : Ok (abs a) := join_ok (meet_ok _ _) (meet_ok _ _)
end Go.Proofs.Ytinmgnlofininaa.Spec
