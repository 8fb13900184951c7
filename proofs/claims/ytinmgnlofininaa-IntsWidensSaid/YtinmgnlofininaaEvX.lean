/- Where an interval goes on to: the program's loop and the reference's answer as the plain one (SpecC) says. -/
import Derived.Test.YtinmgnlofininaaPAllx22
import Derived.Test.YtinmgnlofininaaPAllx23
import Derived.Test.YtinmgnlofininaaEvA
import Derived.Test.YtinmgnlofininaaEvR
import Derived.Test.YtinmgnlofininaaSpecC
set_option linter.unusedVariables false
set_option linter.unusedSimpArgs false
namespace Go.Proofs.Ytinmgnlofininaa.Ev
open Go.RowKit Go.Proofs.Ytinmgnlofininaa.PAll Go.Proofs.YtinmgnlofininaaW.PrintWords Go.Proofs.YtinmgnlofininaaW.PrintLast Go.Proofs.YtinmgnlofininaaW.PrintMore Go.Proofs.Ytinmgnlofininaa.Spec
theorem rd_at (l : List Int) (i : Nat) (h : i < l.length) : rd l (i : Int) = l[i] := by
  unfold rd
  simp [List.getD_eq_getElem?_getD, h]
theorem wrap_next {i n : Nat} (h : i < n) (hn : n ≤ 1000) : wrap64 ((i : Int) + 1) = ((i + 1 : Nat) : Int) := by
  rw [wrap_id (by omega) (by omega)]
  omega
theorem loS_cons (j a n : Int) (l : List Int) : loS j a (n :: l) = loS j (if n ≤ j then max a n else a) l := rfl
theorem hiS_cons (j a n : Int) (l : List Int) : hiS j a (n :: l) = hiS j (if n ≥ j then min a n else a) l := rfl
/-! ### the program's -/
theorem wl0_end (M : Nat) (l : List Int) (lo hi : Int) (i : Int) (oe : Bool) (ol oh : Int) (je : Bool) (jl jh : Int) (h : ¬ i < (l.length : Int)) :
    ints_Widen.l0 (M + 1) lo hi l (l.length : Int) i oe ol oh je jl jh = some (no3 false (if jl = ol then jl else lo) (if jh = oh then jh else hi)) := by
  rw [ints_Widen.l0, if_neg h]
  by_cases c : jl = ol <;> by_cases d : jh = oh <;> simp only [c, d, if_true, if_false, make_f, Option.bind_some]
theorem wl0_step (M : Nat) (l : List Int) (lo hi : Int) (i : Nat) (oe : Bool) (ol oh : Int) (je : Bool) (jl jh : Int) (h : i < l.length) (hl : l.length ≤ 1000) :
    ints_Widen.l0 (M + 1) lo hi l (l.length : Int) (i : Int) oe ol oh je jl jh = ints_Widen.l0 M (if l[i] ≤ jl then max lo l[i] else lo) (if l[i] ≥ jh then min hi l[i] else hi) l (l.length : Int) ((i + 1 : Nat) : Int) oe ol oh je jl jh := by
  rw [ints_Widen.l0, if_pos (by omega), if_pos (by omega), if_pos (by omega), rd_at l i h, wrap_next h hl, mx_eq, mn_eq]
  by_cases c : l[i] ≤ jl <;> by_cases d : l[i] ≥ jh <;> simp only [c, d, if_true, if_false]
theorem wl0_f (l : List Int) (oe : Bool) (ol oh : Int) (je : Bool) (jl jh : Int) (hl : l.length ≤ 1000) (m : Nat) (d : Nat) :
    ∀ (i : Nat) (lo hi : Int), i + d = l.length → ints_Widen.l0 (m + d + 1) lo hi l (l.length : Int) (i : Int) oe ol oh je jl jh = some (no3 false (if jl = ol then jl else loS jl lo (l.drop i)) (if jh = oh then jh else hiS jh hi (l.drop i))) := by
  induction d with
  | zero =>
    intro i lo hi h
    have e : l.drop i = [] := List.drop_of_length_le (by omega)
    rw [e]
    exact wl0_end m l lo hi i oe ol oh je jl jh (by omega)
  | succ d ih =>
    intro i lo hi h
    have hi' : i < l.length := by omega
    have e : l.drop i = l[i] :: l.drop (i + 1) := List.drop_eq_getElem_cons hi'
    have s := wl0_step (m + d + 1) l lo hi i oe ol oh je jl jh hi' hl
    have g := ih (i + 1) (if l[i] ≤ jl then max lo l[i] else lo) (if l[i] ≥ jh then min hi l[i] else hi) (by omega)
    rw [e, loS_cons, hiS_cons, ← g]
    exact s
theorem widen_f (k : Nat) (l : List Int) (hl : l.length ≤ 200) (hk : 300 ≤ k) (e : Bool) (lo hi : Int) (e' : Bool) (lo' hi' : Int) : ints_Widen.f k e lo hi e' lo' hi' l = some (widen (no3 e lo hi) (no3 e' lo' hi') l) := by
  unfold ints_Widen.f
  simp only [norm_f, Option.bind_some]
  rcases (no3_ok e lo hi).cases with h | ⟨a, u, h, h1, h2, h3, h4, h5⟩
  · rw [h]; rfl
  · rw [h]
    simp only [Bool.false_eq_true, if_false]
    rw [join2_f k (by omega), no3_false h1 h2 h3 h4 h5]
    simp only [Option.bind_some]
    obtain ⟨m, rfl⟩ : ∃ m, k = m + l.length + 1 := ⟨k - l.length - 1, by omega⟩
    have g := wl0_f l false a u (join (false, a, u) (no3 e' lo' hi')).1 (join (false, a, u) (no3 e' lo' hi')).2.1 (join (false, a, u) (no3 e' lo' hi')).2.2 (by omega) m l.length 0 (-1099511627776) 1099511627776 (by omega)
    simp only [Int.natCast_zero, List.drop_zero] at g
    rw [g]
    rfl
/-! ### the reference's -/
theorem rl1_end (M : Nat) (l : List Int) (hi : Int) (i : Int) (je : Bool) (jl jh : Int) (h : ¬ i < (l.length : Int)) : flyballref17_Widen.l1 (M + 1) l hi i je jl jh = some (no3 je jl hi) := by
  rw [flyballref17_Widen.l1, if_neg h, rnorm_f]
  rfl
theorem rl1_step (M : Nat) (l : List Int) (hi : Int) (i : Nat) (je : Bool) (jl jh : Int) (h : i < l.length) (hl : l.length ≤ 1000) : flyballref17_Widen.l1 (M + 1) l hi (i : Int) je jl jh = flyballref17_Widen.l1 M l (if l[i] ≥ jh then min hi l[i] else hi) ((i + 1 : Nat) : Int) je jl jh := by
  rw [flyballref17_Widen.l1, if_pos (by omega), if_pos (by omega), rd_at l i h, wrap_next h hl, mn_eq]
  by_cases d : l[i] ≥ jh <;> simp only [d, if_true, if_false]
theorem rl1_f (l : List Int) (je : Bool) (jl jh : Int) (hl : l.length ≤ 1000) (m : Nat) (d : Nat) :
    ∀ (i : Nat) (hi : Int), i + d = l.length → flyballref17_Widen.l1 (m + d + 1) l hi (i : Int) je jl jh = some (no3 je jl (hiS jh hi (l.drop i))) := by
  induction d with
  | zero =>
    intro i hi h
    have e : l.drop i = [] := List.drop_of_length_le (by omega)
    rw [e]
    exact rl1_end m l hi i je jl jh (by omega)
  | succ d ih =>
    intro i hi h
    have hi' : i < l.length := by omega
    have e : l.drop i = l[i] :: l.drop (i + 1) := List.drop_eq_getElem_cons hi'
    have s := rl1_step (m + d + 1) l hi i je jl jh hi' hl
    have g := ih (i + 1) (if l[i] ≥ jh then min hi l[i] else hi) (by omega)
    rw [e, hiS_cons, ← g]
    exact s
theorem rl0_end (M : Nat) (l : List Int) (lo : Int) (i : Int) (oe : Bool) (ol oh : Int) (je : Bool) (jl jh : Int) (h : ¬ i < (l.length : Int)) : flyballref17_Widen.l0 (M + 1) l lo i oe ol oh je jl jh = flyballref17_Widen.j1 M l oe ol oh je lo jh := by
  rw [flyballref17_Widen.l0, if_neg h]
theorem rl0_step (M : Nat) (l : List Int) (lo : Int) (i : Nat) (oe : Bool) (ol oh : Int) (je : Bool) (jl jh : Int) (h : i < l.length) (hl : l.length ≤ 1000) : flyballref17_Widen.l0 (M + 1) l lo (i : Int) oe ol oh je jl jh = flyballref17_Widen.l0 M l (if l[i] ≤ jl then max lo l[i] else lo) ((i + 1 : Nat) : Int) oe ol oh je jl jh := by
  rw [flyballref17_Widen.l0, if_pos (by omega), if_pos (by omega), rd_at l i h, wrap_next h hl, mx_eq]
  by_cases d : l[i] ≤ jl <;> simp only [d, if_true, if_false]
theorem rl0_f (l : List Int) (oe : Bool) (ol oh : Int) (je : Bool) (jl jh : Int) (hl : l.length ≤ 1000) (m : Nat) (d : Nat) :
    ∀ (i : Nat) (lo : Int), i + d = l.length → flyballref17_Widen.l0 (m + d + 1) l lo (i : Int) oe ol oh je jl jh = flyballref17_Widen.j1 m l oe ol oh je (loS jl lo (l.drop i)) jh := by
  induction d with
  | zero =>
    intro i lo h
    have e : l.drop i = [] := List.drop_of_length_le (by omega)
    rw [e]
    exact rl0_end m l lo i oe ol oh je jl jh (by omega)
  | succ d ih =>
    intro i lo h
    have hi' : i < l.length := by omega
    have e : l.drop i = l[i] :: l.drop (i + 1) := List.drop_eq_getElem_cons hi'
    have s := rl0_step (m + d + 1) l lo i oe ol oh je jl jh hi' hl
    have g := ih (i + 1) (if l[i] ≤ jl then max lo l[i] else lo) (by omega)
    rw [e, loS_cons, ← g]
    exact s
theorem rj1_f (l : List Int) (oe : Bool) (ol oh : Int) (je : Bool) (jl jh : Int) (hl : l.length ≤ 200) (k : Nat) (hk : 250 ≤ k) : flyballref17_Widen.j1 k l oe ol oh je jl jh = some (no3 je jl (if jh > oh then hiS jh 1099511627776 l else jh)) := by
  obtain ⟨m, rfl⟩ : ∃ m, k = (m + l.length + 1) + 1 := ⟨k - l.length - 2, by omega⟩
  rw [flyballref17_Widen.j1]
  by_cases c : jh > oh
  · rw [if_pos c, if_pos c]
    have g := rl1_f l je jl jh (by omega) m l.length 0 1099511627776 (by omega)
    simp only [Int.natCast_zero, List.drop_zero] at g
    exact g
  · rw [if_neg c, if_neg c, rnorm_f]
    rfl
theorem rwiden_f (k : Nat) (l : List Int) (hl : l.length ≤ 200) (hk : 600 ≤ k) (e : Bool) (lo hi : Int) (e' : Bool) (lo' hi' : Int) : flyballref17_Widen.f k e lo hi e' lo' hi' l = some (widen (no3 e lo hi) (no3 e' lo' hi') l) := by
  unfold flyballref17_Widen.f
  simp only [rnorm_f, Option.bind_some]
  have oo := no3_ok e lo hi
  have on := no3_ok e' lo' hi'
  generalize no3 e' lo' hi' = n at on ⊢
  rcases oo.cases with h | ⟨a, u, h, h1, h2, h3, h4, h5⟩
  · rw [h]; rfl
  · rw [h]
    have on' : Ok (false, a, u) := .inr ⟨rfl, h1, h2, h3, h4, h5⟩
    simp only [Bool.false_eq_true, if_false]
    rw [rjoin_f, no3_false h1 h2 h3 h4 h5, show no3 n.1 n.2.1 n.2.2 = n from nr_ok on]
    simp only [Option.bind_some]
    have hj1 : (join (false, a, u) n).1 = false ∧ (join (false, a, u) n).2.1 ≤ a ∧ u ≤ (join (false, a, u) n).2.2 := by
      rcases on.cases with rfl | ⟨l', u', rfl, b1, b2, b3, b4, b5⟩
      · simp [join]
      · simp only [join, Bool.false_eq_true, if_false]; exact ⟨trivial, by omega, by omega⟩
    simp only [widen, Bool.false_eq_true, if_false]
    generalize join (false, a, u) n = j at hj1 ⊢
    obtain ⟨je, jl, jh⟩ := j
    simp only at hj1 ⊢
    obtain ⟨rfl, c1, c2⟩ := hj1
    have q : ∀ x : Int, (if jh > u then x else jh) = (if jh = u then jh else x) := fun x => by
      by_cases c : jh = u
      · rw [if_pos c, if_neg (by omega)]
      · rw [if_neg c, if_pos (by omega)]
    by_cases c : jl < a
    · rw [if_pos c, if_neg (by omega)]
      obtain ⟨m, rfl⟩ : ∃ m, k = m + l.length + 1 := ⟨k - l.length - 1, by omega⟩
      have g := rl0_f l false a u false jl jh (by omega) m l.length 0 (-1099511627776) (by omega)
      simp only [Int.natCast_zero, List.drop_zero] at g
      rw [g, rj1_f l false a u false _ jh hl m (by omega), q]
    · rw [if_neg c, if_pos (by omega), rj1_f l false a u false jl jh hl k (by omega), q]
end Go.Proofs.Ytinmgnlofininaa.Ev
