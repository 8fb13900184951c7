/- Quotients of intervals are monotone; and what is of both is of the answer: plain numbers. -/
import Derived.Test.YtinmgnlofininaaSpecM
set_option linter.unusedVariables false
set_option linter.unusedSimpArgs false
namespace Go.Proofs.Ytinmgnlofininaa.Spec
open Go.RowKit
/-! ### the least and the greatest of a list -/
theorem foldl_min (l : List Int) : ∀ a : Int, l.foldl min a ≤ a ∧ (∀ v ∈ l, l.foldl min a ≤ v) ∧ (l.foldl min a = a ∨ l.foldl min a ∈ l) := by
  induction l with
  | nil => intro a; simp
  | cons x l ih =>
    intro a
    obtain ⟨h1, h2, h3⟩ := ih (min a x)
    simp only [List.foldl_cons, List.mem_cons]
    refine ⟨by omega, ?_, ?_⟩
    · rintro v (rfl | hv)
      · omega
      · exact h2 v hv
    · rcases h3 with h3 | h3
      · by_cases c : a ≤ x
        · left; omega
        · right; left; omega
      · right; right; exact h3
theorem foldl_max (l : List Int) : ∀ a : Int, a ≤ l.foldl max a ∧ (∀ v ∈ l, v ≤ l.foldl max a) ∧ (l.foldl max a = a ∨ l.foldl max a ∈ l) := by
  induction l with
  | nil => intro a; simp
  | cons x l ih =>
    intro a
    obtain ⟨h1, h2, h3⟩ := ih (max a x)
    simp only [List.foldl_cons, List.mem_cons]
    refine ⟨by omega, ?_, ?_⟩
    · rintro v (rfl | hv)
      · omega
      · exact h2 v hv
    · rcases h3 with h3 | h3
      · by_cases c : x ≤ a
        · left; omega
        · right; left; omega
      · right; right; exact h3
/-- A quotient of ends. -/
def ov (x y : Int) : Int := if x ≥ 1099511627776 ∨ x ≤ -1099511627776 then (if (decide (x < 0) != decide (y < 0)) = true then -1099511627776 else 1099511627776) else Int.tdiv x y
/-- The ends by which is divided. -/
def ends (b : Iv) : List Int := [b.2.1, b.2.2, -1, 1].filter fun y => decide (y ≠ 0) && has b y
def quos (a b : Iv) : List Int := (ends b).map (ov a.2.1) ++ (ends b).map (ov a.2.2)
def div (a b : Iv) : Iv := if a.1 = true ∨ b.1 = true ∨ ends b = [] then (true, 0, 0) else hull ((quos a b).foldl min 1099511627776) ((quos a b).foldl max (-1099511627776))
theorem tdiv_bd {x y : Int} (hx : -1099511627776 ≤ x ∧ x ≤ 1099511627776) : -1099511627776 ≤ Int.tdiv x y ∧ Int.tdiv x y ≤ 1099511627776 := by
  have h := Int.natAbs_tdiv x y
  have : x.natAbs / y.natAbs ≤ x.natAbs := Nat.div_le_self _ _
  have e : x.natAbs.div y.natAbs = x.natAbs / y.natAbs := rfl
  omega
theorem tdiv_far {x y : Int} (hx : -1099511627776 < x ∧ x < 1099511627776) (hy : y ≥ 1099511627776 ∨ y ≤ -1099511627776) : Int.tdiv x y = 0 := by
  have h := Int.natAbs_tdiv x y
  have : x.natAbs / y.natAbs = 0 := Nat.div_eq_of_lt (by omega)
  have e : x.natAbs.div y.natAbs = x.natAbs / y.natAbs := rfl
  omega
theorem ov_bd (x y : Int) (hx : -1099511627776 ≤ x ∧ x ≤ 1099511627776) : -1099511627776 ≤ ov x y ∧ ov x y ≤ 1099511627776 := by
  unfold ov
  have := tdiv_bd (y := y) hx
  split
  · split <;> omega
  · exact this
theorem ov_neg (x y : Int) (hy : y ≠ 0) (hx : -1099511627776 ≤ x ∧ x ≤ 1099511627776) : ov x (-y) = -ov x y := by
  unfold ov
  split
  · rename_i c
    by_cases p : x < 0 <;> by_cases q : y < 0 <;> simp [p, q] <;> omega
  · exact Int.tdiv_neg x y
theorem ov_mono_x {x x' y : Int} (hy : 0 < y) (hx : -1099511627776 ≤ x) (hx' : x' ≤ 1099511627776) (h : x ≤ x') : ov x y ≤ ov x' y := by
  have b1 := ov_bd x y ⟨hx, by omega⟩
  have b2 := ov_bd x' y ⟨by omega, hx'⟩
  by_cases c : x ≤ -1099511627776
  · have : ov x y = -1099511627776 := by unfold ov; rw [if_pos (.inr c), if_pos (by simp; omega)]
    omega
  · by_cases d : x' ≥ 1099511627776
    · have : ov x' y = 1099511627776 := by unfold ov; rw [if_pos (.inl d), if_neg (by simp; omega)]
      omega
    · have e1 : ov x y = Int.tdiv x y := by unfold ov; rw [if_neg (by omega)]
      have e2 : ov x' y = Int.tdiv x' y := by unfold ov; rw [if_neg (by omega)]
      rw [e1, e2]
      exact Int.tdiv_le_tdiv hy h
theorem tdiv_anti {x y y' : Int} (hx : 0 ≤ x) (hy : 0 < y) (h : y ≤ y') : Int.tdiv x y' ≤ Int.tdiv x y := by
  obtain ⟨a, rfl⟩ := Int.eq_ofNat_of_zero_le hx
  obtain ⟨b, rfl⟩ := Int.eq_ofNat_of_zero_le (show 0 ≤ y by omega)
  obtain ⟨c, rfl⟩ := Int.eq_ofNat_of_zero_le (show 0 ≤ y' by omega)
  have := Nat.div_le_div_left (a := a) (show b ≤ c by omega) (show 0 < b by omega)
  show ((a / c : Nat) : Int) ≤ ((a / b : Nat) : Int)
  omega
/-- Between two divisors of one sign. -/
theorem ov_between {x e y f : Int} (hx : -1099511627776 ≤ x ∧ x ≤ 1099511627776) (he : 0 < e) (h1 : e ≤ y) (h2 : y ≤ f) : min (ov x e) (ov x f) ≤ ov x y ∧ ov x y ≤ max (ov x e) (ov x f) := by
  by_cases c : x ≥ 1099511627776 ∨ x ≤ -1099511627776
  · have s : ∀ z : Int, 0 < z → ov x z = ov x e := fun z hz => by
      unfold ov
      rw [if_pos c, if_pos c]
      simp only [show decide (z < 0) = decide (e < 0) by simp; omega]
    rw [s y (by omega), s f (by omega)]
    omega
  · have s : ∀ z : Int, ov x z = Int.tdiv x z := fun z => by unfold ov; rw [if_neg c]
    rw [s, s, s]
    by_cases p : 0 ≤ x
    · have := tdiv_anti p he h1
      have := tdiv_anti p (show 0 < y by omega) h2
      omega
    · have q : 0 ≤ -x := by omega
      have t : ∀ z : Int, Int.tdiv x z = -Int.tdiv (-x) z := fun z => by rw [Int.neg_tdiv, Int.neg_neg]
      have := tdiv_anti q he h1
      have := tdiv_anti q (show 0 < y by omega) h2
      rw [t e, t y, t f]
      omega
theorem mem_ends {l u y : Int} (h : -1099511627776 ≤ l) (h' : u ≤ 1099511627776) (hy : y = l ∨ y = u ∨ y = -1 ∨ y = 1) (h0 : y ≠ 0) (h1 : l ≤ y) (h2 : y ≤ u) : y ∈ ends (false, l, u) := by
  unfold ends
  rw [List.mem_filter]
  refine ⟨by simp; omega, ?_⟩
  simp only [has, Bool.and_eq_true, decide_eq_true_eq, Bool.not_false, true_and]
  omega
theorem ends_mem {l u y : Int} (h : -1099511627776 ≤ l) (hlu : l ≤ u) (h' : u ≤ 1099511627776) (g : l < 1099511627776) (g' : -1099511627776 < u) (hy : y ∈ ends (false, l, u)) : y ≠ 0 ∧ l ≤ y ∧ y ≤ u := by
  unfold ends at hy
  rw [List.mem_filter] at hy
  obtain ⟨h1, h2⟩ := hy
  simp only [List.mem_cons, List.not_mem_nil, or_false] at h1
  simp only [has, Bool.and_eq_true, decide_eq_true_eq, Bool.not_false, true_and] at h2
  omega
/-- Each quotient lies between two of the ends' quotients. -/
theorem quo_bd {lo hi l u x y : Int} (h1 : -1099511627776 ≤ lo) (h2 : hi ≤ 1099511627776) (g1 : -1099511627776 ≤ l) (g2 : u ≤ 1099511627776) (hx : lo ≤ x) (hx' : x ≤ hi) (hy : l ≤ y) (hy' : y ≤ u) (h0 : y ≠ 0) :
    (∃ q ∈ quos (false, lo, hi) (false, l, u), q ≤ ov x y) ∧ ∃ q ∈ quos (false, lo, hi) (false, l, u), ov x y ≤ q := by
  have mem : ∀ e, e ∈ ends (false, l, u) → ov lo e ∈ quos (false, lo, hi) (false, l, u) ∧ ov hi e ∈ quos (false, lo, hi) (false, l, u) := fun e he => by
    unfold quos
    exact ⟨List.mem_append.mpr (.inl (List.mem_map_of_mem he)), List.mem_append.mpr (.inr (List.mem_map_of_mem he))⟩
  by_cases p : 0 < y
  · have m1 : ∃ e, e ∈ ends (false, l, u) ∧ 0 < e ∧ e ≤ y := by
      by_cases c : 0 < l
      · exact ⟨l, mem_ends g1 g2 (by omega) (by omega) (by omega) (by omega), c, hy⟩
      · exact ⟨1, mem_ends g1 g2 (by omega) (by omega) (by omega) (by omega), by omega, by omega⟩
    obtain ⟨e, me, pe, le⟩ := m1
    have mu := mem_ends g1 g2 (y := u) (by omega) (by omega) (by omega) (by omega)
    have bl := ov_between (x := lo) ⟨h1, by omega⟩ pe le hy'
    have bh := ov_between (x := hi) ⟨by omega, h2⟩ pe le hy'
    have ml := ov_mono_x p h1 (by omega) hx
    have mh := ov_mono_x p (by omega) h2 hx'
    constructor
    · rcases (show min (ov lo e) (ov lo u) = ov lo e ∨ min (ov lo e) (ov lo u) = ov lo u by omega) with q | q
      · exact ⟨_, (mem e me).1, by omega⟩
      · exact ⟨_, (mem u mu).1, by omega⟩
    · rcases (show max (ov hi e) (ov hi u) = ov hi e ∨ max (ov hi e) (ov hi u) = ov hi u by omega) with q | q
      · exact ⟨_, (mem e me).2, by omega⟩
      · exact ⟨_, (mem u mu).2, by omega⟩
  · have m1 : ∃ e, e ∈ ends (false, l, u) ∧ e < 0 ∧ y ≤ e := by
      by_cases c : u < 0
      · exact ⟨u, mem_ends g1 g2 (by omega) (by omega) (by omega) (by omega), c, hy'⟩
      · exact ⟨-1, mem_ends g1 g2 (by omega) (by omega) (by omega) (by omega), by omega, by omega⟩
    obtain ⟨e, me, pe, le⟩ := m1
    have ml := mem_ends g1 g2 (y := l) (by omega) (by omega) (by omega) (by omega)
    have n : ∀ (z w : Int), -1099511627776 ≤ z ∧ z ≤ 1099511627776 → w ≠ 0 → ov z w = -ov z (-w) := fun z w hz hw => by rw [ov_neg z w hw hz, Int.neg_neg]
    have bl := ov_between (x := lo) (e := -e) (y := -y) (f := -l) ⟨h1, by omega⟩ (by omega) (by omega) (by omega)
    have bh := ov_between (x := hi) (e := -e) (y := -y) (f := -l) ⟨by omega, h2⟩ (by omega) (by omega) (by omega)
    have m2 := ov_mono_x (y := -y) (by omega) h1 (by omega) hx
    have m3 := ov_mono_x (y := -y) (by omega) (by omega) h2 hx'
    have n1 := n lo e ⟨h1, by omega⟩ (by omega)
    have n2 := n lo l ⟨h1, by omega⟩ (by omega)
    have n3 := n hi e ⟨by omega, h2⟩ (by omega)
    have n4 := n hi l ⟨by omega, h2⟩ (by omega)
    have n5 := n x y ⟨by omega, by omega⟩ h0
    constructor
    · rcases (show max (ov hi (-e)) (ov hi (-l)) = ov hi (-e) ∨ max (ov hi (-e)) (ov hi (-l)) = ov hi (-l) by omega) with q | q
      · exact ⟨_, (mem e me).2, by omega⟩
      · exact ⟨_, (mem l ml).2, by omega⟩
    · rcases (show min (ov lo (-e)) (ov lo (-l)) = ov lo (-e) ∨ min (ov lo (-e)) (ov lo (-l)) = ov lo (-l) by omega) with q | q
      · exact ⟨_, (mem e me).1, by omega⟩
      · exact ⟨_, (mem l ml).1, by omega⟩
theorem div_false {lo hi l u : Int} (h : ends (false, l, u) ≠ []) : div (false, lo, hi) (false, l, u) = hull ((quos (false, lo, hi) (false, l, u)).foldl min 1099511627776) ((quos (false, lo, hi) (false, l, u)).foldl max (-1099511627776)) := by
  unfold div
  rw [if_neg (by simp [h])]
theorem quo_mem {lo hi l u q : Int} (hq : q ∈ quos (false, lo, hi) (false, l, u)) : ∃ x y, (x = lo ∨ x = hi) ∧ y ∈ ends (false, l, u) ∧ q = ov x y := by
  unfold quos at hq
  rcases List.mem_append.mp hq with h | h
  · obtain ⟨y, hy, rfl⟩ := List.mem_map.mp h
    exact ⟨_, y, .inl rfl, hy, rfl⟩
  · obtain ⟨y, hy, rfl⟩ := List.mem_map.mp h
    exact ⟨_, y, .inr rfl, hy, rfl⟩
theorem div_mono {a b c d : Iv} (ha : Ok a) (hb : Ok b) (hc : Ok c) (hd : Ok d) (h : inside a c = true) (g : inside b d = true) : inside (div a b) (div c d) = true := by
  rcases inside_cases ha hc h with rfl | ⟨lo, hi, lo', hi', rfl, rfl, h1, h2, h3, h4, h5, h6, h7⟩
  · rfl
  · rcases inside_cases hb hd g with rfl | ⟨l, u, l', u', rfl, rfl, g1, g2, g3, g4, g5, g6, g7⟩
    · simp [div, inside]
    · by_cases c0 : ends (false, l, u) = []
      · simp [div, c0, inside]
      · obtain ⟨e, he⟩ := List.exists_mem_of_ne_nil _ c0
        have be := ends_mem (by omega) g4 (by omega) g6 g7 he
        have all : ∀ q ∈ quos (false, lo, hi) (false, l, u), (∃ q' ∈ quos (false, lo', hi') (false, l', u'), q' ≤ q) ∧ ∃ q' ∈ quos (false, lo', hi') (false, l', u'), q ≤ q' := fun q hq => by
          obtain ⟨x, y, hx, hy, rfl⟩ := quo_mem hq
          have by' := ends_mem (by omega) g4 (by omega) g6 g7 hy
          exact quo_bd h3 h5 g3 g5 (by omega) (by omega) (by omega) (by omega) by'.1
        have c1 : ends (false, l', u') ≠ [] := by
          intro hh
          have hq : ov lo e ∈ quos (false, lo, hi) (false, l, u) := List.mem_append.mpr (.inl (List.mem_map_of_mem he))
          obtain ⟨q, hq', _⟩ := (all _ hq).1
          simp [quos, hh] at hq'
        rw [div_false c0, div_false c1]
        apply hull_le
        · have m := foldl_min (quos (false, lo, hi) (false, l, u)) 1099511627776
          have m' := foldl_min (quos (false, lo', hi') (false, l', u')) 1099511627776
          rcases m.2.2 with q | q
          · rw [q]; exact m'.1
          · obtain ⟨q', hq', hle⟩ := (all _ q).1
            have := m'.2.1 q' hq'
            omega
        · have m := foldl_max (quos (false, lo, hi) (false, l, u)) (-1099511627776)
          have m' := foldl_max (quos (false, lo', hi') (false, l', u')) (-1099511627776)
          rcases m.2.2 with q | q
          · rw [q]; exact m'.1
          · obtain ⟨q', hq', hle⟩ := (all _ q).2
            have := m'.2.1 q' hq'
            omega
theorem div_ok {a b : Iv} (ha : Ok a) (hb : Ok b) : Ok (div a b) := by
  rcases ha.cases with rfl | ⟨lo, hi, rfl, h1, h2, h3, h4, h5⟩
  · simp [div, Ok]
  · rcases hb.cases with rfl | ⟨l, u, rfl, g1, g2, g3, g4, g5⟩
    · simp [div, Ok]
    · by_cases c0 : ends (false, l, u) = []
      · simp [div, c0, Ok]
      · obtain ⟨e, he⟩ := List.exists_mem_of_ne_nil _ c0
        have hq : ov lo e ∈ quos (false, lo, hi) (false, l, u) := List.mem_append.mpr (.inl (List.mem_map_of_mem he))
        rw [div_false c0]
        apply hull_ok'
        have := (foldl_min (quos (false, lo, hi) (false, l, u)) 1099511627776).2.1 _ hq
        have := (foldl_max (quos (false, lo, hi) (false, l, u)) (-1099511627776)).2.1 _ hq
        omega
end Go.Proofs.Ytinmgnlofininaa.Spec
