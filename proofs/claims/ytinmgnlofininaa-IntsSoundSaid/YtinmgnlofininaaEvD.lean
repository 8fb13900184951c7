/- Quotients of intervals (package ints) answer as the plain ones (Spec) say. -/
import Derived.Test.YtinmgnlofininaaEvM
set_option linter.unusedVariables false
set_option linter.unusedSimpArgs false
namespace Go.Proofs.Ytinmgnlofininaa.Ev
open Go.RowKit Go.Proofs.Ytinmgnlofininaa.PAll Go.Proofs.YtinmgnlofininaaW.PrintWords Go.Proofs.YtinmgnlofininaaW.PrintLast Go.Proofs.YtinmgnlofininaaW.PrintMore Go.Proofs.Ytinmgnlofininaa.Spec
theorem over_f (k : Nat) (hk : 1 < k) {x y : Int} (hx : -1099511627776 ≤ x ∧ x ≤ 1099511627776) (hy : -1099511627776 ≤ y ∧ y ≤ 1099511627776) (h0 : y ≠ 0) : ints_over.f k x y = some (ov x y) := by
  obtain ⟨k, rfl⟩ : ∃ m, k = m + 2 := ⟨k - 2, by omega⟩
  unfold ints_over.f ov
  simp only [far_f, Option.bind_some, ints_over.j0, ints_over.j1]
  by_cases c : x ≥ 1099511627776 ∨ x ≤ -1099511627776
  · by_cases d : y ≥ 1099511627776 ∨ y ≤ -1099511627776
    · simp only [c, d, decide_true, if_true]
      split <;> rfl
    · simp only [c, d, decide_true, decide_false, Bool.false_eq_true, if_true, if_false, Option.bind_some]
      split <;> rfl
  · simp only [c, decide_false, Bool.false_eq_true, if_false, Option.bind_some, decide_eq_true_eq]
    by_cases d : y ≥ 1099511627776 ∨ y ≤ -1099511627776
    · rw [if_pos d, tdiv_far (by omega) d]
    · rw [if_neg d, if_neg h0, wrap_id (by have := tdiv_bd (y := y) hx; omega) (by have := tdiv_bd (y := y) hx; omega)]
theorem rd_get (l : List Int) (i : Nat) (h : i < l.length) : rd l (i : Int) = l[i] := by
  unfold rd
  simp [List.getD_eq_getElem?_getD, h]
theorem over_end (M : Nat) (es : List Int) (lo hi x : Int) (xs : List Int) (n j i : Int) (h : ¬ i < (es.length : Int)) : ints_cornersOver.l1 (M + 1) es lo hi x xs n j es (es.length : Int) i = ints_cornersOver.l0 M es lo hi xs n (wrap64 (j + 1)) := by
  rw [ints_cornersOver.l1, if_neg h]
theorem over_step (M : Nat) (es : List Int) (lo hi x : Int) (xs : List Int) (n j : Int) (i : Nat) (h : i < es.length) (q : Int) (hq : ints_over.f M x es[i] = some q) (hl : es.length ≤ 1000) : ints_cornersOver.l1 (M + 1) es lo hi x xs n j es (es.length : Int) (i : Int) = ints_cornersOver.l1 M es (min lo q) (max hi q) x xs n j es (es.length : Int) ((i + 1 : Nat) : Int) := by
  have hw : wrap64 ((i : Int) + 1) = ((i + 1 : Nat) : Int) := by rw [wrap_id (by omega) (by omega)]; omega
  rw [ints_cornersOver.l1, if_pos (by omega), if_pos (by omega), if_pos (by omega), rd_get es i h, hq, Option.bind_some, hw, mx_eq, mn_eq]
theorem over_l1 (x : Int) (hx : -1099511627776 ≤ x ∧ x ≤ 1099511627776) (es : List Int) (he : ∀ y ∈ es, (-1099511627776 ≤ y ∧ y ≤ 1099511627776) ∧ y ≠ 0) (hl : es.length ≤ 1000) (xs : List Int) (n j : Int) (m : Nat) (hm : 1 < m) (d : Nat) :
    ∀ (i : Nat) (lo hi : Int), i + d = es.length → ints_cornersOver.l1 (m + d + 1) es lo hi x xs n j es (es.length : Int) (i : Int) = ints_cornersOver.l0 m es (((es.drop i).map (ov x)).foldl min lo) (((es.drop i).map (ov x)).foldl max hi) xs n (wrap64 (j + 1)) := by
  induction d with
  | zero =>
    intro i lo hi h
    have e : es.drop i = [] := List.drop_of_length_le (by omega)
    rw [e]
    exact over_end m es lo hi x xs n j i (by omega)
  | succ d ih =>
    intro i lo hi h
    have hi' : i < es.length := by omega
    have hm' := List.getElem_mem hi'
    have hq := over_f (m + d + 1) (by omega) hx (he _ hm').1 (he _ hm').2
    have e : es.drop i = es[i] :: es.drop (i + 1) := List.drop_eq_getElem_cons hi'
    have s := over_step (m + d + 1) es lo hi x xs n j i hi' _ hq hl
    have g := ih (i + 1) (min lo (ov x es[i])) (max hi (ov x es[i])) (by omega)
    rw [e, List.map_cons, List.foldl_cons, List.foldl_cons, ← g]
    exact s
theorem cornersOver_f (k : Nat) (e : Bool) {l u : Int} (hl : -1099511627776 ≤ l ∧ l ≤ 1099511627776) (hu : -1099511627776 ≤ u ∧ u ≤ 1099511627776) (es : List Int) (he : ∀ y ∈ es, (-1099511627776 ≤ y ∧ y ≤ 1099511627776) ∧ y ≠ 0) (hn : es.length ≤ 4) (hk : 20 ≤ k) :
    ints_cornersOver.f k e l u es = some (hull ((es.map (ov l) ++ es.map (ov u)).foldl min 1099511627776) ((es.map (ov l) ++ es.map (ov u)).foldl max (-1099511627776))) := by
  obtain ⟨m, rfl, hm⟩ : ∃ m, k = ((((m + 1) + es.length + 1) + 1) + es.length + 1) + 1 ∧ 1 < m := ⟨k - (2 * es.length + 5), by omega, by omega⟩
  have n2 : (([l, u] : List Int).length : Int) = 2 := rfl
  have r0 : rd [l, u] 0 = l := rfl
  have r1 : rd [l, u] 1 = u := rfl
  have w0 : wrap64 (0 + 1) = 1 := wrap_id (by omega) (by omega)
  have w1 : wrap64 (1 + 1) = 2 := wrap_id (by omega) (by omega)
  simp only [ints_cornersOver.f, Option.bind_some, n2]
  rw [ints_cornersOver.l0, if_pos (by omega), if_pos (by omega), if_pos (by rw [n2]; omega), r0]
  have h1 := over_l1 l hl es he (by omega) [l, u] 2 0 (((m + 1) + es.length + 1) + 1) (by omega) es.length 0 1099511627776 (-1099511627776) (by omega)
  simp only [Int.natCast_zero, List.drop_zero, w0] at h1
  rw [h1, ints_cornersOver.l0, if_pos (by omega), if_pos (by omega), if_pos (by rw [n2]; omega), r1]
  have h2 := over_l1 u hu es he (by omega) [l, u] 2 1 (m + 1) (by omega) es.length 0 ((es.map (ov l)).foldl min 1099511627776) ((es.map (ov l)).foldl max (-1099511627776)) (by omega)
  simp only [Int.natCast_zero, List.drop_zero, w1] at h2
  rw [h2, ints_cornersOver.l0, if_neg (by omega), hull_f]
  simp only [Option.bind_some, List.foldl_append]
theorem div_l0 (ys : List Int) (a0 : Bool) (l u : Int) (hl : -1099511627776 ≤ l ∧ l ≤ 1099511627776) (hu : -1099511627776 ≤ u ∧ u ≤ 1099511627776) (b0 : Bool) (l' u' : Int) (hb : no3 b0 l' u' = (b0, l', u')) (hy : ∀ y ∈ ys, -1099511627776 ≤ y ∧ y ≤ 1099511627776) (m : Nat) (hm : 20 ≤ m) (hyl : ys.length ≤ 1000000) (d : Nat) :
    ∀ (i : Nat) (acc : List Int), i + d = ys.length → acc.length + d ≤ 4 → (∀ y ∈ acc, (-1099511627776 ≤ y ∧ y ≤ 1099511627776) ∧ y ≠ 0) →
      ints_Div.l0 (m + d + 1) acc ys (ys.length : Int) (i : Int) a0 l u b0 l' u' = some (if acc ++ (ys.drop i).filter (fun y => decide (y ≠ 0) && has (b0, l', u') y) = [] then (true, 0, 0) else hull (((acc ++ (ys.drop i).filter (fun y => decide (y ≠ 0) && has (b0, l', u') y)).map (ov l) ++ (acc ++ (ys.drop i).filter (fun y => decide (y ≠ 0) && has (b0, l', u') y)).map (ov u)).foldl min 1099511627776) (((acc ++ (ys.drop i).filter (fun y => decide (y ≠ 0) && has (b0, l', u') y)).map (ov l) ++ (acc ++ (ys.drop i).filter (fun y => decide (y ≠ 0) && has (b0, l', u') y)).map (ov u)).foldl max (-1099511627776))) := by
  induction d with
  | zero =>
    intro i acc h hc ha
    rw [ints_Div.l0, if_neg (by omega), List.drop_of_length_le (by omega)]
    simp only [List.filter_nil, List.append_nil]
    by_cases c : acc = []
    · subst c; simp [ints_none.f]
    · rw [if_neg (by have := List.length_pos_iff.mpr c; omega), if_neg c, cornersOver_f _ _ hl hu acc ha (by omega) (by omega)]
      rfl
  | succ d ih =>
    intro i acc h hc ha
    have hi : i < ys.length := by omega
    have hw : wrap64 ((i : Int) + 1) = ((i + 1 : Nat) : Int) := by rw [wrap_id (by omega) (by omega)]; omega
    rw [show m + (d + 1) + 1 = (m + d + 1) + 1 by omega, ints_Div.l0, if_pos (by omega), if_pos (by omega), if_pos (by omega), rd_get ys i hi, hw, List.drop_eq_getElem_cons hi]
    have hg := hy _ (List.getElem_mem hi)
    generalize ys[i] = y at hg
    by_cases c : y = 0
    · rw [if_pos c, ih (i + 1) acc (by omega) (by omega) ha]
      simp [c]
    · rw [if_neg c, has_f, hb]
      simp only [Option.bind_some]
      by_cases p : has (b0, l', u') y = true
      · rw [if_pos p, if_pos (by omega), ih (i + 1) (acc ++ [y]) (by omega) (by simp; omega) (by
          intro z hz
          rcases List.mem_append.mp hz with hz | hz
          · exact ha z hz
          · obtain rfl : z = y := by simpa using hz
            exact ⟨hg, c⟩)]
        simp [c, p]
      · rw [if_neg p, ih (i + 1) acc (by omega) (by omega) ha]
        simp [c, p]
theorem div_f (k : Nat) (hk : 30 ≤ k) (e : Bool) (lo hi : Int) (e' : Bool) (lo' hi' : Int) : ints_Div.f k e lo hi e' lo' hi' = some (div (no3 e lo hi) (no3 e' lo' hi')) := by
  obtain ⟨m, rfl, hm⟩ : ∃ m, k = (m + 4 + 1) + 1 ∧ 20 ≤ m := ⟨k - 6, by omega, by omega⟩
  simp only [ints_Div.f, norm_f, Option.bind_some]
  rcases (no3_ok e lo hi).cases with h | ⟨l, u, h, h1, h2, h3, h4, h5⟩ <;> rw [h]
  · simp [ints_Div.j0, div, ints_none.f]
  · rcases (no3_ok e' lo' hi').cases with g | ⟨l', u', g, g1, g2, g3, g4, g5⟩ <;> rw [g]
    · simp [ints_Div.j0, div, ints_none.f]
    · simp only [Bool.false_eq_true, if_false, ints_Div.j0, Option.bind_some]
      have hd := div_l0 [l', u', -1, 1] false l u (by omega) (by omega) false l' u' (no3_false g1 g2 g3 g4 g5) (by simp; omega) m hm (by simp) 4 0 [] (by simp) (by simp) (by simp)
      simp only [Int.natCast_zero, List.drop_zero, List.nil_append] at hd
      rw [hd]
      simp only [div, ends, quos, Bool.false_eq_true, false_or]
end Go.Proofs.Ytinmgnlofininaa.Ev
