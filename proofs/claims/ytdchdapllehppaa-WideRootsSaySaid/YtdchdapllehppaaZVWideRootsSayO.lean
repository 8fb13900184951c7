/- What the claim needs of several texts, in one. -/
import Derived.Laws.BitsLemmas
import Derived.KernelRfl
import Derived.WalkKit
import Derived.ProofKit
import Derived.OpenShut
import Derived.ShutString
import Derived.ChangeOld
import Derived.Below
import Derived.SizedLaws
import Derived.Lib.SmallJoins
import Derived.Test.YtdchdapllehppaaZVW
import Derived.Test.YtdchdapllehppaaZVx0
import Derived.Test.YtdchdapllehppaaZVx1
import Derived.Test.YtdchdapllehppaaZVx2
import Derived.Test.YtdchdapllehppaaZVx3
import Derived.Test.YtdchdapllehppaaZVx4
import Derived.Test.YtdchdapllehppaaZVx5
import Derived.Test.YtdchdapllehppaaZVx6
import Derived.Test.YtdchdapllehppaaZVx7
import Derived.Test.YtdchdapllehppaaZVx8
import Derived.Test.YtdchdapllehppaaZVx9
import Derived.Test.YtdchdapllehppaaZVx12
import Derived.Test.YtdchdapllehppaaZVx13
import Derived.Test.YtdchdapllehppaaZVx14
import Derived.Test.YtdchdapllehppaaZVx15
import Derived.Test.YtdchdapllehppaaZVx19
import Derived.Test.YtdchdapllehppaaZVx21
namespace Go.Proofs.Ytdchdapllehppaa.Ev
end Go.Proofs.Ytdchdapllehppaa.Ev
namespace Go.Proofs.Ytdchdapllehppaa.PAll
end Go.Proofs.Ytdchdapllehppaa.PAll
namespace Go.Proofs.Ytdchdapllehppaa.Spec
end Go.Proofs.Ytdchdapllehppaa.Spec
section
set_option linter.unusedVariables false
set_option linter.unusedSimpArgs false
namespace Go.Proofs.Ytdchdapllehppaa.Spec
/-- The number that a row of bits is, the least one first. -/
def num : List Bool → Nat
  | [] => 0
  | b :: l => b.toNat + 2 * num l
theorem num_append (a b : List Bool) : num (a ++ b) = num a + 2 ^ a.length * num b := by
  induction a with
  | nil => simp [num]
  | cons x a ih => simp only [List.cons_append, num, ih, List.length_cons, Nat.pow_succ, Nat.mul_add]; rw [Nat.mul_comm (2 ^ a.length) 2, Nat.mul_assoc]; omega
theorem num_lt (a : List Bool) : num a < 2 ^ a.length := by
  induction a with
  | nil => simp [num]
  | cons x a ih => cases x <;> simp [num, Nat.pow_succ] <;> omega
theorem num_snoc (a : List Bool) (x : Bool) : num (a ++ [x]) = num a + 2 ^ a.length * x.toNat := by rw [num_append]; simp [num]
theorem num_split (l : List Bool) (n : Nat) : num l = num (l.take n) + 2 ^ (l.take n).length * num (l.drop n) := by
  rw [← num_append, List.take_append_drop]
theorem getD_beyond (l : List Bool) (i : Nat) (h : l.length ≤ i) : l.getD i false = false := by simp [List.getD_eq_getElem?_getD, h]
theorem num_take_succ (l : List Bool) (i : Nat) : num (l.take (i + 1)) = num (l.take i) + 2 ^ i * (l.getD i false).toNat := by
  by_cases h : i < l.length
  · rw [List.take_succ_eq_append_getElem h, num_snoc]
    simp [List.getD_eq_getElem?_getD, h, Nat.min_eq_left (Nat.le_of_lt h)]
  · rw [getD_beyond l i (by omega), List.take_of_length_le (by omega), List.take_of_length_le (by omega)]
    simp
theorem num_take_all (l : List Bool) (i : Nat) (h : l.length ≤ i) : num (l.take i) = num l := by rw [List.take_of_length_le h]
theorem num_replicate (n : Nat) : num (List.replicate n false) = 0 := by
  induction n with
  | zero => rfl
  | succ n ih => simp [List.replicate_succ, num, ih]
theorem add_digit (x y c : Bool) : x.toNat + y.toNat + c.toNat = ((x != y) != c).toNat + 2 * (if x = true then (if y = true then true else c) else (if y = true then c else false)).toNat := by
  cases x <;> cases y <;> cases c <;> rfl
theorem sub_digit (x y c : Bool) : x.toNat + 2 * (if x = true then (if y = true then c else false) else (if y = true then true else c)).toNat = ((x != y) != c).toNat + y.toNat + c.toNat := by
  cases x <;> cases y <;> cases c <;> rfl
theorem num_take_lt (a : List Bool) (i : Nat) : num (a.take i) < 2 ^ i :=
  Nat.lt_of_lt_of_le (num_lt _) (Nat.pow_le_pow_right (by omega) (by simp; omega))
theorem num_mod (l : List Bool) (n : Nat) : num (l.take n) = num l % 2 ^ n := by
  by_cases h : l.length ≤ n
  · rw [num_take_all l n h, Nat.mod_eq_of_lt (Nat.lt_of_lt_of_le (num_lt l) (Nat.pow_le_pow_right (by omega) h))]
  · have h2 := num_split l n
    rw [List.length_take, Nat.min_eq_left (by omega)] at h2
    rw [h2, Nat.add_mul_mod_self_left, Nat.mod_eq_of_lt (num_take_lt l n)]
theorem num_div (l : List Bool) (n : Nat) : num (l.drop n) = num l / 2 ^ n := by
  by_cases h : l.length ≤ n
  · rw [List.drop_eq_nil_of_le h, Nat.div_eq_of_lt (Nat.lt_of_lt_of_le (num_lt l) (Nat.pow_le_pow_right (by omega) h))]
    rfl
  · have h2 := num_split l n
    rw [List.length_take, Nat.min_eq_left (by omega)] at h2
    rw [h2, Nat.add_mul_div_left _ _ (Nat.two_pow_pos n), Nat.div_eq_of_lt (num_take_lt l n), Nat.zero_add]
theorem num_getD (l : List Bool) (n : Nat) : (l.getD n false).toNat = num l / 2 ^ n % 2 := by
  rw [← num_div]
  by_cases h : n < l.length
  · rw [List.drop_eq_getElem_cons h]
    simp only [num, List.getD_eq_getElem?_getD, List.getElem?_eq_getElem h, Option.getD_some]
    cases l[n] <;> simp <;> omega
  · rw [getD_beyond l n (by omega), List.drop_eq_nil_of_le (by omega)]
    rfl
end Go.Proofs.Ytdchdapllehppaa.Spec
end
section
set_option linter.unusedVariables false
set_option linter.unusedSimpArgs false
namespace Go.Proofs.Ytdchdapllehppaa.Ev
open Go.RowKit Go.Proofs.Ytdchdapllehppaa.PAll Go.Proofs.YtdchdapllehppaaW.PrintWords Go.Proofs.YtdchdapllehppaaW.PrintLast Go.Proofs.YtdchdapllehppaaW.PrintMore Go.Proofs.Ytdchdapllehppaa.Spec
theorem wrap_id {x : Int} (h : -9223372036854775808 ≤ x) (h' : x ≤ 9223372036854775807) : wrap64 x = x := by unfold wrap64; omega
theorem wrap_succ (i : Nat) (h : i ≤ 100000) : wrap64 ((i : Int) + 1) = ((i + 1 : Nat) : Int) := by rw [wrap_id (by omega) (by omega)]; omega
theorem mx_eq (a b : Int) : mx a b = max a b := by unfold mx; split <;> omega
theorem rdOf_eq (l : List Bool) (i : Nat) : rdOf false l (i : Int) = l.getD i false := by unfold rdOf; simp
theorem bit_f (l : List Bool) (i : Nat) : flyballref01_bit.f l (i : Int) = some (l.getD i false) := by
  unfold flyballref01_bit.f
  rw [if_pos (by omega), rdOf_eq]
  by_cases h : (i : Int) < (l.length : Int)
  · rw [if_pos h, if_pos (by omega)]
  · rw [if_neg h, getD_beyond l i (by omega)]
def carry (x y c : Bool) : Bool := if x = true then (if y = true then true else c) else (if y = true then c else false)
def addDigit (x y c : Bool) : Bool := (x != y) != c
theorem add_j1 (k : Nat) (a b out : List Bool) (c : Bool) (i : Nat) (hi : i ≤ 100000) (ho : out.length ≤ 100000) :
    flyballref01_Add.j1 (k + 1) a b out c (i : Int) true = flyballref01_Add.l0 k a b (out ++ [addDigit (a.getD i false) (b.getD i false) c]) (carry (a.getD i false) (b.getD i false) c) ((i + 1 : Nat) : Int) := by
  simp only [flyballref01_Add.j1, bit_f, Option.bind_some, wrap_succ i hi, if_true]
  rw [if_pos (by omega)]
  unfold carry addDigit
  cases a.getD i false <;> cases b.getD i false <;> cases c <;> simp
theorem add_l0 (a b : List Bool) (n : Nat) (hn : n = max a.length b.length) (hl : n ≤ 1000) (M : Nat) : ∀ (d i : Nat) (out : List Bool) (c : Bool), i + d = n → out.length = i → num out + 2 ^ i * c.toNat = num (a.take i) + num (b.take i) →
    ∃ r, flyballref01_Add.l0 (M + 2 * d + 4) a b out c (i : Int) = some r ∧ num r = num a + num b ∧ (r.length = n ∨ r.length = n + 1)
  | 0, i, out, c, e, ho, h => by
    rw [num_take_all a i (by omega), num_take_all b i (by omega)] at h
    rw [show M + 2 * 0 + 4 = (M + 3) + 1 by omega, flyballref01_Add.l0, if_neg (by omega), if_neg (by omega)]
    cases c with
    | false => exact ⟨out, by simp [flyballref01_Add.j1], by simpa using h, .inl (by omega)⟩
    | true =>
      rw [show M + 3 = (M + 2) + 1 by omega, add_j1 _ _ _ _ _ _ (by omega) (by omega), getD_beyond a i (by omega), getD_beyond b i (by omega)]
      simp only [carry, addDigit, Bool.false_eq_true, if_false]
      rw [show M + 2 = (M + 1) + 1 by omega, flyballref01_Add.l0, if_neg (by omega), if_neg (by omega)]
      refine ⟨_, by rw [flyballref01_Add.j1, if_neg (by decide)], ?_, .inr (by simp; omega)⟩
      rw [num_snoc, ho]
      simpa using h
  | d + 1, i, out, c, e, ho, h => by
    have st : flyballref01_Add.l0 (M + 2 * (d + 1) + 4) a b out c (i : Int) = flyballref01_Add.j1 (M + 2 * d + 4 + 1) a b out c (i : Int) true := by
      rw [show M + 2 * (d + 1) + 4 = (M + 2 * d + 4 + 1) + 1 by omega, flyballref01_Add.l0]
      by_cases g : (i : Int) < (a.length : Int)
      · rw [if_pos g]
      · rw [if_neg g, if_pos (by omega)]
    rw [st, add_j1 _ _ _ _ _ _ (by omega) (by omega)]
    refine add_l0 a b n hn hl M d (i + 1) _ _ (by omega) (by simp; omega) ?_
    rw [num_snoc, num_take_succ, num_take_succ, ho, Nat.pow_succ, Nat.mul_assoc]
    have dg := add_digit (a.getD i false) (b.getD i false) c
    have e1 : num out + 2 ^ i * (addDigit (a.getD i false) (b.getD i false) c).toNat + 2 ^ i * (2 * (carry (a.getD i false) (b.getD i false) c).toNat) = num out + 2 ^ i * ((a.getD i false).toNat + (b.getD i false).toNat + c.toNat) := by
      rw [dg, Nat.mul_add]; unfold carry addDigit; omega
    rw [e1, Nat.mul_add, Nat.mul_add]
    omega
/-- A sum. -/
theorem add_f (k : Nat) (a b : List Bool) (n : Nat) (hn : n = max a.length b.length) (hl : n ≤ 1000) (hk : 2 * n + 4 ≤ k) : ∃ r, flyballref01_Add.f k a b = some r ∧ num r = num a + num b ∧ (r.length = n ∨ r.length = n + 1) := by
  obtain ⟨M, rfl⟩ : ∃ M, k = M + 2 * n + 4 := ⟨k - (2 * n + 4), by omega⟩
  exact add_l0 a b n hn hl M n 0 [] false (by omega) rfl (by simp [num])
def borrow (x y c : Bool) : Bool := if x = true then (if y = true then c else false) else (if y = true then true else c)
theorem sub_l0 (a b : List Bool) (n : Nat) (hl : n ≤ 1000) (M : Nat) : ∀ (d i : Nat) (out : List Bool) (c : Bool), i + d = n → out.length = i → num out + num (b.take i) = num (a.take i) + 2 ^ i * c.toNat →
    ∃ r e, flyballref01_Sub.l0 (M + d + 1) a b (n : Int) out c (i : Int) = some (r, e) ∧ r.length = n ∧ num r + num (b.take n) = num (a.take n) + 2 ^ n * e.toNat
  | 0, i, out, c, e, ho, h => by
    rw [flyballref01_Sub.l0, if_neg (by omega)]
    obtain rfl : i = n := by omega
    exact ⟨_, _, rfl, ho, h⟩
  | d + 1, i, out, c, e, ho, h => by
    rw [show M + (d + 1) + 1 = (M + d + 1) + 1 by omega, flyballref01_Sub.l0, if_pos (by omega)]
    simp only [bit_f, Option.bind_some, wrap_succ i (by omega)]
    rw [if_pos (by omega)]
    have st : ∀ x y : Bool, (if x = true then (if y = true then (flyballref01_Sub.l0 (M + d + 1) a b (n : Int) (out ++ [((x != y) != c)]) c ((i + 1 : Nat) : Int)) else (flyballref01_Sub.l0 (M + d + 1) a b (n : Int) (out ++ [((x != y) != c)]) false ((i + 1 : Nat) : Int))) else (if y = true then (flyballref01_Sub.l0 (M + d + 1) a b (n : Int) (out ++ [((x != y) != c)]) true ((i + 1 : Nat) : Int)) else (if c = true then (flyballref01_Sub.l0 (M + d + 1) a b (n : Int) (out ++ [((x != y) != c)]) true ((i + 1 : Nat) : Int)) else (flyballref01_Sub.l0 (M + d + 1) a b (n : Int) (out ++ [((x != y) != c)]) false ((i + 1 : Nat) : Int))))) =
        flyballref01_Sub.l0 (M + d + 1) a b (n : Int) (out ++ [addDigit x y c]) (borrow x y c) ((i + 1 : Nat) : Int) := by
      intro x y; unfold borrow addDigit
      cases x <;> cases y <;> cases c <;> simp
    rw [st]
    refine sub_l0 a b n hl M d (i + 1) _ _ (by omega) (by simp; omega) ?_
    rw [num_snoc, num_take_succ, num_take_succ, ho, Nat.pow_succ, Nat.mul_assoc]
    have dg := sub_digit (a.getD i false) (b.getD i false) c
    have e1 : 2 ^ i * (a.getD i false).toNat + 2 ^ i * (2 * (borrow (a.getD i false) (b.getD i false) c).toNat) = 2 ^ i * (addDigit (a.getD i false) (b.getD i false) c).toNat + 2 ^ i * (b.getD i false).toNat + 2 ^ i * c.toNat := by
      rw [← Nat.mul_add, ← Nat.mul_add, ← Nat.mul_add]; unfold borrow addDigit; rw [dg]
    omega
/-- A difference. -/
theorem sub_f (k : Nat) (a b : List Bool) (n : Nat) (hl : n ≤ 1000) (hk : n + 1 ≤ k) : ∃ r e, flyballref01_Sub.f k a b (n : Int) = some (r, e) ∧ r.length = n ∧ num r + num (b.take n) = num (a.take n) + 2 ^ n * e.toNat := by
  obtain ⟨M, rfl⟩ : ∃ M, k = M + n + 1 := ⟨k - (n + 1), by omega⟩
  exact sub_l0 a b n hl M n 0 [] false (by omega) rfl (by simp [num])
def cmpN (a b : Nat) : Int := if a < b then -1 else if b < a then 1 else 0
theorem cmp_l0 (a b : List Bool) (M : Nat) : ∀ (i : Nat), i ≤ 1000 → num (a.drop i) = num (b.drop i) → flyballref01_Cmp.l0 (M + i + 1) a b ((i : Int) - 1) = some (cmpN (num (a.take i)) (num (b.take i)))
  | 0, _, h => by rw [flyballref01_Cmp.l0, if_neg (by omega)]; rfl
  | i + 1, hi, h => by
    rw [show M + (i + 1) + 1 = (M + i + 1) + 1 by omega, flyballref01_Cmp.l0, if_pos (by omega)]
    rw [show ((i + 1 : Nat) : Int) - 1 = (i : Int) by omega]
    simp only [bit_f, Option.bind_some]
    rw [num_take_succ, num_take_succ]
    have la := num_take_lt a i
    have lb := num_take_lt b i
    by_cases e : a.getD i false = b.getD i false
    · rw [e]
      rw [if_neg (by simp), wrap_id (by omega) (by omega), cmp_l0 a b M i (by omega) ?_]
      · unfold cmpN; simp only [Nat.add_lt_add_iff_right]
      · have da : num (a.drop i) = (a.getD i false).toNat + 2 * num (a.drop (i + 1)) := by
          rw [num_div, num_div, num_getD, Nat.pow_succ, ← Nat.div_div_eq_div_mul]; omega
        have db : num (b.drop i) = (b.getD i false).toNat + 2 * num (b.drop (i + 1)) := by
          rw [num_div, num_div, num_getD, Nat.pow_succ, ← Nat.div_div_eq_div_mul]; omega
        rw [da, db, e, h]
    · rw [if_pos (by simpa using e)]
      cases ha : a.getD i false <;> cases hb : b.getD i false <;> simp_all [cmpN] <;> omega
/-- How two compare. -/
theorem cmp_f (k : Nat) (a b : List Bool) (ha : a.length ≤ 1000) (hb : b.length ≤ 1000) (hk : 1002 ≤ k) : flyballref01_Cmp.f k a b = some (cmpN (num a) (num b)) := by
  unfold flyballref01_Cmp.f
  rw [mx_eq, wrap_id (by omega) (by omega)]
  obtain ⟨n, hn⟩ : ∃ n : Nat, n = max a.length b.length := ⟨_, rfl⟩
  rw [show max (a.length : Int) (b.length : Int) = (n : Int) by omega]
  obtain ⟨M, rfl⟩ : ∃ M, k = M + n + 1 := ⟨k - (n + 1), by omega⟩
  rw [cmp_l0 a b M n (by omega) (by rw [List.drop_eq_nil_of_le (by omega), List.drop_eq_nil_of_le (by omega)]), num_take_all a n (by omega), num_take_all b n (by omega)]
theorem shl_l0 (a : List Bool) (n : Nat) (hn : n ≤ 1000) (ha : a.length ≤ 1000) (M : Nat) : ∀ (d i : Nat), i + d = n → flyballref01_Shl.l0 (M + d + 1) a (n : Int) (List.replicate i false) (i : Int) = some (List.replicate n false ++ a)
  | 0, i, e => by
    obtain rfl : i = n := by omega
    rw [flyballref01_Shl.l0, if_neg (by omega), if_pos (by simp; omega)]
  | d + 1, i, e => by
    rw [show M + (d + 1) + 1 = (M + d + 1) + 1 by omega, flyballref01_Shl.l0, if_pos (by omega), if_pos (by simp; omega), wrap_succ i (by omega), ← List.replicate_succ']
    exact shl_l0 a n hn ha M d (i + 1) (by omega)
/-- So many noughts ahead. -/
theorem shl_f (k : Nat) (a : List Bool) (n : Nat) (hn : n ≤ 1000) (ha : a.length ≤ 1000) (hk : n + 1 ≤ k) : flyballref01_Shl.f k a (n : Int) = some (List.replicate n false ++ a) := by
  obtain ⟨M, rfl⟩ : ∃ M, k = M + n + 1 := ⟨k - (n + 1), by omega⟩
  exact shl_l0 a n hn ha M n 0 (by omega)
theorem num_shl (a : List Bool) (n : Nat) : num (List.replicate n false ++ a) = 2 ^ n * num a := by rw [num_append, num_replicate, List.length_replicate, Nat.zero_add]
theorem mul_l0 (a b : List Bool) (ha : a.length ≤ 200) (hb : b.length ≤ 200) (M : Nat) (hM : 2000 ≤ M) : ∀ (d i : Nat) (out : List Bool), i + d = b.length → out.length ≤ a.length + 2 * i → num out = num a * num (b.take i) →
    ∃ r, flyballref01_Mul.l0 (M + d + 1) a b out (i : Int) = some r ∧ num r = num a * num b ∧ r.length ≤ a.length + 2 * b.length
  | 0, i, out, e, ho, h => by
    rw [flyballref01_Mul.l0, if_neg (by omega)]
    rw [num_take_all b i (by omega)] at h
    exact ⟨_, rfl, h, by omega⟩
  | d + 1, i, out, e, ho, h => by
    rw [show M + (d + 1) + 1 = (M + d + 1) + 1 by omega, flyballref01_Mul.l0, if_pos (by omega), if_pos (by omega), rdOf_eq, wrap_succ i (by omega)]
    have ts := num_take_succ b i
    by_cases g : b.getD i false = true
    · rw [if_pos g, shl_f _ a i (by omega) (by omega) (by omega), Option.bind_some]
      obtain ⟨r, h1, h2, h3⟩ := add_f (M + d + 1) out (List.replicate i false ++ a) _ rfl (by simp; omega) (by simp; omega)
      rw [h1, Option.bind_some]
      refine mul_l0 a b ha hb M hM d (i + 1) r (by omega) (by simp at h3; omega) ?_
      rw [h2, num_shl, h, ts, g, Nat.mul_add]
      simp [Nat.mul_comm]
    · rw [if_neg g]
      refine mul_l0 a b ha hb M hM d (i + 1) out (by omega) (by omega) ?_
      rw [ts, h]
      simp at g
      simp [g]
/-- A product. -/
theorem mul_f (k : Nat) (a b : List Bool) (ha : a.length ≤ 200) (hb : b.length ≤ 200) (hk : 3000 ≤ k) : ∃ r, flyballref01_Mul.f k a b = some r ∧ num r = num a * num b ∧ r.length ≤ a.length + 2 * b.length := by
  obtain ⟨M, rfl⟩ : ∃ M, k = M + b.length + 1 := ⟨k - (b.length + 1), by omega⟩
  exact mul_l0 a b ha hb M (by omega) b.length 0 [] (by omega) (by simp) (by simp [num])
end Go.Proofs.Ytdchdapllehppaa.Ev
end
section
set_option linter.unusedVariables false
set_option linter.unusedSimpArgs false
namespace Go.Proofs.Ytdchdapllehppaa.Ev
open Go.RowKit Go.Proofs.Ytdchdapllehppaa.PAll Go.Proofs.YtdchdapllehppaaW.PrintWords Go.Proofs.YtdchdapllehppaaW.PrintLast Go.Proofs.YtdchdapllehppaaW.PrintMore Go.Proofs.Ytdchdapllehppaa.Spec
theorem wrap_u64 (n : Int) : IntKind.u64.wrap n = n % 18446744073709551616 := by simp [IntKind.wrap, IntKind.bits, IntKind.signed]
theorem wrapN (n : Nat) : IntKind.u64.wrap (n : Int) = ((n % 18446744073709551616 : Nat) : Int) := by rw [wrap_u64]; omega
theorem wrapL (n : Nat) (h : n < 18446744073709551616) : IntKind.u64.wrap (n : Int) = (n : Int) := by rw [wrapN, Nat.mod_eq_of_lt h]
theorem shr_nat (x n : Nat) (h : n ≤ 64) : shr .u64 (x : Int) (n : Int) = ((x / 2 ^ n : Nat) : Int) := by
  unfold shr
  rw [show min (n : Int).toNat (IntKind.bits .u64) = n by simp [IntKind.bits]; omega]
  simp
theorem and_nat (a b : Nat) (ha : a < 18446744073709551616) (hb : b < 18446744073709551616) : Go.bits .and .u64 (a : Int) (b : Int) = ((a &&& b : Nat) : Int) :=
  (Go.bits_nat .u64 64 (by decide) (fun n h h' => by rw [wrap_u64]; omega) a b ha hb).1
theorem or_nat (a b : Nat) (ha : a < 18446744073709551616) (hb : b < 18446744073709551616) : Go.bits .or .u64 (a : Int) (b : Int) = ((a ||| b : Nat) : Int) :=
  (Go.bits_nat .u64 64 (by decide) (fun n h h' => by rw [wrap_u64]; omega) a b ha hb).2
theorem and_one (a : Nat) (ha : a < 18446744073709551616) : Go.bits .and .u64 (a : Int) 1 = ((a % 2 : Nat) : Int) := by
  have := and_nat a 1 ha (by omega)
  rw [Nat.and_one_is_mod] at this
  exact this
theorem and_mask (a : Nat) (ha : a < 18446744073709551616) : Go.bits .and .u64 (a : Int) 4294967295 = ((a % 4294967296 : Nat) : Int) := by
  have := and_nat a 4294967295 ha (by omega)
  rw [show (4294967295 : Nat) = 2 ^ 32 - 1 by decide, Nat.and_two_pow_sub_one_eq_mod] at this
  exact this
theorem or_plus (i q b : Nat) (hb : b < 2 ^ i) (h : 2 ^ i * q < 18446744073709551616) (hb' : b < 18446744073709551616) : Go.bits .or .u64 ((2 ^ i * q : Nat) : Int) (b : Int) = ((2 ^ i * q + b : Nat) : Int) := by
  rw [or_nat _ _ h hb', Nat.two_pow_add_eq_or_of_lt hb]
theorem of_l1 (xs : List Int) (j : Nat) (hj : j < xs.length) (hx : xs.length ≤ 3) (x : Nat) (hxj : rd xs (j : Int) = (x : Int)) (hx64 : x < 18446744073709551616) (M : Nat) : ∀ (d i : Nat) (out : List Bool), i + d = 64 → out.length = 64 * j + i →
    ∃ t, flyballref01_Of.l1 (M + d + 1) xs out (j : Int) (i : Int) = flyballref01_Of.l0 M xs (out ++ t) ((j + 1 : Nat) : Int) ∧ t.length = d ∧ num t = x / 2 ^ i
  | 0, i, out, e, ho => by
    obtain rfl : i = 64 := by omega
    rw [flyballref01_Of.l1, if_neg (by omega), wrap_succ j (by omega)]
    exact ⟨[], by rw [List.append_nil], rfl, by rw [Nat.div_eq_of_lt (by omega)]; rfl⟩
  | d + 1, i, out, e, ho => by
    rw [show M + (d + 1) + 1 = (M + d + 1) + 1 by omega, flyballref01_Of.l1, if_pos (by omega), if_pos (by omega), if_pos (by omega), wrapL i (by omega), if_pos (by omega), if_pos (by omega), wrap_succ i (by omega), hxj, shr_nat x i (by omega), and_one _ (Nat.lt_of_le_of_lt (Nat.div_le_self _ _) hx64)]
    obtain ⟨t, h1, h2, h3⟩ := of_l1 xs j hj hx x hxj hx64 M d (i + 1) (out ++ [(((x / 2 ^ i % 2 : Nat) : Int) == 1)]) (by omega) (by simp; omega)
    refine ⟨(((x / 2 ^ i % 2 : Nat) : Int) == 1) :: t, by rw [h1]; simp, by simp [h2], ?_⟩
    rw [num, h3, Nat.pow_succ, ← Nat.div_div_eq_div_mul]
    have : ((((x / 2 ^ i % 2 : Nat) : Int) == 1)).toNat = x / 2 ^ i % 2 := by
      rcases Nat.mod_two_eq_zero_or_one (x / 2 ^ i) with h | h <;> rw [h] <;> rfl
    omega
theorem of_l0_end (xs : List Int) (out : List Bool) (M : Nat) : flyballref01_Of.l0 (M + 1) xs out (xs.length : Int) = some out := by rw [flyballref01_Of.l0, if_neg (by omega)]
theorem of_l0_step (xs : List Int) (j : Nat) (hj : j < xs.length) (hx : xs.length ≤ 3) (x : Nat) (hxj : rd xs (j : Int) = (x : Int)) (hx64 : x < 18446744073709551616) (M : Nat) (out : List Bool) (ho : out.length = 64 * j) :
    ∃ t, flyballref01_Of.l0 (M + 66) xs out (j : Int) = flyballref01_Of.l0 M xs (out ++ t) ((j + 1 : Nat) : Int) ∧ t.length = 64 ∧ num t = x := by
  obtain ⟨t, h1, h2, h3⟩ := of_l1 xs j hj hx x hxj hx64 M 64 0 out (by omega) (by omega)
  refine ⟨t, ?_, h2, by simpa using h3⟩
  rw [show M + 66 = (M + 64 + 1) + 1 by omega, flyballref01_Of.l0, if_pos (by omega)]
  exact h1
theorem of1_f (k : Nat) (a : Nat) (ha : a < 18446744073709551616) (hk : 300 ≤ k) : ∃ r, flyballref01_Of.f k ([(a : Int)] : List Int) = some r ∧ num r = a ∧ r.length = 64 := by
  obtain ⟨M, rfl⟩ : ∃ M, k = M + 1 + 66 := ⟨k - 67, by omega⟩
  unfold flyballref01_Of.f
  obtain ⟨t, h1, h2, h3⟩ := of_l0_step [(a : Int)] 0 (by simp) (by simp) a (by rfl) ha (M + 1) [] (by simp)
  rw [show ((0 : Int)) = ((0 : Nat) : Int) by rfl, h1]
  exact ⟨t, of_l0_end [(a : Int)] t M, h3, h2⟩
theorem of2_f (k : Nat) (a b : Nat) (ha : a < 18446744073709551616) (hb : b < 18446744073709551616) (hk : 300 ≤ k) : ∃ r, flyballref01_Of.f k ([(a : Int), (b : Int)] : List Int) = some r ∧ num r = b * 18446744073709551616 + a ∧ r.length = 128 := by
  obtain ⟨M, rfl⟩ : ∃ M, k = M + 1 + 66 + 66 := ⟨k - 133, by omega⟩
  unfold flyballref01_Of.f
  obtain ⟨t, h1, h2, h3⟩ := of_l0_step [(a : Int), (b : Int)] 0 (by simp) (by simp) a (by rfl) ha (M + 1 + 66) [] (by simp)
  obtain ⟨s, g1, g2, g3⟩ := of_l0_step [(a : Int), (b : Int)] 1 (by simp) (by simp) b (by rfl) hb (M + 1) ([] ++ t) (by simp [h2])
  rw [show ((0 : Int)) = ((0 : Nat) : Int) by rfl, h1, g1]
  refine ⟨t ++ s, of_l0_end [(a : Int), (b : Int)] _ M, ?_, by simp [h2, g2]⟩
  rw [num_append, h2, h3, g3]
  omega
end Go.Proofs.Ytdchdapllehppaa.Ev
end
section
set_option linter.unusedVariables false
set_option linter.unusedSimpArgs false
namespace Go.Proofs.Ytdchdapllehppaa.Ev
open Go.RowKit Go.Proofs.Ytdchdapllehppaa.PAll Go.Proofs.YtdchdapllehppaaW.PrintWords Go.Proofs.YtdchdapllehppaaW.PrintLast Go.Proofs.YtdchdapllehppaaW.PrintMore Go.Proofs.Ytdchdapllehppaa.Spec
theorem and_mask' (a : Nat) : Go.bits .and .u64 ((a % 18446744073709551616 : Nat) : Int) 4294967295 = ((a % 4294967296 : Nat) : Int) := by rw [and_mask _ (by omega)]; omega
theorem half (a : Nat) : (a : Int) / 4294967296 = ((a / 4294967296 : Nat) : Int) := by omega
theorem mul64_plain (p q r s : Nat) (hp : p ≤ 18446744065119617025) (hq : q ≤ 18446744065119617025) (hr : r ≤ 18446744065119617025) (hs : s ≤ 18446744065119617025) :
    (((p % 18446744073709551616 + ((q % 18446744073709551616 + r % 18446744073709551616 / 4294967296) % 18446744073709551616 / 4294967296)) % 18446744073709551616 + (((q % 18446744073709551616 + r % 18446744073709551616 / 4294967296) % 4294967296 + s % 18446744073709551616) % 18446744073709551616 / 4294967296)) % 18446744073709551616) =
      (p * 18446744073709551616 + (q + s) * 4294967296 + r) / 18446744073709551616 := by omega
theorem half_le (a b : Nat) (ha : a < 4294967296) (hb : b < 4294967296) : a * b ≤ 18446744065119617025 := Nat.mul_le_mul (show a ≤ 4294967295 by omega) (show b ≤ 4294967295 by omega)
theorem split_mul (a b : Nat) : a * b = (a / 4294967296) * (b / 4294967296) * 18446744073709551616 + ((a / 4294967296) * (b % 4294967296) + (a % 4294967296) * (b / 4294967296)) * 4294967296 + (a % 4294967296) * (b % 4294967296) := by
  have ea := Nat.div_add_mod a 4294967296
  have eb := Nat.div_add_mod b 4294967296
  generalize a / 4294967296 = a1 at *
  generalize a % 4294967296 = a0 at *
  generalize b / 4294967296 = b1 at *
  generalize b % 4294967296 = b0 at *
  subst ea eb
  rw [Nat.mul_add, Nat.add_mul, Nat.add_mul]
  have e1 : 4294967296 * a1 * (4294967296 * b1) = a1 * b1 * 18446744073709551616 := by
    rw [Nat.mul_mul_mul_comm, Nat.mul_comm]
  have e2 : a0 * (4294967296 * b1) = 4294967296 * (a0 * b1) := Nat.mul_left_comm _ _ _
  have e3 : 4294967296 * a1 * b0 = 4294967296 * (a1 * b0) := Nat.mul_assoc _ _ _
  rw [e1, e2, e3]
  omega
/-- A product, whole. -/
theorem mul64_f (a b : Nat) (ha : a < 18446744073709551616) (hb : b < 18446744073709551616) : bits_Mul64.f (a : Int) (b : Int) = some (((a * b / 18446744073709551616 : Nat) : Int), ((a * b % 18446744073709551616 : Nat) : Int)) := by
  unfold bits_Mul64.f
  simp only [and_mask a ha, and_mask b hb, half, ← Int.natCast_mul, ← Int.natCast_add, wrapN, and_mask']
  have h := mul64_plain ((a / 4294967296) * (b / 4294967296)) ((a / 4294967296) * (b % 4294967296)) ((a % 4294967296) * (b % 4294967296)) ((a % 4294967296) * (b / 4294967296))
    (half_le _ _ (by omega) (by omega)) (half_le _ _ (by omega) (by omega)) (half_le _ _ (by omega) (by omega)) (half_le _ _ (by omega) (by omega))
  rw [h, ← split_mul]
theorem wmul_f (a b : Nat) (ha : a < 18446744073709551616) (hb : b < 18446744073709551616) : wide_Mul.f (a : Int) (b : Int) = some (((a * b / 18446744073709551616 : Nat) : Int), ((a * b % 18446744073709551616 : Nat) : Int)) := by
  unfold wide_Mul.f
  rw [mul64_f a b ha hb]; rfl
theorem sub64_f (a b c : Nat) (hb : b < 18446744073709551616) (hc : c ≤ 1) : bits_Sub64.f (a : Int) (b : Int) (c : Int) = some ((((a + 18446744073709551616 - b - c) % 18446744073709551616 : Nat) : Int), (((if a < b + c then 1 else 0) : Nat) : Int)) := by
  unfold bits_Sub64.f
  rw [if_pos (by omega)]
  by_cases h : a < b + c
  · rw [if_pos h, if_pos (by omega)]; congr 2; omega
  · rw [if_neg h, if_neg (by omega)]; congr 2; omega
end Go.Proofs.Ytdchdapllehppaa.Ev
end
section
set_option linter.unusedVariables false
set_option linter.unusedSimpArgs false
namespace Go.Proofs.Ytdchdapllehppaa.Ev
open Go.RowKit Go.Proofs.Ytdchdapllehppaa.PAll Go.Proofs.YtdchdapllehppaaW.PrintWords Go.Proofs.YtdchdapllehppaaW.PrintLast Go.Proofs.YtdchdapllehppaaW.PrintMore Go.Proofs.Ytdchdapllehppaa.Spec
/-- A digit of a quotient. -/
def dg (u w v1 v0 : Nat) : Nat := (u * 4294967296 + w) / (v1 * 4294967296 + v0)
theorem plain_lt (a b rh w u l : Nat) (h : a + rh = u) (g : rh * l + w < b) : u * l + w < a * l + b := by
  subst h
  rw [Nat.add_mul]
  omega
/-- A digit being guessed: d = v1 * 2^32 + v0 (its top bit is one), u < d, w a digit; q the guess, at least the quotient of u * 2^32 + w; rh = u - q * v1. -/
structure Guess (v1 v0 u w q rh : Nat) : Prop where
  v1b : 2147483648 ≤ v1
  v1t : v1 < 4294967296
  v0t : v0 < 4294967296
  wt : w < 4294967296
  ud : u < v1 * 4294967296 + v0
  eq : q * v1 + rh = u
  ge : dg u w v1 v0 ≤ q
theorem Guess.mulD (v1 v0 q : Nat) : q * (v1 * 4294967296 + v0) = q * v1 * 4294967296 + q * v0 := by rw [Nat.mul_add, Nat.mul_assoc]
/-- The guess is too great, seen at the second digit. -/
theorem Guess.over {v1 v0 u w q rh : Nat} (h : Guess v1 v0 u w q rh) (g : rh * 4294967296 + w < q * v0) : dg u w v1 v0 + 1 ≤ q := by
  have := h.v1b; have e := h.eq
  have : dg u w v1 v0 < q := by
    refine (Nat.div_lt_iff_lt_mul (k := v1 * 4294967296 + v0) (by omega)).2 ?_
    rw [Guess.mulD]
    exact plain_lt _ _ _ _ _ _ e g
  omega
/-- The guess is not too great. -/
theorem Guess.right {v1 v0 u w q rh : Nat} (h : Guess v1 v0 u w q rh) (g : q * v0 ≤ rh * 4294967296 + w) : dg u w v1 v0 = q := by
  have := h.v1b; have e := h.eq
  have g1 := h.ge
  have : q ≤ dg u w v1 v0 := by
    refine (Nat.le_div_iff_mul_le (k := v1 * 4294967296 + v0) (by omega)).2 ?_
    rw [Guess.mulD]
    omega
  omega
theorem Guess.first (v1 v0 u w : Nat) (b : 2147483648 ≤ v1) (t : v1 < 4294967296) (t0 : v0 < 4294967296) (tw : w < 4294967296) (ud : u < v1 * 4294967296 + v0) : Guess v1 v0 u w (u / v1) (u % v1) where
  v1b := b
  v1t := t
  v0t := t0
  wt := tw
  ud := ud
  eq := by rw [Nat.mul_comm]; exact Nat.div_add_mod u v1
  ge := by
    rw [Nat.le_div_iff_mul_le (by omega)]
    have h : dg u w v1 v0 * (v1 * 4294967296 + v0) ≤ u * 4294967296 + w := Nat.div_mul_le_self _ _
    rw [Guess.mulD] at h
    have : dg u w v1 v0 * v1 * 4294967296 < (u + 1) * 4294967296 := by omega
    have := Nat.lt_of_mul_lt_mul_right this
    omega
theorem Guess.u64 {v1 v0 u w q rh : Nat} (h : Guess v1 v0 u w q rh) : q < 18446744073709551616 ∧ u < 18446744073709551616 := by
  have := h.v1t; have := h.v0t; have := h.v1b; have := h.ud; have e := h.eq
  refine ⟨?_, by omega⟩
  have : q * 1 ≤ q * v1 := Nat.mul_le_mul_left q (by omega)
  omega
end Go.Proofs.Ytdchdapllehppaa.Ev
end
section
set_option linter.unusedVariables false
set_option linter.unusedSimpArgs false
namespace Go.Proofs.Ytdchdapllehppaa.Ev
open Go.RowKit Go.Proofs.Ytdchdapllehppaa.PAll Go.Proofs.YtdchdapllehppaaW.PrintWords Go.Proofs.YtdchdapllehppaaW.PrintLast Go.Proofs.YtdchdapllehppaaW.PrintMore Go.Proofs.Ytdchdapllehppaa.Spec
theorem cmpN_gt (a b : Nat) : (cmpN a b > 0) ↔ b < a := by unfold cmpN; split <;> (try split) <;> omega
theorem cmpN_le (a b : Nat) : (cmpN a b ≤ 0) ↔ a ≤ b := by unfold cmpN; split <;> (try split) <;> omega
theorem num_set (l : List Bool) (i : Nat) (hi : i < l.length) (h : l.getD i false = false) : num (l.set i true) = num l + 2 ^ i := by
  induction l generalizing i with
  | nil => simp at hi
  | cons x l ih =>
    cases i with
    | zero => simp at h; subst h; simp [num]; omega
    | succ i =>
      have := ih i (by simpa using hi) (by simpa using h)
      simp only [List.set_cons_succ, num, this, Nat.pow_succ]
      omega
theorem set_back (l : List Bool) (i : Nat) (h : l.getD i false = false) : (l.set i true).set i false = l := by
  rw [List.set_set]
  apply List.ext_getElem (by simp)
  intro j h1 h2
  rw [List.getElem_set]
  split
  · next e => subst e; simp [List.getD_eq_getElem?_getD, h2] at h; exact h.symm
  · rfl
/-- A difference where nothing is borrowed. -/
theorem sub_le (k : Nat) (a b : List Bool) (hl : a.length ≤ 1000) (hk : a.length + 1 ≤ k) (h : num b ≤ num a) : ∃ r e, flyballref01_Sub.f k a b (a.length : Int) = some (r, e) ∧ r.length = a.length ∧ num r = num a - num b := by
  obtain ⟨r, e, h1, h2, h3⟩ := sub_f k a b a.length hl hk
  refine ⟨r, e, h1, h2, ?_⟩
  have la := num_lt a
  rw [num_mod b, List.take_length, Nat.mod_eq_of_lt (by omega)] at h3
  have lr := num_lt r
  rw [h2] at lr
  cases e with
  | false => simp at h3; omega
  | true => simp at h3; omega
theorem root_step (N s i : Nat) (hi : N < (s + 2 ^ (i + 1)) * (s + 2 ^ (i + 1))) (h : (s + 2 ^ i) * (s + 2 ^ i) ≤ N) : N < ((s + 2 ^ i) + 2 ^ i) * ((s + 2 ^ i) + 2 ^ i) := by
  have e : s + 2 ^ i + 2 ^ i = s + 2 ^ (i + 1) := by rw [Nat.pow_succ]; omega
  rw [e]; exact hi
theorem root_unique {N s t : Nat} (h1 : s * s ≤ N) (h2 : N < (s + 1) * (s + 1)) (h3 : t * t ≤ N) (h4 : N < (t + 1) * (t + 1)) : s = t := by
  have a : s < t + 1 := Nat.mul_self_lt_mul_self_iff.1 (Nat.lt_of_le_of_lt h1 h4)
  have b : t < s + 1 := Nat.mul_self_lt_mul_self_iff.1 (Nat.lt_of_le_of_lt h3 h2)
  omega
theorem sqrt_l0 (a : List Bool) (ha : a.length ≤ 200) (M : Nat) (hM : 3000 ≤ M) : ∀ (j : Nat) (x : List Bool), j ≤ 64 → x.length = 64 → num x % 2 ^ j = 0 → num x * num x ≤ num a → num a < (num x + 2 ^ j) * (num x + 2 ^ j) →
    ∃ s r, flyballref01_Sqrt.l0 (M + j + 1) a x ((j : Int) - 1) = some (s, r) ∧ num s * num s ≤ num a ∧ num a < (num s + 1) * (num s + 1) ∧ num r = num a - num s * num s ∧ s.length = 64 ∧ r.length = a.length
  | 0, x, _, hx, h1, h2, h3 => by
    rw [flyballref01_Sqrt.l0, if_neg (by omega)]
    obtain ⟨p, p1, p2, p3⟩ := mul_f M x x (by omega) (by omega) (by omega)
    obtain ⟨t, e, e1, e2, e3⟩ := sub_le M a p (by omega) (by omega) (by omega)
    rw [p1, Option.bind_some, e1, Option.bind_some]
    exact ⟨_, _, rfl, h2, by simpa using h3, by rw [e3, p2], hx, e2⟩
  | i + 1, x, hi, hx, h1, h2, h3 => by
    rw [show M + (i + 1) + 1 = (M + i + 1) + 1 by omega, flyballref01_Sqrt.l0, show ((i + 1 : Nat) : Int) - 1 = (i : Int) by omega, if_pos (by omega), if_pos (by omega), if_pos (by omega), Option.bind_some, Int.toNat_natCast, wrap_id (x := (i : Int) - 1) (by omega) (by omega)]
    have h1' : num x % 2 ^ i = 0 := Nat.mod_eq_zero_of_dvd (Nat.dvd_trans (Nat.pow_dvd_pow 2 (Nat.le_succ i)) (Nat.dvd_of_mod_eq_zero h1))
    have bq : x.getD i false = false := by
      have := num_getD x i
      obtain ⟨q, hq⟩ := Nat.dvd_of_mod_eq_zero h1
      rw [hq, Nat.pow_succ, Nat.mul_assoc, Nat.mul_div_cancel_left _ (Nat.two_pow_pos i), Nat.mul_mod_right] at this
      cases hh : x.getD i false with
      | false => rfl
      | true => rw [hh] at this; simp at this
    have ns := num_set x i (by omega) bq
    obtain ⟨p, p1, p2, p3⟩ := mul_f (M + i + 1) (x.set i true) (x.set i true) (by simp; omega) (by simp; omega) (by omega)
    rw [p1, Option.bind_some, cmp_f _ _ _ (by simp at p3; omega) (by omega) (by omega), Option.bind_some]
    by_cases g : num a < num p
    · rw [if_pos ((cmpN_gt _ _).2 g), set_back x i bq]
      rw [p2, ns] at g
      exact sqrt_l0 a ha M hM i x (by omega) hx h1' h2 g
    · rw [if_neg (by rw [cmpN_gt]; exact g)]
      rw [p2, ns] at g
      refine sqrt_l0 a ha M hM i _ (by omega) (by simp [hx]) ?_ ?_ ?_
      · rw [ns, Nat.add_mod_right, h1']
      · rw [ns]; omega
      · rw [ns]; exact root_step _ _ _ h3 (by omega)
/-- A root and what is left. -/
theorem sqrt_f (k : Nat) (a : List Bool) (ha : a.length = 128) (hk : 4000 ≤ k) : ∃ s r, flyballref01_Sqrt.f k a = some (s, r) ∧ num s * num s ≤ num a ∧ num a < (num s + 1) * (num s + 1) ∧ num r = num a - num s * num s ∧ s.length = 64 ∧ r.length = a.length := by
  obtain ⟨M, rfl⟩ : ∃ M, k = M + 64 + 1 := ⟨k - 65, by omega⟩
  unfold flyballref01_Sqrt.f
  rw [if_pos (by omega)]
  have hz : num (List.replicate 64 false) = 0 := num_replicate 64
  have la := num_lt a
  rw [ha] at la
  exact sqrt_l0 a (by omega) M (by omega) 64 _ (by omega) (by simp) (by rw [hz]) (by rw [hz]; omega) (by rw [hz]; omega)
end Go.Proofs.Ytdchdapllehppaa.Ev
end
section
set_option linter.unusedVariables false
set_option linter.unusedSimpArgs false
namespace Go.Proofs.Ytdchdapllehppaa.Ev
open Go.RowKit Go.Proofs.Ytdchdapllehppaa.PAll Go.Proofs.YtdchdapllehppaaW.PrintWords Go.Proofs.YtdchdapllehppaaW.PrintLast Go.Proofs.YtdchdapllehppaaW.PrintMore Go.Proofs.Ytdchdapllehppaa.Spec
theorem sub128_f (a b c d : Nat) (ha : a < 18446744073709551616) (hb : b < 18446744073709551616) (hc : c < 18446744073709551616) (hd : d < 18446744073709551616) :
    ∃ r s e : Nat, wide_U128_Sub.f (a : Int) (b : Int) (c : Int) (d : Int) = some ((r : Int), (s : Int), (e : Int)) ∧ r < 18446744073709551616 ∧ s < 18446744073709551616 ∧ e ≤ 1 ∧ (r * 18446744073709551616 + s) + (c * 18446744073709551616 + d) = (e * 18446744073709551616 + a) * 18446744073709551616 + b := by
  unfold wide_U128_Sub.f
  rw [show ((0 : Int)) = ((0 : Nat) : Int) from rfl, sub64_f b d 0 (by omega) (by omega), Option.bind_some]
  dsimp only
  have one : ∀ p : Prop, [Decidable p] → (if p then 1 else 0 : Nat) ≤ 1 := fun p _ => by split <;> omega
  rw [sub64_f a c _ (by omega) (one _), Option.bind_some]
  refine ⟨_, _, _, rfl, by omega, by omega, one _, ?_⟩
  obtain ⟨x, hx, hx1⟩ : ∃ x, (if b < d + 0 then 1 else 0 : Nat) = x ∧ ((x = 1 ∧ b < d) ∨ (x = 0 ∧ d ≤ b)) := by
    refine ⟨_, rfl, ?_⟩; split <;> omega
  rw [hx]
  obtain ⟨y, hy, hy1⟩ : ∃ y, (if a < c + x then 1 else 0 : Nat) = y ∧ ((y = 1 ∧ a < c + x) ∨ (y = 0 ∧ c + x ≤ a)) := by
    refine ⟨_, rfl, ?_⟩; split <;> omega
  rw [hy]
  omega
theorem ord_step (k : Nat) (l : List S82) (i : Nat) (hi : i < l.length) (hl : l.length ≤ 10) (x y : Nat) (hx : l[i]? = some ⟨(x : Int), (y : Int)⟩) :
    wide_order.l0 (k + 1) l (l.length : Int) (i : Int) = if x < y then some (-1) else if y < x then some 1 else wide_order.l0 k l (l.length : Int) ((i + 1 : Nat) : Int) := by
  have e : rd_T82 l (i : Int) = ⟨(x : Int), (y : Int)⟩ := by unfold rd_T82; simp [List.getD_eq_getElem?_getD, hx]
  rw [wide_order.l0, if_pos (by omega), if_pos (by omega), if_pos (by omega), e, wrap_succ i (by omega)]
  by_cases h : x < y
  · rw [if_pos (by simpa using h), if_pos h]
  · rw [if_neg (by simpa using h), if_neg h]
    by_cases g : y < x
    · rw [if_pos (by simpa using g), if_pos g]
    · rw [if_neg (by simpa using g), if_neg g]
theorem ord_end (k : Nat) (l : List S82) : wide_order.l0 (k + 1) l (l.length : Int) (l.length : Int) = some 0 := by rw [wide_order.l0, if_neg (by omega)]
theorem cmp128_f (k a b c d : Nat) (hb : b < 18446744073709551616) (hd : d < 18446744073709551616) : wide_U128_Cmp.f (k + 3) (a : Int) (b : Int) (c : Int) (d : Int) = some (cmpN (a * 18446744073709551616 + b) (c * 18446744073709551616 + d)) := by
  unfold wide_U128_Cmp.f wide_order.f
  have h0 := ord_step (k + 2) [⟨(a : Int), (c : Int)⟩, ⟨(b : Int), (d : Int)⟩] 0 (by simp) (by simp) a c rfl
  have h1 := ord_step (k + 1) [⟨(a : Int), (c : Int)⟩, ⟨(b : Int), (d : Int)⟩] 1 (by simp) (by simp) b d rfl
  have h2 := ord_end k [⟨(a : Int), (c : Int)⟩, ⟨(b : Int), (d : Int)⟩]
  rw [show (0 : Int) = ((0 : Nat) : Int) from rfl, h0, h1, show ((1 + 1 : Nat) : Int) = (([⟨(a : Int), (c : Int)⟩, ⟨(b : Int), (d : Int)⟩] : List S82).length : Int) from rfl, h2]
  unfold cmpN
  by_cases g1 : a < c
  · rw [if_pos g1, if_pos (by omega)]; rfl
  · rw [if_neg g1]
    by_cases g2 : c < a
    · rw [if_pos g2, if_neg (by omega), if_pos (by omega)]; rfl
    · rw [if_neg g2]
      by_cases g3 : b < d
      · rw [if_pos g3, if_pos (by omega)]; rfl
      · rw [if_neg g3]
        by_cases g4 : d < b
        · rw [if_pos g4, if_neg (by omega), if_pos (by omega)]; rfl
        · rw [if_neg g4, if_neg (by omega), if_neg (by omega)]; rfl
end Go.Proofs.Ytdchdapllehppaa.Ev
end
section
set_option linter.unusedVariables false
set_option linter.unusedSimpArgs false
namespace Go.Proofs.Ytdchdapllehppaa.Ev
open Go.RowKit Go.Proofs.Ytdchdapllehppaa.PAll Go.Proofs.YtdchdapllehppaaW.PrintWords Go.Proofs.YtdchdapllehppaaW.PrintLast Go.Proofs.YtdchdapllehppaaW.PrintMore Go.Proofs.Ytdchdapllehppaa.Spec
theorem dbc {p : Prop} [Decidable p] (h : ¬ p → False) : p := Decidable.byContradiction h
theorem words2 (x : Nat) (l : Nat) : x / l * l + x % l = x := Nat.div_add_mod' x l
theorem sq_lt (x : Nat) (h : x < 18446744073709551616) : x * x / 18446744073709551616 < 18446744073709551616 := by
  have : x * x ≤ 18446744073709551615 * 18446744073709551615 := Nat.mul_le_mul (by omega) (by omega)
  generalize x * x = y at *
  omega
theorem sub_words (a b r s e y : Nat) (ha : a < 18446744073709551616) (hb : b < 18446744073709551616) (hr : r < 18446744073709551616) (hs : s < 18446744073709551616) (he : e ≤ 1) (h : r * 18446744073709551616 + s + y = (e * 18446744073709551616 + a) * 18446744073709551616 + b) (hy : y ≤ a * 18446744073709551616 + b) : r * 18446744073709551616 + s = a * 18446744073709551616 + b - y := dbc (fun _ => by omega)
theorem sqrt128_l0 (a b : Nat) (ha : a < 18446744073709551616) (hb : b < 18446744073709551616) (M : Nat) (hM : 10 ≤ M) : ∀ (j s : Nat), j ≤ 64 → s % 2 ^ j = 0 → s + 2 ^ j ≤ 18446744073709551616 → s * s ≤ a * 18446744073709551616 + b → a * 18446744073709551616 + b < (s + 2 ^ j) * (s + 2 ^ j) →
    ∃ t r1 r2 : Nat, wide_U128_Sqrt.l0 (M + j + 1) (s : Int) ((2 ^ j / 2 : Nat) : Int) (a : Int) (b : Int) = some ((t : Int), (r1 : Int), (r2 : Int)) ∧ t < 18446744073709551616 ∧ r1 < 18446744073709551616 ∧ r2 < 18446744073709551616 ∧
      t * t ≤ a * 18446744073709551616 + b ∧ a * 18446744073709551616 + b < (t + 1) * (t + 1) ∧ r1 * 18446744073709551616 + r2 = a * 18446744073709551616 + b - t * t
  | 0, s, _, h1, h2, h3, h4 => by
    rw [wide_U128_Sqrt.l0, if_neg (by omega), wmul_f s s (by omega) (by omega), Option.bind_some]
    dsimp only
    have sl := sq_lt s (by omega)
    obtain ⟨r1, r2, e, e1, e2, e3, e4, e5⟩ := sub128_f a b (s * s / 18446744073709551616) (s * s % 18446744073709551616) ha hb sl (Nat.mod_lt _ (by omega))
    rw [e1, Option.bind_some]
    rw [words2] at e5
    exact ⟨s, r1, r2, rfl, by omega, e2, e3, h3, by simpa using h4, sub_words _ _ _ _ _ _ ha hb e2 e3 e4 e5 h3⟩
  | i + 1, s, hi, h1, h2, h3, h4 => by
    have hp := Nat.two_pow_pos i
    have e0 : 2 ^ (i + 1) / 2 = 2 ^ i := by rw [Nat.pow_succ, Nat.mul_div_cancel _ (by omega)]
    have e1 : 2 ^ (i + 1) = 2 ^ i + 2 ^ i := by rw [Nat.pow_succ]; omega
    have hor : Go.bits .or .u64 (s : Int) ((2 ^ i : Nat) : Int) = ((s + 2 ^ i : Nat) : Int) := by
      obtain ⟨q, rfl⟩ := Nat.dvd_of_mod_eq_zero h1
      exact or_plus (i + 1) q (2 ^ i) (by omega) (by omega) (by omega)
    have sl := sq_lt (s + 2 ^ i) (by omega)
    rw [show M + (i + 1) + 1 = (M + i + 1) + 1 by omega, wide_U128_Sqrt.l0, e0, if_pos (by omega), hor, wmul_f _ _ (by omega) (by omega), Option.bind_some]
    dsimp only
    rw [show M + i + 1 = (M + i - 2) + 3 by omega, cmp128_f _ _ _ a b (Nat.mod_lt _ (by omega)) hb, words2, Option.bind_some, show (M + i - 2) + 3 = M + i + 1 by omega, show ((2 ^ i : Nat) : Int) / 2 = ((2 ^ i / 2 : Nat) : Int) by omega]
    have d1 : s % 2 ^ i = 0 := Nat.mod_eq_zero_of_dvd (Nat.dvd_trans (Nat.pow_dvd_pow 2 (Nat.le_succ i)) (Nat.dvd_of_mod_eq_zero h1))
    by_cases g : (s + 2 ^ i) * (s + 2 ^ i) ≤ a * 18446744073709551616 + b
    · rw [if_pos ((cmpN_le _ _).2 g)]
      exact sqrt128_l0 a b ha hb M hM i (s + 2 ^ i) (by omega) (by rw [Nat.add_mod_right, d1]) (by omega) g (root_step _ _ _ h4 g)
    · rw [if_neg (by rw [cmpN_le]; exact g)]
      exact sqrt128_l0 a b ha hb M hM i s (by omega) d1 (by omega) h3 (by omega)
/-- A root, and what is left. -/
theorem sqrt128_f (k a b : Nat) (ha : a < 18446744073709551616) (hb : b < 18446744073709551616) (hk : 100 ≤ k) :
    ∃ t r1 r2 : Nat, wide_U128_Sqrt.f k (a : Int) (b : Int) = some ((t : Int), (r1 : Int), (r2 : Int)) ∧ t < 18446744073709551616 ∧ r1 < 18446744073709551616 ∧ r2 < 18446744073709551616 ∧
      t * t ≤ a * 18446744073709551616 + b ∧ a * 18446744073709551616 + b < (t + 1) * (t + 1) ∧ r1 * 18446744073709551616 + r2 = a * 18446744073709551616 + b - t * t := by
  obtain ⟨M, rfl⟩ : ∃ M, k = M + 64 + 1 := ⟨k - 65, by omega⟩
  exact sqrt128_l0 a b ha hb M (by omega) 64 0 (by omega) (by simp) (by omega) (by omega) (by omega)
end Go.Proofs.Ytdchdapllehppaa.Ev
end
section
set_option linter.unusedVariables false
set_option linter.unusedSimpArgs false
namespace Go.Proofs.Ytdchdapllehppaa.Ev
open Go.RowKit Go.Proofs.Ytdchdapllehppaa.PAll Go.Proofs.YtdchdapllehppaaW.PrintWords Go.Proofs.YtdchdapllehppaaW.PrintLast Go.Proofs.YtdchdapllehppaaW.PrintMore Go.Proofs.Ytdchdapllehppaa.Spec
theorem works_at : flyballlaw01_works.f 200 = some true := by kernel_rfl
theorem works_f (k : Nat) (hk : 200 ≤ k) : flyballlaw01_works.f k = some true := at_rounds flyballlaw01_works.mono hk works_at
theorem nat64 {x : Int} (h : (Lit.int .u64 x).wf = true) : ∃ n : Nat, x = (n : Int) ∧ n < 18446744073709551616 := by
  have : 0 ≤ x ∧ x < 18446744073709551616 := by
    have e := h
    simp [Lit.wf, Go.IntKind.min, Go.IntKind.max, Go.IntKind.signed, Go.IntKind.bits] at e
    omega
  exact ⟨x.toNat, by omega, by omega⟩
theorem cmpN_zero (a b : Nat) : (cmpN a b == 0) = decide (a = b) := by
  unfold cmpN
  by_cases h : a < b
  · rw [if_pos h, decide_eq_false (by omega)]; rfl
  · rw [if_neg h]
    by_cases g : b < a
    · rw [if_pos g, decide_eq_false (by omega)]; rfl
    · rw [if_neg g, decide_eq_true (by omega)]; rfl
theorem of_f (k a b : Nat) (ha : a < 18446744073709551616) (hb : b < 18446744073709551616) (hk : 300 ≤ k) : ∃ r, flyballlaw01_of.f k (a : Int) (b : Int) = some r ∧ num r = a * 18446744073709551616 + b ∧ r.length = 128 := by
  obtain ⟨r, h1, h2, h3⟩ := of2_f k b a hb ha hk
  unfold flyballlaw01_of.f
  rw [h1, Option.bind_some]
  exact ⟨r, rfl, h2, h3⟩
theorem is_f (k a b : Nat) (l : List Bool) (ha : a < 18446744073709551616) (hb : b < 18446744073709551616) (hl : l.length ≤ 1000) (hk : 1002 ≤ k) : flyballlaw01_is.f k (a : Int) (b : Int) l = some (decide (a * 18446744073709551616 + b = num l)) := by
  obtain ⟨r, h1, h2, h3⟩ := of_f k a b ha hb (by omega)
  unfold flyballlaw01_is.f
  rw [h1, Option.bind_some, cmp_f k r l (by omega) hl hk, Option.bind_some, cmpN_zero, h2]
end Go.Proofs.Ytdchdapllehppaa.Ev
end
section
set_option linter.unusedVariables false
set_option linter.unusedSimpArgs false
namespace Go.Proofs.YtdchdapllehppaaAid
open Go.Deep Go.Joins Go.ChangeShapes Go.WideShapes Go.RowKit
section
variable {H : Type} {enc : TypeId × Value → H} {P : Program} {w : World} {base : Nat} {spare : Nat → Bool} {held : Bool}
theorem trod_uu {t : TypeId} {f0 f1 : Field} {n : Nat} {cs : List Value} {y : DataW H × List MemPlace} (hs : P.underlying t = some (.struct #[f0, f1])) (hone : oneCellFields P #[f0, f1] = true)
    (h0 : P.underlying f0.type = some (.int .u64)) (h1 : P.underlying f1.type = some (.int .u64)) (hl : cs.length = 2) (h : DataW.trod enc P w base spare held n t cs = some y) :
    ∃ (x0 x1 : Int), cs = [.int .u64 x0, .int .u64 x1] ∧ y = (.agg [.lit (.int .u64 x0), .lit (.int .u64 x1)], []) ∧ (Lit.int .u64 x0).wf = true ∧ (Lit.int .u64 x1).wf = true := by
  obtain ⟨xs, m, _, hx, _, hlen, hg⟩ := DataW.trod_struct hs h
  obtain ⟨o0, k0⟩ := hone_of hone 0 f0 rfl
  obtain ⟨o1, k1⟩ := hone_of hone 1 f1 rfl
  match cs, hl with
  | [c0, c1], _ =>
    match xs, hlen with
    | [y0, y1], _ =>
      have g0 : DataW.trod enc P w base spare held m f0.type [c0] = some y0 := by simpa [o0, k0] using hg 0 f0 rfl
      have g1 : DataW.trod enc P w base spare held m f1.type [c1] = some y1 := by simpa [o1, k1] using hg 1 f1 rfl
      obtain ⟨x0, e0, rfl, w0⟩ := DataW.trod_int h0 g0
      obtain ⟨x1, e1, rfl, w1⟩ := DataW.trod_int h1 g1
      simp only [List.cons.injEq, and_true] at e0 e1
      subst e0 e1
      exact ⟨x0, x1, rfl, by simpa using hx, w0, w1⟩
theorem trod_uu_mk {t : TypeId} {f0 f1 : Field} {x0 x1 : Int} (hs : P.underlying t = some (.struct #[f0, f1])) (hone : oneCellFields P #[f0, f1] = true) (hC : P.cellsOf t = 2)
    (h0 : P.underlying f0.type = some (.int .u64)) (h1 : P.underlying f1.type = some (.int .u64)) (w0 : (Lit.int .u64 x0).wf = true) (w1 : (Lit.int .u64 x1).wf = true) :
    DataW.trod enc P w base spare held 2 t [.int .u64 x0, .int .u64 x1] = some (.agg [.lit (.int .u64 x0), .lit (.int .u64 x1)], []) := by
  obtain ⟨o0, k0⟩ := hone_of hone 0 f0 rfl
  obtain ⟨o1, k1⟩ := hone_of hone 1 f1 rfl
  have := trod_struct2_mk (enc := enc) (w := w) (base := base) (spare := spare) (held := held) (n := 1) (cs := [.int .u64 x0, .int .u64 x1]) hs (by simp [hC])
    (by simpa [o0, k0] using trod_int_mk (enc := enc) (w := w) (base := base) (spare := spare) (held := held) 0 h0 w0) (by simpa [o1, k1] using trod_int_mk (enc := enc) (w := w) (base := base) (spare := spare) (held := held) 0 h1 w1)
  simpa using this
theorem open_uu {r : Reach} {b0 : Nat} {t : TypeId} {f0 f1 : Field} {v : Value} {d : DataW H} {p : List MemPlace} (hs : P.underlying t = some (.struct #[f0, f1])) (hone : oneCellFields P #[f0, f1] = true) (hC : P.cellsOf t = 2)
    (h0 : P.underlying f0.type = some (.int .u64)) (h1 : P.underlying f1.type = some (.int .u64))
    (hv : Value.okWide P w r b0 t v) (h : DataW.Trod enc P w base spare held t v d p) :
    ∃ (x0 x1 : Int), v = .agg #[.int .u64 x0, .int .u64 x1] ∧ d = .agg [.lit (.int .u64 x0), .lit (.int .u64 x1)] ∧ p = [] ∧ (Lit.int .u64 x0).wf = true ∧ (Lit.int .u64 x1).wf = true := by
  obtain ⟨cs, rfl, hsz⟩ := okWide_struct hs hv
  obtain ⟨l⟩ := cs
  obtain ⟨fuel, hf⟩ := h
  obtain ⟨x0, x1, e, ey, w0, w1⟩ := trod_uu hs hone h0 h1 (hsz.trans hC) hf
  simp only [Prod.mk.injEq] at ey
  have e' : l = [.int .u64 x0, .int .u64 x1] := by simpa [Value.cells] using e
  subst e'
  exact ⟨x0, x1, rfl, ey.1, ey.2, w0, w1⟩
theorem shut_uu {t : TypeId} {f0 f1 : Field} {x0 x1 : Int} (hs : P.underlying t = some (.struct #[f0, f1])) (hone : oneCellFields P #[f0, f1] = true) (hC : P.cellsOf t = 2)
    (h0 : P.underlying f0.type = some (.int .u64)) (h1 : P.underlying f1.type = some (.int .u64)) (w0 : (Lit.int .u64 x0).wf = true) (w1 : (Lit.int .u64 x1).wf = true) :
    DataW.Trod enc P w base spare held t (.agg #[.int .u64 x0, .int .u64 x1]) (.agg [.lit (.int .u64 x0), .lit (.int .u64 x1)]) [] :=
  ⟨2, by simpa [Value.cells] using trod_uu_mk (enc := enc) (w := w) (base := base) (spare := spare) (held := held) hs hone hC h0 h1 w0 w1⟩
end
end Go.Proofs.YtdchdapllehppaaAid
end
section
set_option linter.unusedVariables false
set_option linter.unusedSimpArgs false
namespace Go.Proofs.Ytdchdapllehppaa.Pure
open Go.RowKit Go.Proofs.Ytdchdapllehppaa.PAll Go.Proofs.YtdchdapllehppaaW.PrintWords Go.Proofs.YtdchdapllehppaaW.PrintLast Go.Proofs.YtdchdapllehppaaW.PrintMore Go.Proofs.Ytdchdapllehppaa.Spec Go.Proofs.Ytdchdapllehppaa.Ev
theorem WideRootsSay (a0_0 a0_1 : Int) (w0 : (Lit.int .u64 a0_0).wf = true) (w1 : (Lit.int .u64 a0_1).wf = true) : ∃ k, flyballlaw01_WideRootsSay.f k a0_0 a0_1 = some true := by
  obtain ⟨a, rfl, ha⟩ := nat64 w0
  obtain ⟨b, rfl, hb⟩ := nat64 w1
  refine ⟨5000, ?_⟩
  obtain ⟨t, r1, r2, e, e1, e2, e3, e4, e5, e6⟩ := sqrt128_f 5000 a b ha hb (by omega)
  obtain ⟨n, n1, n2, n3⟩ := of_f 5000 a b ha hb (by omega)
  obtain ⟨s, r, u1, u2, u3, u4, u5, u6⟩ := sqrt_f 5000 n n3 (by omega)
  obtain ⟨x, x1, x2, x3⟩ := of1_f 5000 t e1 (by omega)
  rw [n2] at u2 u3 u4
  have st : t = num s := root_unique e4 e5 u2 u3
  unfold flyballlaw01_WideRootsSay.f
  rw [works_f _ (by omega), Option.bind_some, if_pos rfl, e, Option.bind_some, n1, Option.bind_some, u1, Option.bind_some]
  dsimp only
  rw [is_f _ r1 r2 r e2 e3 (by omega) (by omega), Option.bind_some, e6, u4, st, if_pos (by simp), ← st, x1, Option.bind_some, cmp_f _ x s (by omega) (by omega) (by omega), Option.bind_some, cmpN_zero, x2, st]
  simp
end Go.Proofs.Ytdchdapllehppaa.Pure
end
