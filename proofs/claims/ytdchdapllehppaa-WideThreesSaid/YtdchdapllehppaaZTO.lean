/- What the claim needs of several texts, in one. -/
import Derived.Laws.BitsLemmas
import Derived.KernelRfl
import Derived.WalkKit
import Derived.ProofKit
import Derived.OpenShut
import Derived.ShutString
import Derived.ChangeOld
import Derived.Below
import Derived.SizedLaws
import Derived.Lib.SmallJoins
import Derived.Deep.SlicePairs
import Derived.Test.YtdchdapllehppaaZTW
import Derived.Test.YtdchdapllehppaaZTx0
import Derived.Test.YtdchdapllehppaaZTx1
import Derived.Test.YtdchdapllehppaaZTx2
import Derived.Test.YtdchdapllehppaaZTx3
import Derived.Test.YtdchdapllehppaaZTx4
import Derived.Test.YtdchdapllehppaaZTx5
import Derived.Test.YtdchdapllehppaaZTx6
import Derived.Test.YtdchdapllehppaaZTx7
import Derived.Test.YtdchdapllehppaaZTx8
import Derived.Test.YtdchdapllehppaaZTx9
import Derived.Test.YtdchdapllehppaaZTx12
import Derived.Test.YtdchdapllehppaaZTx13
import Derived.Test.YtdchdapllehppaaZTx14
import Derived.Test.YtdchdapllehppaaZTx15
import Derived.Test.YtdchdapllehppaaZTx19
import Derived.Test.YtdchdapllehppaaZTx21
import Derived.Test.YtdchdapllehppaaZTx24
namespace Go.Proofs.Ytdchdapllehppaa.Ev
end Go.Proofs.Ytdchdapllehppaa.Ev
namespace Go.Proofs.Ytdchdapllehppaa.PAll
end Go.Proofs.Ytdchdapllehppaa.PAll
namespace Go.Proofs.Ytdchdapllehppaa.Spec
end Go.Proofs.Ytdchdapllehppaa.Spec
section
set_option linter.unusedVariables false
set_option linter.unusedSimpArgs false
namespace Go.Proofs.Ytdchdapllehppaa.Spec
/-- The number that a row of bits is, the least one first. -/
def num : List Bool → Nat
  | [] => 0
  | b :: l => b.toNat + 2 * num l
theorem num_append (a b : List Bool) : num (a ++ b) = num a + 2 ^ a.length * num b := by
  induction a with
  | nil => simp [num]
  | cons x a ih => simp only [List.cons_append, num, ih, List.length_cons, Nat.pow_succ, Nat.mul_add]; rw [Nat.mul_comm (2 ^ a.length) 2, Nat.mul_assoc]; omega
theorem num_lt (a : List Bool) : num a < 2 ^ a.length := by
  induction a with
  | nil => simp [num]
  | cons x a ih => cases x <;> simp [num, Nat.pow_succ] <;> omega
theorem num_snoc (a : List Bool) (x : Bool) : num (a ++ [x]) = num a + 2 ^ a.length * x.toNat := by rw [num_append]; simp [num]
theorem num_split (l : List Bool) (n : Nat) : num l = num (l.take n) + 2 ^ (l.take n).length * num (l.drop n) := by
  rw [← num_append, List.take_append_drop]
theorem getD_beyond (l : List Bool) (i : Nat) (h : l.length ≤ i) : l.getD i false = false := by simp [List.getD_eq_getElem?_getD, h]
theorem num_take_succ (l : List Bool) (i : Nat) : num (l.take (i + 1)) = num (l.take i) + 2 ^ i * (l.getD i false).toNat := by
  by_cases h : i < l.length
  · rw [List.take_succ_eq_append_getElem h, num_snoc]
    simp [List.getD_eq_getElem?_getD, h, Nat.min_eq_left (Nat.le_of_lt h)]
  · rw [getD_beyond l i (by omega), List.take_of_length_le (by omega), List.take_of_length_le (by omega)]
    simp
theorem num_take_all (l : List Bool) (i : Nat) (h : l.length ≤ i) : num (l.take i) = num l := by rw [List.take_of_length_le h]
theorem add_digit (x y c : Bool) : x.toNat + y.toNat + c.toNat = ((x != y) != c).toNat + 2 * (if x = true then (if y = true then true else c) else (if y = true then c else false)).toNat := by
  cases x <;> cases y <;> cases c <;> rfl
theorem sub_digit (x y c : Bool) : x.toNat + 2 * (if x = true then (if y = true then c else false) else (if y = true then true else c)).toNat = ((x != y) != c).toNat + y.toNat + c.toNat := by
  cases x <;> cases y <;> cases c <;> rfl
theorem num_take_lt (a : List Bool) (i : Nat) : num (a.take i) < 2 ^ i :=
  Nat.lt_of_lt_of_le (num_lt _) (Nat.pow_le_pow_right (by omega) (by simp; omega))
/-- How many bits a number has. -/
def bl (n : Nat) : Nat := if n = 0 then 0 else n.log2 + 1
theorem bl_lt (n : Nat) : n < 2 ^ bl n := by
  unfold bl
  split
  · omega
  · exact Nat.lt_log2_self
theorem bl_eq (n m : Nat) (h1 : n < 2 ^ m) (h2 : m = 0 ∨ 2 ^ (m - 1) ≤ n) : bl n = m := by
  unfold bl
  rcases h2 with rfl | h2
  · rw [if_pos (by omega)]
  · have hp : 0 < 2 ^ (m - 1) := Nat.two_pow_pos _
    rw [if_neg (by omega)]
    have h3 : m - 1 ≤ n.log2 := (Nat.le_log2 (by omega)).2 h2
    have h4 : n.log2 < m := (Nat.log2_lt (by omega)).2 h1
    omega
theorem bl_le (n : Nat) (h : 0 < n) : 2 ^ (bl n - 1) ≤ n := by
  unfold bl
  rw [if_neg (by omega)]
  exact Nat.log2_self_le (by omega)
theorem bl_zero : bl 0 = 0 := rfl
theorem bl_pos (n : Nat) (h : 0 < n) : 0 < bl n := by unfold bl; rw [if_neg (by omega)]; omega
theorem bl_le_of_lt (n m : Nat) (h : n < 2 ^ m) : bl n ≤ m := by
  unfold bl
  split
  · omega
  · have := (Nat.log2_lt (n := n) (k := m) (by omega)).2 h
    omega
theorem num_take_getD (l : List Bool) (n : Nat) (h : l.getD n false = true) : 2 ^ n ≤ num l := by
  have h1 := num_take_succ l n
  have h2 := num_split l (n + 1)
  rw [h] at h1
  simp at h1
  omega
theorem num_mod (l : List Bool) (n : Nat) : num (l.take n) = num l % 2 ^ n := by
  by_cases h : l.length ≤ n
  · rw [num_take_all l n h, Nat.mod_eq_of_lt (Nat.lt_of_lt_of_le (num_lt l) (Nat.pow_le_pow_right (by omega) h))]
  · have h2 := num_split l n
    rw [List.length_take, Nat.min_eq_left (by omega)] at h2
    rw [h2, Nat.add_mul_mod_self_left, Nat.mod_eq_of_lt (num_take_lt l n)]
theorem num_div (l : List Bool) (n : Nat) : num (l.drop n) = num l / 2 ^ n := by
  by_cases h : l.length ≤ n
  · rw [List.drop_eq_nil_of_le h, Nat.div_eq_of_lt (Nat.lt_of_lt_of_le (num_lt l) (Nat.pow_le_pow_right (by omega) h))]
    rfl
  · have h2 := num_split l n
    rw [List.length_take, Nat.min_eq_left (by omega)] at h2
    rw [h2, Nat.add_mul_div_left _ _ (Nat.two_pow_pos n), Nat.div_eq_of_lt (num_take_lt l n), Nat.zero_add]
theorem num_getD (l : List Bool) (n : Nat) : (l.getD n false).toNat = num l / 2 ^ n % 2 := by
  rw [← num_div]
  by_cases h : n < l.length
  · rw [List.drop_eq_getElem_cons h]
    simp only [num, List.getD_eq_getElem?_getD, List.getElem?_eq_getElem h, Option.getD_some]
    cases l[n] <;> simp <;> omega
  · rw [getD_beyond l n (by omega), List.drop_eq_nil_of_le (by omega)]
    rfl
end Go.Proofs.Ytdchdapllehppaa.Spec
end
section
set_option linter.unusedVariables false
set_option linter.unusedSimpArgs false
namespace Go.Proofs.Ytdchdapllehppaa.Ev
open Go.RowKit Go.Proofs.Ytdchdapllehppaa.PAll Go.Proofs.YtdchdapllehppaaW.PrintWords Go.Proofs.YtdchdapllehppaaW.PrintLast Go.Proofs.YtdchdapllehppaaW.PrintMore Go.Proofs.Ytdchdapllehppaa.Spec
theorem wrap_id {x : Int} (h : -9223372036854775808 ≤ x) (h' : x ≤ 9223372036854775807) : wrap64 x = x := by unfold wrap64; omega
theorem wrap_succ (i : Nat) (h : i ≤ 100000) : wrap64 ((i : Int) + 1) = ((i + 1 : Nat) : Int) := by rw [wrap_id (by omega) (by omega)]; omega
theorem wrap_pred (i : Nat) (h : i ≤ 100000) : wrap64 (((i + 1 : Nat) : Int) - 1) = (i : Int) := by rw [wrap_id (by omega) (by omega)]; omega
theorem mx_eq (a b : Int) : mx a b = max a b := by unfold mx; split <;> omega
theorem mn_eq (a b : Int) : mn a b = min a b := by unfold mn; split <;> omega
theorem rdOf_eq (l : List Bool) (i : Nat) : rdOf false l (i : Int) = l.getD i false := by unfold rdOf; simp
theorem bit_f (l : List Bool) (i : Nat) : flyballref01_bit.f l (i : Int) = some (l.getD i false) := by
  unfold flyballref01_bit.f
  rw [if_pos (by omega), rdOf_eq]
  by_cases h : (i : Int) < (l.length : Int)
  · rw [if_pos h, if_pos (by omega)]
  · rw [if_neg h, getD_beyond l i (by omega)]
def carry (x y c : Bool) : Bool := if x = true then (if y = true then true else c) else (if y = true then c else false)
def addDigit (x y c : Bool) : Bool := (x != y) != c
theorem add_j1 (k : Nat) (a b out : List Bool) (c : Bool) (i : Nat) (hi : i ≤ 100000) (ho : out.length ≤ 100000) :
    flyballref01_Add.j1 (k + 1) a b out c (i : Int) true = flyballref01_Add.l0 k a b (out ++ [addDigit (a.getD i false) (b.getD i false) c]) (carry (a.getD i false) (b.getD i false) c) ((i + 1 : Nat) : Int) := by
  simp only [flyballref01_Add.j1, bit_f, Option.bind_some, wrap_succ i hi, if_true]
  rw [if_pos (by omega)]
  unfold carry addDigit
  cases a.getD i false <;> cases b.getD i false <;> cases c <;> simp
theorem add_l0 (a b : List Bool) (n : Nat) (hn : n = max a.length b.length) (hl : n ≤ 1000) (M : Nat) : ∀ (d i : Nat) (out : List Bool) (c : Bool), i + d = n → out.length = i → num out + 2 ^ i * c.toNat = num (a.take i) + num (b.take i) →
    ∃ r, flyballref01_Add.l0 (M + 2 * d + 4) a b out c (i : Int) = some r ∧ num r = num a + num b ∧ (r.length = n ∨ r.length = n + 1)
  | 0, i, out, c, e, ho, h => by
    rw [num_take_all a i (by omega), num_take_all b i (by omega)] at h
    rw [show M + 2 * 0 + 4 = (M + 3) + 1 by omega, flyballref01_Add.l0, if_neg (by omega), if_neg (by omega)]
    cases c with
    | false => exact ⟨out, by simp [flyballref01_Add.j1], by simpa using h, .inl (by omega)⟩
    | true =>
      rw [show M + 3 = (M + 2) + 1 by omega, add_j1 _ _ _ _ _ _ (by omega) (by omega), getD_beyond a i (by omega), getD_beyond b i (by omega)]
      simp only [carry, addDigit, Bool.false_eq_true, if_false]
      rw [show M + 2 = (M + 1) + 1 by omega, flyballref01_Add.l0, if_neg (by omega), if_neg (by omega)]
      refine ⟨_, by rw [flyballref01_Add.j1, if_neg (by decide)], ?_, .inr (by simp; omega)⟩
      rw [num_snoc, ho]
      simpa using h
  | d + 1, i, out, c, e, ho, h => by
    have st : flyballref01_Add.l0 (M + 2 * (d + 1) + 4) a b out c (i : Int) = flyballref01_Add.j1 (M + 2 * d + 4 + 1) a b out c (i : Int) true := by
      rw [show M + 2 * (d + 1) + 4 = (M + 2 * d + 4 + 1) + 1 by omega, flyballref01_Add.l0]
      by_cases g : (i : Int) < (a.length : Int)
      · rw [if_pos g]
      · rw [if_neg g, if_pos (by omega)]
    rw [st, add_j1 _ _ _ _ _ _ (by omega) (by omega)]
    refine add_l0 a b n hn hl M d (i + 1) _ _ (by omega) (by simp; omega) ?_
    rw [num_snoc, num_take_succ, num_take_succ, ho, Nat.pow_succ, Nat.mul_assoc]
    have dg := add_digit (a.getD i false) (b.getD i false) c
    have e1 : num out + 2 ^ i * (addDigit (a.getD i false) (b.getD i false) c).toNat + 2 ^ i * (2 * (carry (a.getD i false) (b.getD i false) c).toNat) = num out + 2 ^ i * ((a.getD i false).toNat + (b.getD i false).toNat + c.toNat) := by
      rw [dg, Nat.mul_add]; unfold carry addDigit; omega
    rw [e1, Nat.mul_add, Nat.mul_add]
    omega
/-- A sum. -/
theorem add_f (k : Nat) (a b : List Bool) (n : Nat) (hn : n = max a.length b.length) (hl : n ≤ 1000) (hk : 2 * n + 4 ≤ k) : ∃ r, flyballref01_Add.f k a b = some r ∧ num r = num a + num b ∧ (r.length = n ∨ r.length = n + 1) := by
  obtain ⟨M, rfl⟩ : ∃ M, k = M + 2 * n + 4 := ⟨k - (2 * n + 4), by omega⟩
  exact add_l0 a b n hn hl M n 0 [] false (by omega) rfl (by simp [num])
def borrow (x y c : Bool) : Bool := if x = true then (if y = true then c else false) else (if y = true then true else c)
theorem sub_l0 (a b : List Bool) (n : Nat) (hl : n ≤ 1000) (M : Nat) : ∀ (d i : Nat) (out : List Bool) (c : Bool), i + d = n → out.length = i → num out + num (b.take i) = num (a.take i) + 2 ^ i * c.toNat →
    ∃ r e, flyballref01_Sub.l0 (M + d + 1) a b (n : Int) out c (i : Int) = some (r, e) ∧ r.length = n ∧ num r + num (b.take n) = num (a.take n) + 2 ^ n * e.toNat
  | 0, i, out, c, e, ho, h => by
    rw [flyballref01_Sub.l0, if_neg (by omega)]
    obtain rfl : i = n := by omega
    exact ⟨_, _, rfl, ho, h⟩
  | d + 1, i, out, c, e, ho, h => by
    rw [show M + (d + 1) + 1 = (M + d + 1) + 1 by omega, flyballref01_Sub.l0, if_pos (by omega)]
    simp only [bit_f, Option.bind_some, wrap_succ i (by omega)]
    rw [if_pos (by omega)]
    have st : ∀ x y : Bool, (if x = true then (if y = true then (flyballref01_Sub.l0 (M + d + 1) a b (n : Int) (out ++ [((x != y) != c)]) c ((i + 1 : Nat) : Int)) else (flyballref01_Sub.l0 (M + d + 1) a b (n : Int) (out ++ [((x != y) != c)]) false ((i + 1 : Nat) : Int))) else (if y = true then (flyballref01_Sub.l0 (M + d + 1) a b (n : Int) (out ++ [((x != y) != c)]) true ((i + 1 : Nat) : Int)) else (if c = true then (flyballref01_Sub.l0 (M + d + 1) a b (n : Int) (out ++ [((x != y) != c)]) true ((i + 1 : Nat) : Int)) else (flyballref01_Sub.l0 (M + d + 1) a b (n : Int) (out ++ [((x != y) != c)]) false ((i + 1 : Nat) : Int))))) =
        flyballref01_Sub.l0 (M + d + 1) a b (n : Int) (out ++ [addDigit x y c]) (borrow x y c) ((i + 1 : Nat) : Int) := by
      intro x y; unfold borrow addDigit
      cases x <;> cases y <;> cases c <;> simp
    rw [st]
    refine sub_l0 a b n hl M d (i + 1) _ _ (by omega) (by simp; omega) ?_
    rw [num_snoc, num_take_succ, num_take_succ, ho, Nat.pow_succ, Nat.mul_assoc]
    have dg := sub_digit (a.getD i false) (b.getD i false) c
    have e1 : 2 ^ i * (a.getD i false).toNat + 2 ^ i * (2 * (borrow (a.getD i false) (b.getD i false) c).toNat) = 2 ^ i * (addDigit (a.getD i false) (b.getD i false) c).toNat + 2 ^ i * (b.getD i false).toNat + 2 ^ i * c.toNat := by
      rw [← Nat.mul_add, ← Nat.mul_add, ← Nat.mul_add]; unfold borrow addDigit; rw [dg]
    omega
/-- A difference. -/
theorem sub_f (k : Nat) (a b : List Bool) (n : Nat) (hl : n ≤ 1000) (hk : n + 1 ≤ k) : ∃ r e, flyballref01_Sub.f k a b (n : Int) = some (r, e) ∧ r.length = n ∧ num r + num (b.take n) = num (a.take n) + 2 ^ n * e.toNat := by
  obtain ⟨M, rfl⟩ : ∃ M, k = M + n + 1 := ⟨k - (n + 1), by omega⟩
  exact sub_l0 a b n hl M n 0 [] false (by omega) rfl (by simp [num])
def cmpN (a b : Nat) : Int := if a < b then -1 else if b < a then 1 else 0
theorem cmp_l0 (a b : List Bool) (M : Nat) : ∀ (i : Nat), i ≤ 1000 → num (a.drop i) = num (b.drop i) → flyballref01_Cmp.l0 (M + i + 1) a b ((i : Int) - 1) = some (cmpN (num (a.take i)) (num (b.take i)))
  | 0, _, h => by rw [flyballref01_Cmp.l0, if_neg (by omega)]; rfl
  | i + 1, hi, h => by
    rw [show M + (i + 1) + 1 = (M + i + 1) + 1 by omega, flyballref01_Cmp.l0, if_pos (by omega)]
    rw [show ((i + 1 : Nat) : Int) - 1 = (i : Int) by omega]
    simp only [bit_f, Option.bind_some]
    rw [num_take_succ, num_take_succ]
    have la := num_take_lt a i
    have lb := num_take_lt b i
    by_cases e : a.getD i false = b.getD i false
    · rw [e]
      rw [if_neg (by simp), wrap_id (by omega) (by omega), cmp_l0 a b M i (by omega) ?_]
      · unfold cmpN; simp only [Nat.add_lt_add_iff_right]
      · have da : num (a.drop i) = (a.getD i false).toNat + 2 * num (a.drop (i + 1)) := by
          rw [num_div, num_div, num_getD, Nat.pow_succ, ← Nat.div_div_eq_div_mul]; omega
        have db : num (b.drop i) = (b.getD i false).toNat + 2 * num (b.drop (i + 1)) := by
          rw [num_div, num_div, num_getD, Nat.pow_succ, ← Nat.div_div_eq_div_mul]; omega
        rw [da, db, e, h]
    · rw [if_pos (by simpa using e)]
      cases ha : a.getD i false <;> cases hb : b.getD i false <;> simp_all [cmpN] <;> omega
/-- How two compare. -/
theorem cmp_f (k : Nat) (a b : List Bool) (ha : a.length ≤ 1000) (hb : b.length ≤ 1000) (hk : 1002 ≤ k) : flyballref01_Cmp.f k a b = some (cmpN (num a) (num b)) := by
  unfold flyballref01_Cmp.f
  rw [mx_eq, wrap_id (by omega) (by omega)]
  obtain ⟨n, hn⟩ : ∃ n : Nat, n = max a.length b.length := ⟨_, rfl⟩
  rw [show max (a.length : Int) (b.length : Int) = (n : Int) by omega]
  obtain ⟨M, rfl⟩ : ∃ M, k = M + n + 1 := ⟨k - (n + 1), by omega⟩
  rw [cmp_l0 a b M n (by omega) (by rw [List.drop_eq_nil_of_le (by omega), List.drop_eq_nil_of_le (by omega)]), num_take_all a n (by omega), num_take_all b n (by omega)]
theorem len_l0 (a : List Bool) (M : Nat) : ∀ (i : Nat), i ≤ a.length → i ≤ 1000 → num (a.drop i) = 0 → flyballref01_Len.l0 (M + i + 1) a (i : Int) = some ((bl (num a) : Nat) : Int)
  | 0, _, _, h => by
    rw [flyballref01_Len.l0, if_neg (by omega)]
    rw [show num a = 0 by simpa using h]; rfl
  | i + 1, hi, hj, h => by
    rw [show M + (i + 1) + 1 = (M + i + 1) + 1 by omega, flyballref01_Len.l0, if_pos (by omega), wrap_pred i (by omega), if_pos (by omega), if_pos (by omega), rdOf_eq]
    have sp := num_split a (i + 1)
    rw [h] at sp
    by_cases g : a.getD i false = true
    · rw [if_pos g, bl_eq (num a) (i + 1) (by have := num_take_lt a (i + 1); omega) (.inr (by simpa using num_take_getD a i g))]
    · rw [if_neg g]
      refine len_l0 a M i (by omega) (by omega) ?_
      have da : num (a.drop i) = (a.getD i false).toNat + 2 * num (a.drop (i + 1)) := by
        rw [num_div, num_div, num_getD, Nat.pow_succ, ← Nat.div_div_eq_div_mul]; omega
      simp at g
      rw [da, h]; simp [g]
/-- How long a number is. -/
theorem len_f (k : Nat) (a : List Bool) (ha : a.length ≤ 1000) (hk : 1001 ≤ k) : flyballref01_Len.f k a = some ((bl (num a) : Nat) : Int) := by
  obtain ⟨M, rfl⟩ : ∃ M, k = M + a.length + 1 := ⟨k - (a.length + 1), by omega⟩
  exact len_l0 a M a.length (Nat.le_refl _) ha (by simp [num])
end Go.Proofs.Ytdchdapllehppaa.Ev
end
section
set_option linter.unusedVariables false
set_option linter.unusedSimpArgs false
namespace Go.Proofs.Ytdchdapllehppaa.Ev
open Go.RowKit Go.Proofs.Ytdchdapllehppaa.PAll Go.Proofs.YtdchdapllehppaaW.PrintWords Go.Proofs.YtdchdapllehppaaW.PrintLast Go.Proofs.YtdchdapllehppaaW.PrintMore Go.Proofs.Ytdchdapllehppaa.Spec
theorem wrap_u64 (n : Int) : IntKind.u64.wrap n = n % 18446744073709551616 := by simp [IntKind.wrap, IntKind.bits, IntKind.signed]
theorem wrapN (n : Nat) : IntKind.u64.wrap (n : Int) = ((n % 18446744073709551616 : Nat) : Int) := by rw [wrap_u64]; omega
theorem wrapL (n : Nat) (h : n < 18446744073709551616) : IntKind.u64.wrap (n : Int) = (n : Int) := by rw [wrapN, Nat.mod_eq_of_lt h]
theorem shr_nat (x n : Nat) (h : n ≤ 64) : shr .u64 (x : Int) (n : Int) = ((x / 2 ^ n : Nat) : Int) := by
  unfold shr
  rw [show min (n : Int).toNat (IntKind.bits .u64) = n by simp [IntKind.bits]; omega]
  simp
theorem and_nat (a b : Nat) (ha : a < 18446744073709551616) (hb : b < 18446744073709551616) : Go.bits .and .u64 (a : Int) (b : Int) = ((a &&& b : Nat) : Int) :=
  (Go.bits_nat .u64 64 (by decide) (fun n h h' => by rw [wrap_u64]; omega) a b ha hb).1
theorem and_one (a : Nat) (ha : a < 18446744073709551616) : Go.bits .and .u64 (a : Int) 1 = ((a % 2 : Nat) : Int) := by
  have := and_nat a 1 ha (by omega)
  rw [Nat.and_one_is_mod] at this
  exact this
theorem of_l1 (xs : List Int) (j : Nat) (hj : j < xs.length) (hx : xs.length ≤ 3) (x : Nat) (hxj : rd xs (j : Int) = (x : Int)) (hx64 : x < 18446744073709551616) (M : Nat) : ∀ (d i : Nat) (out : List Bool), i + d = 64 → out.length = 64 * j + i →
    ∃ t, flyballref01_Of.l1 (M + d + 1) xs out (j : Int) (i : Int) = flyballref01_Of.l0 M xs (out ++ t) ((j + 1 : Nat) : Int) ∧ t.length = d ∧ num t = x / 2 ^ i
  | 0, i, out, e, ho => by
    obtain rfl : i = 64 := by omega
    rw [flyballref01_Of.l1, if_neg (by omega), wrap_succ j (by omega)]
    exact ⟨[], by rw [List.append_nil], rfl, by rw [Nat.div_eq_of_lt (by omega)]; rfl⟩
  | d + 1, i, out, e, ho => by
    rw [show M + (d + 1) + 1 = (M + d + 1) + 1 by omega, flyballref01_Of.l1, if_pos (by omega), if_pos (by omega), if_pos (by omega), wrapL i (by omega), if_pos (by omega), if_pos (by omega), wrap_succ i (by omega), hxj, shr_nat x i (by omega), and_one _ (Nat.lt_of_le_of_lt (Nat.div_le_self _ _) hx64)]
    obtain ⟨t, h1, h2, h3⟩ := of_l1 xs j hj hx x hxj hx64 M d (i + 1) (out ++ [(((x / 2 ^ i % 2 : Nat) : Int) == 1)]) (by omega) (by simp; omega)
    refine ⟨(((x / 2 ^ i % 2 : Nat) : Int) == 1) :: t, by rw [h1]; simp, by simp [h2], ?_⟩
    rw [num, h3, Nat.pow_succ, ← Nat.div_div_eq_div_mul]
    have : ((((x / 2 ^ i % 2 : Nat) : Int) == 1)).toNat = x / 2 ^ i % 2 := by
      rcases Nat.mod_two_eq_zero_or_one (x / 2 ^ i) with h | h <;> rw [h] <;> rfl
    omega
theorem of_l0_end (xs : List Int) (out : List Bool) (M : Nat) : flyballref01_Of.l0 (M + 1) xs out (xs.length : Int) = some out := by rw [flyballref01_Of.l0, if_neg (by omega)]
theorem of_l0_step (xs : List Int) (j : Nat) (hj : j < xs.length) (hx : xs.length ≤ 3) (x : Nat) (hxj : rd xs (j : Int) = (x : Int)) (hx64 : x < 18446744073709551616) (M : Nat) (out : List Bool) (ho : out.length = 64 * j) :
    ∃ t, flyballref01_Of.l0 (M + 66) xs out (j : Int) = flyballref01_Of.l0 M xs (out ++ t) ((j + 1 : Nat) : Int) ∧ t.length = 64 ∧ num t = x := by
  obtain ⟨t, h1, h2, h3⟩ := of_l1 xs j hj hx x hxj hx64 M 64 0 out (by omega) (by omega)
  refine ⟨t, ?_, h2, by simpa using h3⟩
  rw [show M + 66 = (M + 64 + 1) + 1 by omega, flyballref01_Of.l0, if_pos (by omega)]
  exact h1
theorem of2_f (k : Nat) (a b : Nat) (ha : a < 18446744073709551616) (hb : b < 18446744073709551616) (hk : 300 ≤ k) : ∃ r, flyballref01_Of.f k ([(a : Int), (b : Int)] : List Int) = some r ∧ num r = b * 18446744073709551616 + a ∧ r.length = 128 := by
  obtain ⟨M, rfl⟩ : ∃ M, k = M + 1 + 66 + 66 := ⟨k - 133, by omega⟩
  unfold flyballref01_Of.f
  obtain ⟨t, h1, h2, h3⟩ := of_l0_step [(a : Int), (b : Int)] 0 (by simp) (by simp) a (by rfl) ha (M + 1 + 66) [] (by simp)
  obtain ⟨s, g1, g2, g3⟩ := of_l0_step [(a : Int), (b : Int)] 1 (by simp) (by simp) b (by rfl) hb (M + 1) ([] ++ t) (by simp [h2])
  rw [show ((0 : Int)) = ((0 : Nat) : Int) by rfl, h1, g1]
  refine ⟨t ++ s, of_l0_end [(a : Int), (b : Int)] _ M, ?_, by simp [h2, g2]⟩
  rw [num_append, h2, h3, g3]
  omega
theorem of3_f (k : Nat) (a b c : Nat) (ha : a < 18446744073709551616) (hb : b < 18446744073709551616) (hc : c < 18446744073709551616) (hk : 300 ≤ k) :
    ∃ r, flyballref01_Of.f k ([(a : Int), (b : Int), (c : Int)] : List Int) = some r ∧ num r = (c * 18446744073709551616 + b) * 18446744073709551616 + a ∧ r.length = 192 := by
  obtain ⟨M, rfl⟩ : ∃ M, k = M + 1 + 66 + 66 + 66 := ⟨k - 199, by omega⟩
  unfold flyballref01_Of.f
  obtain ⟨t, h1, h2, h3⟩ := of_l0_step [(a : Int), (b : Int), (c : Int)] 0 (by simp) (by simp) a (by rfl) ha (M + 1 + 66 + 66) [] (by simp)
  obtain ⟨s, g1, g2, g3⟩ := of_l0_step [(a : Int), (b : Int), (c : Int)] 1 (by simp) (by simp) b (by rfl) hb (M + 1 + 66) ([] ++ t) (by simp [h2])
  obtain ⟨u, e1, e2, e3⟩ := of_l0_step [(a : Int), (b : Int), (c : Int)] 2 (by simp) (by simp) c (by rfl) hc (M + 1) ([] ++ t ++ s) (by simp [h2, g2])
  rw [show ((0 : Int)) = ((0 : Nat) : Int) by rfl, h1, g1, e1]
  refine ⟨t ++ s ++ u, of_l0_end [(a : Int), (b : Int), (c : Int)] _ M, ?_, by simp [h2, g2, e2]⟩
  rw [num_append, num_append, List.length_append, h2, g2, h3, g3, e3]
  omega
end Go.Proofs.Ytdchdapllehppaa.Ev
end
section
set_option linter.unusedVariables false
set_option linter.unusedSimpArgs false
namespace Go.Proofs.Ytdchdapllehppaa.Ev
open Go.RowKit Go.Proofs.Ytdchdapllehppaa.PAll Go.Proofs.YtdchdapllehppaaW.PrintWords Go.Proofs.YtdchdapllehppaaW.PrintLast Go.Proofs.YtdchdapllehppaaW.PrintMore Go.Proofs.Ytdchdapllehppaa.Spec
def lenTbl : ByteArray := ⟨#[0, 1, 2, 2, 3, 3, 3, 3, 4, 4, 4, 4, 4, 4, 4, 4, 5, 5, 5, 5, 5, 5, 5, 5, 5, 5, 5, 5, 5, 5, 5, 5, 6, 6, 6, 6, 6, 6, 6, 6, 6, 6, 6, 6, 6, 6, 6, 6, 6, 6, 6, 6, 6, 6, 6, 6, 6, 6, 6, 6, 6, 6, 6, 6, 7, 7, 7, 7, 7, 7, 7, 7, 7, 7, 7, 7, 7, 7, 7, 7, 7, 7, 7, 7, 7, 7, 7, 7, 7, 7, 7, 7, 7, 7, 7, 7, 7, 7, 7, 7, 7, 7, 7, 7, 7, 7, 7, 7, 7, 7, 7, 7, 7, 7, 7, 7, 7, 7, 7, 7, 7, 7, 7, 7, 7, 7, 7, 7, 8, 8, 8, 8, 8, 8, 8, 8, 8, 8, 8, 8, 8, 8, 8, 8, 8, 8, 8, 8, 8, 8, 8, 8, 8, 8, 8, 8, 8, 8, 8, 8, 8, 8, 8, 8, 8, 8, 8, 8, 8, 8, 8, 8, 8, 8, 8, 8, 8, 8, 8, 8, 8, 8, 8, 8, 8, 8, 8, 8, 8, 8, 8, 8, 8, 8, 8, 8, 8, 8, 8, 8, 8, 8, 8, 8, 8, 8, 8, 8, 8, 8, 8, 8, 8, 8, 8, 8, 8, 8, 8, 8, 8, 8, 8, 8, 8, 8, 8, 8, 8, 8, 8, 8, 8, 8, 8, 8, 8, 8, 8, 8, 8, 8, 8, 8, 8, 8, 8, 8, 8, 8, 8, 8, 8, 8, 8, 8]⟩
theorem len64_j0 (k : Nat) (x0 x2 : Int) : bits_Len64.j0 (k + 1) x0 x2 = if x0 ≥ 65536 then (if (x0 / 65536) ≥ 256 then (if 0 ≤ (((x0 / 65536) / 256) % 256) then (if (((x0 / 65536) / 256) % 256) < 256 then (some (wrap64 ((wrap64 ((wrap64 (x2 + 16)) + 8)) + (wrap64 (bt lenTbl (((x0 / 65536) / 256) % 256)))))) else (none)) else (none)) else (if 0 ≤ ((x0 / 65536) % 256) then (if ((x0 / 65536) % 256) < 256 then (some (wrap64 ((wrap64 (x2 + 16)) + (wrap64 (bt lenTbl ((x0 / 65536) % 256)))))) else (none)) else (none))) else (if x0 ≥ 256 then (if 0 ≤ ((x0 / 256) % 256) then (if ((x0 / 256) % 256) < 256 then (some (wrap64 ((wrap64 (x2 + 8)) + (wrap64 (bt lenTbl ((x0 / 256) % 256)))))) else (none)) else (none)) else (if 0 ≤ ((x0) % 256) then (if ((x0) % 256) < 256 then (some (wrap64 (x2 + (wrap64 (bt lenTbl ((x0) % 256)))))) else (none)) else (none))) := rfl
theorem lenTbl_at : ∀ i : Fin 256, bt lenTbl ((i : Nat) : Int) = ((bl i : Nat) : Int) := by decide +kernel
theorem lenTbl_nat (i : Nat) (h : i < 256) : bt lenTbl (i : Int) = ((bl i : Nat) : Int) := lenTbl_at ⟨i, h⟩
theorem bl_div (x n : Nat) (h : 2 ^ n ≤ x) : bl x = n + bl (x / 2 ^ n) := by
  have hp := Nat.two_pow_pos n
  have h1 : 0 < x / 2 ^ n := Nat.div_pos h hp
  have h2 := bl_lt (x / 2 ^ n)
  have h3 := bl_le (x / 2 ^ n) h1
  have h4 := bl_pos (x / 2 ^ n) h1
  refine bl_eq _ _ ?_ (.inr ?_)
  · rw [Nat.pow_add, Nat.mul_comm]; exact (Nat.div_lt_iff_lt_mul hp).1 h2
  · rw [show n + bl (x / 2 ^ n) - 1 = n + (bl (x / 2 ^ n) - 1) by omega, Nat.pow_add, Nat.mul_comm]; exact (Nat.le_div_iff_mul_le hp).1 h3
theorem len64_small (k : Nat) (x c : Nat) (hx : x < 4294967296) (hc : c ≤ 1000) : bits_Len64.j0 (k + 1) (x : Int) (c : Int) = some ((c + bl x : Nat) : Int) := by
  rw [len64_j0]
  have w : ∀ n : Nat, n ≤ 100000 → wrap64 (n : Int) = (n : Int) := fun n h => wrap_id (by omega) (by omega)
  have bs : ∀ n, n < 256 → bl n ≤ 8 := fun n h => bl_le_of_lt n 8 (by omega)
  by_cases h1 : 65536 ≤ x
  · rw [if_pos (by omega)]
    have e1 := bl_div x 16 (by omega)
    by_cases h2 : 256 ≤ x / 65536
    · rw [if_pos (by omega), if_pos (by omega), if_pos (by omega)]
      have e2 := bl_div (x / 2 ^ 16) 8 (by omega)
      have e3 : ((x : Int) / 65536 / 256 % 256) = ((x / 2 ^ 16 / 2 ^ 8 : Nat) : Int) := by omega
      have b := bs (x / 2 ^ 16 / 2 ^ 8) (by omega)
      rw [e3, lenTbl_nat _ (by omega), w _ (by omega), show wrap64 ((c : Int) + 16) = ((c + 16 : Nat) : Int) from w (c + 16) (by omega), show wrap64 (((c + 16 : Nat) : Int) + 8) = ((c + 24 : Nat) : Int) from w (c + 24) (by omega), ← Int.natCast_add, w _ (by omega), e1, e2]
      congr 2; omega
    · rw [if_neg (by omega), if_pos (by omega), if_pos (by omega)]
      have e3 : ((x : Int) / 65536 % 256) = ((x / 2 ^ 16 : Nat) : Int) := by omega
      have b := bs (x / 2 ^ 16) (by omega)
      rw [e3, lenTbl_nat _ (by omega), w _ (by omega), show wrap64 ((c : Int) + 16) = ((c + 16 : Nat) : Int) from w (c + 16) (by omega), ← Int.natCast_add, w _ (by omega), e1]
      congr 2; omega
  · rw [if_neg (by omega)]
    by_cases h2 : 256 ≤ x
    · rw [if_pos (by omega), if_pos (by omega), if_pos (by omega)]
      have e2 := bl_div x 8 (by omega)
      have e3 : ((x : Int) / 256 % 256) = ((x / 2 ^ 8 : Nat) : Int) := by omega
      have b := bs (x / 2 ^ 8) (by omega)
      rw [e3, lenTbl_nat _ (by omega), w _ (by omega), show wrap64 ((c : Int) + 8) = ((c + 8 : Nat) : Int) from w (c + 8) (by omega), ← Int.natCast_add, w _ (by omega), e2]
      congr 2; omega
    · rw [if_neg (by omega), if_pos (by omega), if_pos (by omega)]
      have e3 : ((x : Int) % 256) = (x : Int) := by omega
      have b := bs x (by omega)
      rw [e3, lenTbl_nat _ (by omega), w _ (by omega), ← Int.natCast_add, w _ (by omega)]
/-- How long a word is. -/
theorem len64_f (k : Nat) (x : Nat) (hx : x < 18446744073709551616) : bits_Len64.f (k + 1) (x : Int) = some ((bl x : Nat) : Int) := by
  unfold bits_Len64.f
  by_cases h : 4294967296 ≤ x
  · rw [if_pos (by omega), show (x : Int) / 4294967296 = ((x / 2 ^ 32 : Nat) : Int) by omega, bl_div x 32 (by omega)]
    exact len64_small k _ 32 (by omega) (by omega)
  · rw [if_neg (by omega)]
    have := len64_small k x 0 (by omega) (by omega)
    rw [Nat.zero_add] at this
    exact this
theorem add64_f (a b c : Nat) (hc : c ≤ 1) : bits_Add64.f (a : Int) (b : Int) (c : Int) = some ((((a + b + c) % 18446744073709551616 : Nat) : Int), (((a + b + c) / 18446744073709551616 : Nat) : Int)) := by
  unfold bits_Add64.f
  rw [if_pos (by omega)]; rfl
theorem sub64_f (a b c : Nat) (hb : b < 18446744073709551616) (hc : c ≤ 1) : bits_Sub64.f (a : Int) (b : Int) (c : Int) = some ((((a + 18446744073709551616 - b - c) % 18446744073709551616 : Nat) : Int), (((if a < b + c then 1 else 0) : Nat) : Int)) := by
  unfold bits_Sub64.f
  rw [if_pos (by omega)]
  by_cases h : a < b + c
  · rw [if_pos h, if_pos (by omega)]; congr 2; omega
  · rw [if_neg h, if_neg (by omega)]; congr 2; omega
end Go.Proofs.Ytdchdapllehppaa.Ev
end
section
set_option linter.unusedVariables false
set_option linter.unusedSimpArgs false
namespace Go.Proofs.Ytdchdapllehppaa.Ev
open Go.RowKit Go.Proofs.Ytdchdapllehppaa.PAll Go.Proofs.YtdchdapllehppaaW.PrintWords Go.Proofs.YtdchdapllehppaaW.PrintLast Go.Proofs.YtdchdapllehppaaW.PrintMore Go.Proofs.Ytdchdapllehppaa.Spec
/-- A digit of a quotient. -/
def dg (u w v1 v0 : Nat) : Nat := (u * 4294967296 + w) / (v1 * 4294967296 + v0)
theorem plain_lt (a b rh w u l : Nat) (h : a + rh = u) (g : rh * l + w < b) : u * l + w < a * l + b := by
  subst h
  rw [Nat.add_mul]
  omega
/-- A digit being guessed: d = v1 * 2^32 + v0 (its top bit is one), u < d, w a digit; q the guess, at least the quotient of u * 2^32 + w; rh = u - q * v1. -/
structure Guess (v1 v0 u w q rh : Nat) : Prop where
  v1b : 2147483648 ≤ v1
  v1t : v1 < 4294967296
  v0t : v0 < 4294967296
  wt : w < 4294967296
  ud : u < v1 * 4294967296 + v0
  eq : q * v1 + rh = u
  ge : dg u w v1 v0 ≤ q
theorem Guess.mulD (v1 v0 q : Nat) : q * (v1 * 4294967296 + v0) = q * v1 * 4294967296 + q * v0 := by rw [Nat.mul_add, Nat.mul_assoc]
/-- The guess is too great, seen at the second digit. -/
theorem Guess.over {v1 v0 u w q rh : Nat} (h : Guess v1 v0 u w q rh) (g : rh * 4294967296 + w < q * v0) : dg u w v1 v0 + 1 ≤ q := by
  have := h.v1b; have e := h.eq
  have : dg u w v1 v0 < q := by
    refine (Nat.div_lt_iff_lt_mul (k := v1 * 4294967296 + v0) (by omega)).2 ?_
    rw [Guess.mulD]
    exact plain_lt _ _ _ _ _ _ e g
  omega
/-- The guess is not too great. -/
theorem Guess.right {v1 v0 u w q rh : Nat} (h : Guess v1 v0 u w q rh) (g : q * v0 ≤ rh * 4294967296 + w) : dg u w v1 v0 = q := by
  have := h.v1b; have e := h.eq
  have g1 := h.ge
  have : q ≤ dg u w v1 v0 := by
    refine (Nat.le_div_iff_mul_le (k := v1 * 4294967296 + v0) (by omega)).2 ?_
    rw [Guess.mulD]
    omega
  omega
theorem Guess.first (v1 v0 u w : Nat) (b : 2147483648 ≤ v1) (t : v1 < 4294967296) (t0 : v0 < 4294967296) (tw : w < 4294967296) (ud : u < v1 * 4294967296 + v0) : Guess v1 v0 u w (u / v1) (u % v1) where
  v1b := b
  v1t := t
  v0t := t0
  wt := tw
  ud := ud
  eq := by rw [Nat.mul_comm]; exact Nat.div_add_mod u v1
  ge := by
    rw [Nat.le_div_iff_mul_le (by omega)]
    have h : dg u w v1 v0 * (v1 * 4294967296 + v0) ≤ u * 4294967296 + w := Nat.div_mul_le_self _ _
    rw [Guess.mulD] at h
    have : dg u w v1 v0 * v1 * 4294967296 < (u + 1) * 4294967296 := by omega
    have := Nat.lt_of_mul_lt_mul_right this
    omega
theorem Guess.u64 {v1 v0 u w q rh : Nat} (h : Guess v1 v0 u w q rh) : q < 18446744073709551616 ∧ u < 18446744073709551616 := by
  have := h.v1t; have := h.v0t; have := h.v1b; have := h.ud; have e := h.eq
  refine ⟨?_, by omega⟩
  have : q * 1 ≤ q * v1 := Nat.mul_le_mul_left q (by omega)
  omega
end Go.Proofs.Ytdchdapllehppaa.Ev
end
section
set_option linter.unusedVariables false
set_option linter.unusedSimpArgs false
namespace Go.Proofs.Ytdchdapllehppaa.Ev
open Go.RowKit Go.Proofs.Ytdchdapllehppaa.PAll Go.Proofs.YtdchdapllehppaaW.PrintWords Go.Proofs.YtdchdapllehppaaW.PrintLast Go.Proofs.YtdchdapllehppaaW.PrintMore Go.Proofs.Ytdchdapllehppaa.Spec
theorem add192_f (a b c d e f : Nat) (ha : a < 18446744073709551616) (hb : b < 18446744073709551616) (hc : c < 18446744073709551616) (hd : d < 18446744073709551616) (he : e < 18446744073709551616) (hf : f < 18446744073709551616) :
    ∃ r s t u : Nat, wide_U192_Add.f (a : Int) (b : Int) (c : Int) (d : Int) (e : Int) (f : Int) = some ((r : Int), (s : Int), (t : Int), (u : Int)) ∧ r < 18446744073709551616 ∧ s < 18446744073709551616 ∧ t < 18446744073709551616 ∧ u ≤ 1 ∧
      ((u * 18446744073709551616 + r) * 18446744073709551616 + s) * 18446744073709551616 + t = ((a * 18446744073709551616 + b) * 18446744073709551616 + c) + ((d * 18446744073709551616 + e) * 18446744073709551616 + f) := by
  unfold wide_U192_Add.f
  rw [show ((0 : Int)) = ((0 : Nat) : Int) from rfl, add64_f c f 0 (by omega), Option.bind_some]
  dsimp only
  rw [add64_f b e _ (by omega), Option.bind_some]
  dsimp only
  rw [add64_f a d _ (by omega), Option.bind_some]
  exact ⟨_, _, _, _, rfl, by omega, by omega, by omega, by omega, by omega⟩
theorem sub192_f (a b c d e f : Nat) (ha : a < 18446744073709551616) (hb : b < 18446744073709551616) (hc : c < 18446744073709551616) (hd : d < 18446744073709551616) (he : e < 18446744073709551616) (hf : f < 18446744073709551616) :
    ∃ r s t u : Nat, wide_U192_Sub.f (a : Int) (b : Int) (c : Int) (d : Int) (e : Int) (f : Int) = some ((r : Int), (s : Int), (t : Int), (u : Int)) ∧ r < 18446744073709551616 ∧ s < 18446744073709551616 ∧ t < 18446744073709551616 ∧ u ≤ 1 ∧
      ((r * 18446744073709551616 + s) * 18446744073709551616 + t) + ((d * 18446744073709551616 + e) * 18446744073709551616 + f) = ((u * 18446744073709551616 + a) * 18446744073709551616 + b) * 18446744073709551616 + c := by
  unfold wide_U192_Sub.f
  rw [show ((0 : Int)) = ((0 : Nat) : Int) from rfl, sub64_f c f 0 (by omega) (by omega), Option.bind_some]
  dsimp only
  have one : ∀ p : Prop, [Decidable p] → (if p then 1 else 0 : Nat) ≤ 1 := fun p _ => by split <;> omega
  rw [sub64_f b e _ (by omega) (one _), Option.bind_some]
  dsimp only
  rw [sub64_f a d _ (by omega) (one _), Option.bind_some]
  refine ⟨_, _, _, _, rfl, by omega, by omega, by omega, one _, ?_⟩
  obtain ⟨x, hx, hx1⟩ : ∃ x, (if c < f + 0 then 1 else 0 : Nat) = x ∧ ((x = 1 ∧ c < f) ∨ (x = 0 ∧ f ≤ c)) := by
    refine ⟨_, rfl, ?_⟩; split <;> omega
  rw [hx]
  obtain ⟨y, hy, hy1⟩ : ∃ y, (if b < e + x then 1 else 0 : Nat) = y ∧ ((y = 1 ∧ b < e + x) ∨ (y = 0 ∧ e + x ≤ b)) := by
    refine ⟨_, rfl, ?_⟩; split <;> omega
  rw [hy]
  obtain ⟨z, hz, hz1⟩ : ∃ z, (if a < d + y then 1 else 0 : Nat) = z ∧ ((z = 1 ∧ a < d + y) ∨ (z = 0 ∧ d + y ≤ a)) := by
    refine ⟨_, rfl, ?_⟩; split <;> omega
  rw [hz]
  omega
theorem ord_step (k : Nat) (l : List S82) (i : Nat) (hi : i < l.length) (hl : l.length ≤ 10) (x y : Nat) (hx : l[i]? = some ⟨(x : Int), (y : Int)⟩) :
    wide_order.l0 (k + 1) l (l.length : Int) (i : Int) = if x < y then some (-1) else if y < x then some 1 else wide_order.l0 k l (l.length : Int) ((i + 1 : Nat) : Int) := by
  have e : rd_T82 l (i : Int) = ⟨(x : Int), (y : Int)⟩ := by unfold rd_T82; simp [List.getD_eq_getElem?_getD, hx]
  rw [wide_order.l0, if_pos (by omega), if_pos (by omega), if_pos (by omega), e, wrap_succ i (by omega)]
  by_cases h : x < y
  · rw [if_pos (by simpa using h), if_pos h]
  · rw [if_neg (by simpa using h), if_neg h]
    by_cases g : y < x
    · rw [if_pos (by simpa using g), if_pos g]
    · rw [if_neg (by simpa using g), if_neg g]
theorem ord_end (k : Nat) (l : List S82) : wide_order.l0 (k + 1) l (l.length : Int) (l.length : Int) = some 0 := by rw [wide_order.l0, if_neg (by omega)]
theorem cmp192_f (k a b e c d f : Nat) (hb : b < 18446744073709551616) (hd : d < 18446744073709551616) (he : e < 18446744073709551616) (hf : f < 18446744073709551616) :
    wide_U192_Cmp.f (k + 4) (a : Int) (b : Int) (e : Int) (c : Int) (d : Int) (f : Int) = some (cmpN ((a * 18446744073709551616 + b) * 18446744073709551616 + e) ((c * 18446744073709551616 + d) * 18446744073709551616 + f)) := by
  unfold wide_U192_Cmp.f wide_order.f
  have h0 := ord_step (k + 3) [⟨(a : Int), (c : Int)⟩, ⟨(b : Int), (d : Int)⟩, ⟨(e : Int), (f : Int)⟩] 0 (by simp) (by simp) a c rfl
  have h1 := ord_step (k + 2) [⟨(a : Int), (c : Int)⟩, ⟨(b : Int), (d : Int)⟩, ⟨(e : Int), (f : Int)⟩] 1 (by simp) (by simp) b d rfl
  have h2 := ord_step (k + 1) [⟨(a : Int), (c : Int)⟩, ⟨(b : Int), (d : Int)⟩, ⟨(e : Int), (f : Int)⟩] 2 (by simp) (by simp) e f rfl
  have h3 := ord_end k [⟨(a : Int), (c : Int)⟩, ⟨(b : Int), (d : Int)⟩, ⟨(e : Int), (f : Int)⟩]
  rw [show (0 : Int) = ((0 : Nat) : Int) from rfl, h0, h1, h2, show ((2 + 1 : Nat) : Int) = (([⟨(a : Int), (c : Int)⟩, ⟨(b : Int), (d : Int)⟩, ⟨(e : Int), (f : Int)⟩] : List S82).length : Int) from rfl, h3]
  unfold cmpN
  by_cases g1 : a < c
  · rw [if_pos g1, if_pos (by omega)]; rfl
  · rw [if_neg g1]
    by_cases g2 : c < a
    · rw [if_pos g2, if_neg (by omega), if_pos (by omega)]; rfl
    · rw [if_neg g2]
      by_cases g3 : b < d
      · rw [if_pos g3, if_pos (by omega)]; rfl
      · rw [if_neg g3]
        by_cases g4 : d < b
        · rw [if_pos g4, if_neg (by omega), if_pos (by omega)]; rfl
        · rw [if_neg g4]
          by_cases g5 : e < f
          · rw [if_pos g5, if_pos (by omega)]; rfl
          · rw [if_neg g5]
            by_cases g6 : f < e
            · rw [if_pos g6, if_neg (by omega), if_pos (by omega)]; rfl
            · rw [if_neg g6, if_neg (by omega), if_neg (by omega)]; rfl
theorem bl_two (h l : Nat) (hh : 0 < h) (hl : l < 18446744073709551616) : bl (h * 18446744073709551616 + l) = 64 + bl h := by
  rw [bl_div _ 64 (by omega)]
  congr 2
  omega
theorem len128_f (k a b : Nat) (ha : a < 18446744073709551616) (hb : b < 18446744073709551616) : wide_U128_Len.f (k + 1) (a : Int) (b : Int) = some ((bl (a * 18446744073709551616 + b) : Nat) : Int) := by
  unfold wide_U128_Len.f
  by_cases h : 0 < a
  · have := bl_le_of_lt a 64 (by omega)
    rw [if_pos (by omega), len64_f k a ha, Option.bind_some, wrap_id (by omega) (by omega), bl_two a b h hb]
    rfl
  · obtain rfl : a = 0 := by omega
    rw [if_neg (by omega), len64_f k b hb, Option.bind_some, Nat.zero_mul, Nat.zero_add]
theorem len192_f (k a b c : Nat) (ha : a < 18446744073709551616) (hb : b < 18446744073709551616) (hc : c < 18446744073709551616) : wide_U192_Len.f (k + 1) (a : Int) (b : Int) (c : Int) = some ((bl ((a * 18446744073709551616 + b) * 18446744073709551616 + c) : Nat) : Int) := by
  unfold wide_U192_Len.f wide_U192_top.f
  rw [Option.bind_some]
  dsimp only
  rw [len128_f k a b ha hb, Option.bind_some]
  have := bl_le_of_lt (a * 18446744073709551616 + b) 128 (by omega)
  by_cases h : 0 < a * 18446744073709551616 + b
  · have := bl_pos _ h
    rw [if_pos (by omega), wrap_id (by omega) (by omega), bl_two _ c h hc]
    rfl
  · have e : a * 18446744073709551616 + b = 0 := by omega
    rw [e, if_neg (by rw [bl_zero]; omega), len64_f k c hc, Option.bind_some, Nat.zero_mul, Nat.zero_add]
end Go.Proofs.Ytdchdapllehppaa.Ev
end
section
set_option linter.unusedVariables false
set_option linter.unusedSimpArgs false
namespace Go.Proofs.Ytdchdapllehppaa.Ev
open Go.RowKit Go.Proofs.Ytdchdapllehppaa.PAll Go.Proofs.YtdchdapllehppaaW.PrintWords Go.Proofs.YtdchdapllehppaaW.PrintLast Go.Proofs.YtdchdapllehppaaW.PrintMore Go.Proofs.Ytdchdapllehppaa.Spec
theorem dbc {p : Prop} [Decidable p] (h : ¬ p → False) : p := Decidable.byContradiction h
end Go.Proofs.Ytdchdapllehppaa.Ev
end
section
set_option linter.unusedVariables false
set_option linter.unusedSimpArgs false
namespace Go.Proofs.Ytdchdapllehppaa.Ev
open Go.RowKit Go.Proofs.Ytdchdapllehppaa.PAll Go.Proofs.YtdchdapllehppaaW.PrintWords Go.Proofs.YtdchdapllehppaaW.PrintLast Go.Proofs.YtdchdapllehppaaW.PrintMore Go.Proofs.Ytdchdapllehppaa.Spec
theorem works_at : flyballlaw01_works.f 200 = some true := by kernel_rfl
theorem works_f (k : Nat) (hk : 200 ≤ k) : flyballlaw01_works.f k = some true := at_rounds flyballlaw01_works.mono hk works_at
theorem nat64 {x : Int} (h : (Lit.int .u64 x).wf = true) : ∃ n : Nat, x = (n : Int) ∧ n < 18446744073709551616 := by
  have : 0 ≤ x ∧ x < 18446744073709551616 := by
    have e := h
    simp [Lit.wf, Go.IntKind.min, Go.IntKind.max, Go.IntKind.signed, Go.IntKind.bits] at e
    omega
  exact ⟨x.toNat, by omega, by omega⟩
theorem cmpN_zero (a b : Nat) : (cmpN a b == 0) = decide (a = b) := by
  unfold cmpN
  by_cases h : a < b
  · rw [if_pos h, decide_eq_false (by omega)]; rfl
  · rw [if_neg h]
    by_cases g : b < a
    · rw [if_pos g, decide_eq_false (by omega)]; rfl
    · rw [if_neg g, decide_eq_true (by omega)]; rfl
theorem of_f (k a b : Nat) (ha : a < 18446744073709551616) (hb : b < 18446744073709551616) (hk : 300 ≤ k) : ∃ r, flyballlaw01_of.f k (a : Int) (b : Int) = some r ∧ num r = a * 18446744073709551616 + b ∧ r.length = 128 := by
  obtain ⟨r, h1, h2, h3⟩ := of2_f k b a hb ha hk
  unfold flyballlaw01_of.f
  rw [h1, Option.bind_some]
  exact ⟨r, rfl, h2, h3⟩
theorem of3w_f (k a b c : Nat) (ha : a < 18446744073709551616) (hb : b < 18446744073709551616) (hc : c < 18446744073709551616) (hk : 300 ≤ k) : ∃ r, flyballlaw01_of3.f k (a : Int) (b : Int) (c : Int) = some r ∧ num r = (a * 18446744073709551616 + b) * 18446744073709551616 + c ∧ r.length = 192 := by
  obtain ⟨r, h1, h2, h3⟩ := of3_f k c b a hc hb ha hk
  unfold flyballlaw01_of3.f
  rw [h1, Option.bind_some]
  exact ⟨r, rfl, h2, h3⟩
theorem is3_f (k a b c : Nat) (l : List Bool) (ha : a < 18446744073709551616) (hb : b < 18446744073709551616) (hc : c < 18446744073709551616) (hl : l.length ≤ 1000) (hk : 1002 ≤ k) : flyballlaw01_is3.f k (a : Int) (b : Int) (c : Int) l = some (decide ((a * 18446744073709551616 + b) * 18446744073709551616 + c = num l)) := by
  obtain ⟨r, h1, h2, h3⟩ := of3w_f k a b c ha hb hc (by omega)
  unfold flyballlaw01_is3.f
  rw [h1, Option.bind_some, cmp_f k r l (by omega) hl hk, Option.bind_some, cmpN_zero, h2]
theorem one_f (b : Bool) : flyballlaw01_one.f b = some ((b.toNat : Nat) : Int) := by cases b <;> rfl
end Go.Proofs.Ytdchdapllehppaa.Ev
end
section
set_option linter.unusedVariables false
set_option linter.unusedSimpArgs false
namespace Go.Proofs.Ytdchdapllehppaa.Ev
open Go.RowKit Go.Proofs.Ytdchdapllehppaa.PAll Go.Proofs.YtdchdapllehppaaW.PrintWords Go.Proofs.YtdchdapllehppaaW.PrintLast Go.Proofs.YtdchdapllehppaaW.PrintMore Go.Proofs.Ytdchdapllehppaa.Spec
/-- A sum's bits, the carry among them. -/
theorem sum_bits (s : List Bool) (n e m : Nat) (hl : s.length = n ∨ s.length = n + 1) (h : num s = e * 2 ^ n + m) (hm : m < 2 ^ n) (he : e ≤ 1) : num (s.take n) = m ∧ (s.getD n false).toNat = e := by
  have p := Nat.two_pow_pos n
  have d : (e * 2 ^ n + m) / 2 ^ n = e := by rw [Nat.mul_comm, Nat.mul_add_div p, Nat.div_eq_of_lt hm, Nat.add_zero]
  constructor
  · rw [num_mod, h, Nat.mul_comm, Nat.mul_add_mod, Nat.mod_eq_of_lt hm]
  · rw [num_getD, h, d, Nat.mod_eq_of_lt (by omega)]
/-- A difference's bits, what is borrowed among them. -/
theorem dif_bits (x y r m n : Nat) (e : Bool) (f : Nat) (hf : f ≤ 1) (hr : r < n) (hm : m < n) (h1 : r + y = x + n * e.toNat) (h2 : m + y = f * n + x) : r = m ∧ e.toNat = f := by
  have h3 : f = 0 ∨ f = 1 := by omega
  cases e <;> rcases h3 with rfl | rfl <;> simp at h1 h2 ⊢ <;> omega
theorem bits_dif (n : Nat) (l x y : List Bool) (m v w : Nat) (e : Bool) (f : Nat) (hf : f ≤ 1) (hl : l.length = n) (hx : x.length = n) (hy : y.length = n) (hv : num x = v) (hw : num y = w) (hm : m < 2 ^ n) (h1 : num l + num (y.take n) = num (x.take n) + 2 ^ n * e.toNat) (h2 : m + w = f * 2 ^ n + v) : num l = m ∧ e.toNat = f := by
  rw [num_take_all y n (by omega), num_take_all x n (by omega), hv, hw] at h1
  have dl := num_lt l
  rw [hl] at dl
  exact dif_bits v w (num l) m (2 ^ n) e f hf dl hm h1 h2
def val24 (x : S24) : Nat := x.f0.toNat * 18446744073709551616 + x.f1.toNat
def sum24 : List S24 → Nat
  | [] => 0
  | x :: l => val24 x + sum24 l
theorem sum24_append (a b : List S24) : sum24 (a ++ b) = sum24 a + sum24 b := by
  induction a with
  | nil => simp [sum24]
  | cons x a ih => simp only [List.cons_append, sum24, ih, Nat.add_assoc]
theorem sum24_take (l : List S24) (i : Nat) (h : i < l.length) : sum24 (l.take (i + 1)) = sum24 (l.take i) + val24 (rd_T24 l (i : Int)) := by
  have e : rd_T24 l (i : Int) = l[i] := by unfold rd_T24; simp [List.getD_eq_getElem?_getD, h]
  rw [e, List.take_succ_eq_append_getElem h, sum24_append]
  simp [sum24]
/-- An element's words. -/
theorem rd24 (l : List S24) (hl : ∀ x ∈ l, (Lit.int .u64 x.f0).wf = true ∧ (Lit.int .u64 x.f1).wf = true) (i : Nat) (h : i < l.length) : ∃ a b : Nat, (rd_T24 l (i : Int)).f0 = (a : Int) ∧ (rd_T24 l (i : Int)).f1 = (b : Int) ∧ a < 18446744073709551616 ∧ b < 18446744073709551616 ∧ val24 (rd_T24 l (i : Int)) = a * 18446744073709551616 + b := by
  have e : rd_T24 l (i : Int) = l[i] := by unfold rd_T24; simp [List.getD_eq_getElem?_getD, h]
  obtain ⟨h0, h1⟩ := hl _ (List.getElem_mem h)
  obtain ⟨a, ea, ha⟩ := nat64 h0
  obtain ⟨b, eb, hb⟩ := nat64 h1
  rw [e]
  exact ⟨a, b, ea, eb, ha, hb, by unfold val24; rw [ea, eb]; rfl⟩
theorem mod_step (s v n : Nat) : (s % n + v) % n = (s + v) % n := Nat.mod_add_mod s n v
theorem sum_l0 (l : List S24) (hl : ∀ x ∈ l, (Lit.int .u64 x.f0).wf = true ∧ (Lit.int .u64 x.f1).wf = true) (hn : l.length ≤ 300) (M : Nat) : ∀ (d i a b c : Nat), i + d = l.length → a < 18446744073709551616 → b < 18446744073709551616 → c < 18446744073709551616 → (a * 18446744073709551616 + b) * 18446744073709551616 + c = sum24 (l.take i) % 6277101735386680763835789423207666416102355444464034512896 →
    ∃ r s t : Nat, wide_Sum.l0 (M + d + 1) l (l.length : Int) (i : Int) (a : Int) (b : Int) (c : Int) = some ((r : Int), (s : Int), (t : Int)) ∧ r < 18446744073709551616 ∧ s < 18446744073709551616 ∧ t < 18446744073709551616 ∧ (r * 18446744073709551616 + s) * 18446744073709551616 + t = sum24 l % 6277101735386680763835789423207666416102355444464034512896 := by
  intro d
  induction d with
  | zero =>
    intro i a b c e ha hb hc h
    rw [wide_Sum.l0, if_neg (by omega)]
    rw [List.take_of_length_le (by omega)] at h
    exact ⟨a, b, c, rfl, ha, hb, hc, h⟩
  | succ d ih =>
    intro i a b c e ha hb hc h
    obtain ⟨x, y, x1, x2, x3, x4, x5⟩ := rd24 l hl i (by omega)
    obtain ⟨r, s, t, u, f1, f2, f3, f4, f5, f6⟩ := add192_f a b c 0 x y ha hb hc (by omega) x3 x4
    rw [show M + (d + 1) + 1 = (M + d + 1) + 1 by omega, wide_Sum.l0, if_pos (by omega), if_pos (by omega), if_pos (by omega), x1, x2, show (0 : Int) = ((0 : Nat) : Int) from rfl, f1, Option.bind_some, wrap_succ i (by omega)]
    refine ih (i + 1) r s t (by omega) f2 f3 f4 ?_
    rw [sum24_take l i (by omega), x5, ← mod_step, ← h]
    exact dbc (fun _ => by omega)
/-- All together, modulo. -/
theorem sum_f (k : Nat) (l : List S24) (hl : ∀ x ∈ l, (Lit.int .u64 x.f0).wf = true ∧ (Lit.int .u64 x.f1).wf = true) (hn : l.length ≤ 300) (hk : 301 ≤ k) :
    ∃ r s t : Nat, wide_Sum.f k l = some ((r : Int), (s : Int), (t : Int)) ∧ r < 18446744073709551616 ∧ s < 18446744073709551616 ∧ t < 18446744073709551616 ∧ (r * 18446744073709551616 + s) * 18446744073709551616 + t = sum24 l % 6277101735386680763835789423207666416102355444464034512896 := by
  obtain ⟨M, rfl⟩ : ∃ M, k = M + l.length + 1 := ⟨k - (l.length + 1), by omega⟩
  exact sum_l0 l hl hn M l.length 0 0 0 0 (by omega) (by omega) (by omega) (by omega) rfl
theorem num_min (l : List Bool) (n : Nat) : num (l.take (min l.length n)) = num l % 2 ^ n := by
  rw [← num_mod]
  by_cases h : l.length ≤ n
  · rw [Nat.min_eq_left h, List.take_length, List.take_of_length_le h]
  · rw [Nat.min_eq_right (by omega)]
end Go.Proofs.Ytdchdapllehppaa.Ev
end
section
set_option linter.unusedVariables false
set_option linter.unusedSimpArgs false
namespace Go.Proofs.Ytdchdapllehppaa.Pure
open Go.RowKit Go.Proofs.Ytdchdapllehppaa.PAll Go.Proofs.YtdchdapllehppaaW.PrintWords Go.Proofs.YtdchdapllehppaaW.PrintLast Go.Proofs.YtdchdapllehppaaW.PrintMore Go.Proofs.Ytdchdapllehppaa.Spec Go.Proofs.Ytdchdapllehppaa.Ev
theorem lt192 {a b c : Nat} (ha : a < 18446744073709551616) (hb : b < 18446744073709551616) (hc : c < 18446744073709551616) : (a * 18446744073709551616 + b) * 18446744073709551616 + c < 2 ^ 192 := by
  have hh : (2 : Nat) ^ 192 = 6277101735386680763835789423207666416102355444464034512896 := by decide
  rw [hh]
  exact dbc (fun _ => by omega)
theorem eq192 (u a b c : Nat) : ((u * 18446744073709551616 + a) * 18446744073709551616 + b) * 18446744073709551616 + c = u * 2 ^ 192 + ((a * 18446744073709551616 + b) * 18446744073709551616 + c) := by
  have hh : (2 : Nat) ^ 192 = 6277101735386680763835789423207666416102355444464034512896 := by decide
  rw [hh]
  exact dbc (fun _ => by omega)
/-- All that the law holds of the first part. -/
structure First (k a0 a1 a2 b0 b1 b2 s0 s1 s2 e d0 d1 d2 x : Nat) (sm df : List Bool) (bo : Bool) (n m : List Bool) : Prop where
  of1 : flyballlaw01_of3.f k (a0 : Int) (a1 : Int) (a2 : Int) = some n
  of2 : flyballlaw01_of3.f k (b0 : Int) (b1 : Int) (b2 : Int) = some m
  len : sm.length = 192 ∨ sm.length = 193
  is1 : flyballlaw01_is3.f k (s0 : Int) (s1 : Int) (s2 : Int) (sm.take 192) = some true
  is2 : flyballlaw01_is3.f k (d0 : Int) (d1 : Int) (d2 : Int) df = some true
  car : (sm.getD 192 false).toNat = e
  bor : bo.toNat = x
  cmp : ∃ c, wide_U192_Cmp.f k (a0 : Int) (a1 : Int) (a2 : Int) (b0 : Int) (b1 : Int) (b2 : Int) = some c ∧ flyballref01_Cmp.f k n m = some c
  lens : ∃ c, wide_U192_Len.f k (a0 : Int) (a1 : Int) (a2 : Int) = some c ∧ flyballref01_Len.f k n = some c
theorem threes_end (k : Nat) (l : List S24) (hl : ∀ x ∈ l, (Lit.int .u64 x.f0).wf = true ∧ (Lit.int .u64 x.f1).wf = true) (hn : l.length ≤ 300) (hk : 4000 ≤ k) (a0 a1 a2 b0 b1 b2 s0 s1 s2 e d0 d1 d2 x : Nat) (sm df : List Bool) (bo : Bool) (n m all : List Bool) (F : First k a0 a1 a2 b0 b1 b2 s0 s1 s2 e d0 d1 d2 x sm df bo n m)
    (ha : all.length ≤ 500) (hv : num all = sum24 l) :
    flyballlaw01_WideThrees.l0 (k + 1) l true (e : Int) (x : Int) sm df bo all (l.length : Int) (a0 : Int) (a1 : Int) (a2 : Int) (b0 : Int) (b1 : Int) (b2 : Int) (s0 : Int) (s1 : Int) (s2 : Int) (d0 : Int) (d1 : Int) (d2 : Int) = some true := by
  obtain ⟨r, s, t, f1, f2, f3, f4, f5⟩ := sum_f k l hl hn (by omega)
  obtain ⟨c1, c2, c3⟩ := F.cmp
  obtain ⟨l1, l2, l3⟩ := F.lens
  have i3 := is3_f k r s t (all.take (min all.length 192)) f2 f3 f4 (by rw [List.length_take]; omega) (by omega)
  have nm := num_min all 192
  rw [hv] at nm
  have hh : (2 : Nat) ^ 192 = 6277101735386680763835789423207666416102355444464034512896 := by decide
  rw [hh] at nm
  rw [nm, f5, decide_eq_true rfl] at i3
  have len := F.len
  rw [flyballlaw01_WideThrees.l0, if_neg (by omega), if_pos (by omega), F.is1, Option.bind_some, F.is2, Option.bind_some, f1, Option.bind_some, mn_eq, if_pos (by omega), if_pos (by omega)]
  dsimp only
  rw [show (min (all.length : Int) 192).toNat = min all.length 192 by omega, i3, Option.bind_some, if_pos rfl, if_pos rfl, if_pos rfl, if_pos rfl]
  have rest : ∀ o : Bool, o.toNat = e → ((flyballlaw01_one.f o).bind fun t7355 => (if (e : Int) = t7355 then ((flyballlaw01_one.f bo).bind fun t7356 => (if (x : Int) = t7356 then ((wide_U192_Cmp.f k (a0 : Int) (a1 : Int) (a2 : Int) (b0 : Int) (b1 : Int) (b2 : Int)).bind fun t7357 => ((flyballlaw01_of3.f k (a0 : Int) (a1 : Int) (a2 : Int)).bind fun t7358 => ((flyballlaw01_of3.f k (b0 : Int) (b1 : Int) (b2 : Int)).bind fun t7361 => ((flyballref01_Cmp.f k t7358 t7361).bind fun t7364 => (if t7357 = t7364 then ((wide_U192_Len.f k (a0 : Int) (a1 : Int) (a2 : Int)).bind fun t7365 => ((flyballlaw01_of3.f k (a0 : Int) (a1 : Int) (a2 : Int)).bind fun t7366 => ((flyballref01_Len.f k t7366).bind fun t7369 => (some (t7365 == t7369))))) else (none)))))) else (none))) else (none))) = some true := by
    intro o ho
    have hb := F.bor
    rw [one_f, Option.bind_some, if_pos (by omega), one_f, Option.bind_some, if_pos (by omega), c2, Option.bind_some, F.of1, Option.bind_some, F.of2, Option.bind_some, c3, Option.bind_some, if_pos rfl, l2, Option.bind_some, Option.bind_some, l3, Option.bind_some]
    simp
  by_cases g : 192 < sm.length
  · rw [if_pos (by omega), if_pos (by omega), show (192 : Int) = ((192 : Nat) : Int) from rfl, rdOf_eq]
    exact rest _ F.car
  · rw [if_neg (by omega)]
    refine rest false ?_
    rw [← F.car, getD_beyond sm 192 (by omega)]
theorem threes_l0 (l : List S24) (hl : ∀ x ∈ l, (Lit.int .u64 x.f0).wf = true ∧ (Lit.int .u64 x.f1).wf = true) (hn : l.length ≤ 300) (M : Nat) (hM : 4000 ≤ M) (a0 a1 a2 b0 b1 b2 s0 s1 s2 e d0 d1 d2 x : Nat) (sm df : List Bool) (bo : Bool) (n m : List Bool) (F : First M a0 a1 a2 b0 b1 b2 s0 s1 s2 e d0 d1 d2 x sm df bo n m) :
    ∀ (d i : Nat) (all : List Bool), i + d = l.length → all.length ≤ 128 + i → num all = sum24 (l.take i) →
      flyballlaw01_WideThrees.l0 (M + d + 1) l true (e : Int) (x : Int) sm df bo all (i : Int) (a0 : Int) (a1 : Int) (a2 : Int) (b0 : Int) (b1 : Int) (b2 : Int) (s0 : Int) (s1 : Int) (s2 : Int) (d0 : Int) (d1 : Int) (d2 : Int) = some true := by
  intro d
  induction d with
  | zero =>
    intro i all ei ha hv
    obtain rfl : i = l.length := by omega
    rw [List.take_length] at hv
    exact threes_end M l hl hn hM a0 a1 a2 b0 b1 b2 s0 s1 s2 e d0 d1 d2 x sm df bo n m all F (by omega) hv
  | succ d ih =>
    intro i all ei ha hv
    obtain ⟨y, z, y1, y2, y3, y4, y5⟩ := rd24 l hl i (by omega)
    obtain ⟨o, o1, o2, o3⟩ := of_f (M + d + 1) y z y3 y4 (by omega)
    obtain ⟨q, q1, q2, q3⟩ := add_f (M + d + 1) all o _ rfl (by omega) (by omega)
    rw [show M + (d + 1) + 1 = (M + d + 1) + 1 by omega, flyballlaw01_WideThrees.l0, if_pos (by omega), if_pos (by omega), y1, y2, o1, Option.bind_some, q1, Option.bind_some, wrap_succ i (by omega)]
    refine ih (i + 1) q (by omega) (by omega) ?_
    rw [q2, hv, o2, sum24_take l i (by omega), y5]
set_option maxHeartbeats 2000000 in
theorem WideThrees (a0_0 a0_1 a0_2 a1_0 a1_1 a1_2 : Int) (l2 : List S24) (w0 : (Lit.int .u64 a0_0).wf = true) (w1 : (Lit.int .u64 a0_1).wf = true) (w2 : (Lit.int .u64 a0_2).wf = true) (w3 : (Lit.int .u64 a1_0).wf = true) (w4 : (Lit.int .u64 a1_1).wf = true) (w5 : (Lit.int .u64 a1_2).wf = true) (hl : ∀ x ∈ l2, (Lit.int .u64 x.f0).wf = true ∧ (Lit.int .u64 x.f1).wf = true) :
    ∃ k, flyballlaw01_WideThrees.f k a0_0 a0_1 a0_2 a1_0 a1_1 a1_2 l2 = some true := by
  obtain ⟨a0, rfl, h0⟩ := nat64 w0
  obtain ⟨a1, rfl, h1⟩ := nat64 w1
  obtain ⟨a2, rfl, h2⟩ := nat64 w2
  obtain ⟨b0, rfl, g0⟩ := nat64 w3
  obtain ⟨b1, rfl, g1⟩ := nat64 w4
  obtain ⟨b2, rfl, g2⟩ := nat64 w5
  obtain ⟨s0, s1, s2, e, f1, f2, f3, f4, f5, f6⟩ := add192_f a0 a1 a2 b0 b1 b2 h0 h1 h2 g0 g1 g2
  obtain ⟨d0, d1, d2, x, e1, e2, e3, e4, e5, e6⟩ := sub192_f a0 a1 a2 b0 b1 b2 h0 h1 h2 g0 g1 g2
  have F6 := Aside0.mk f6
  have E6 := Aside0.mk e6
  clear f6 e6
  obtain ⟨n, n1, n2, n3⟩ := of3w_f 4004 a0 a1 a2 h0 h1 h2 (by omega)
  obtain ⟨m, m1, m2, m3⟩ := of3w_f 4004 b0 b1 b2 g0 g1 g2 (by omega)
  obtain ⟨sm, q1, q2, q3⟩ := add_f 4004 n m 192 (by omega) (by omega) (by omega)
  obtain ⟨df, bo, p1, p2, p3⟩ := sub_f 4004 n m 192 (by omega) (by omega)
  have P3 := Aside0.mk p3
  clear p3
  obtain ⟨t1, t2⟩ := sum_bits sm 192 e ((s0 * 18446744073709551616 + s1) * 18446744073709551616 + s2) q3 (by rw [q2, n2, m2, ← F6.out]; exact eq192 _ _ _ _) (lt192 f2 f3 f4) f5
  obtain ⟨t3, t4⟩ := bits_dif 192 df n m ((d0 * 18446744073709551616 + d1) * 18446744073709551616 + d2) ((a0 * 18446744073709551616 + a1) * 18446744073709551616 + a2) ((b0 * 18446744073709551616 + b1) * 18446744073709551616 + b2) bo x e5 p2 n3 m3 n2 m2 (lt192 e2 e3 e4) P3.out (by rw [E6.out]; exact eq192 _ _ _ _)
  clear P3 F6 E6 q2
  have ups : ∀ k, 4004 ≤ k → flyballlaw01_of3.f k (a0 : Int) (a1 : Int) (a2 : Int) = some n ∧ flyballlaw01_of3.f k (b0 : Int) (b1 : Int) (b2 : Int) = some m ∧ flyballref01_Add.f k n m = some sm ∧ flyballref01_Sub.f k n m 192 = some (df, bo) := fun k hk =>
    ⟨at_rounds (flyballlaw01_of3.mono _ _ _) hk n1, at_rounds (flyballlaw01_of3.mono _ _ _) hk m1, at_rounds (flyballref01_Add.mono _ _) hk q1, at_rounds (flyballref01_Sub.mono _ _ _) hk p1⟩
  have F : First 4004 a0 a1 a2 b0 b1 b2 s0 s1 s2 e d0 d1 d2 x sm df bo n m := by
    have c1 := cmp192_f 4000 a0 a1 a2 b0 b1 b2 h1 g1 h2 g2
    have c2 := cmp_f 4004 n m (by omega) (by omega) (by omega)
    have l1 := len192_f 4003 a0 a1 a2 h0 h1 h2
    have l3 := len_f 4004 n (by omega) (by omega)
    rw [n2, m2] at c2
    rw [n2] at l3
    have i1 := is3_f 4004 s0 s1 s2 (sm.take 192) f2 f3 f4 (by rw [List.length_take]; omega) (by omega)
    have i2 := is3_f 4004 d0 d1 d2 df e2 e3 e4 (by omega) (by omega)
    rw [t1, decide_eq_true rfl] at i1
    rw [t3, decide_eq_true rfl] at i2
    exact ⟨n1, m1, q3, i1, i2, t2, t4, ⟨_, c1, c2⟩, ⟨_, l1, l3⟩⟩
  by_cases hn : l2.length ≤ 300
  · refine ⟨4004 + l2.length + 1, ?_⟩
    obtain ⟨u1, u2, u3, u4⟩ := ups (4004 + l2.length + 1) (by omega)
    unfold flyballlaw01_WideThrees.f
    rw [works_f _ (by omega), Option.bind_some, if_pos rfl, if_neg (by omega), f1, Option.bind_some, e1, Option.bind_some, u1, Option.bind_some, u2, Option.bind_some, u3, Option.bind_some, Option.bind_some, Option.bind_some, u4, Option.bind_some]
    exact threes_l0 l2 hl hn 4004 (by omega) a0 a1 a2 b0 b1 b2 s0 s1 s2 e d0 d1 d2 x sm df bo n m F l2.length 0 [] (by omega) (by simp) rfl
  · refine ⟨200, ?_⟩
    unfold flyballlaw01_WideThrees.f
    rw [works_f _ (by omega), Option.bind_some, if_pos rfl, if_pos (by omega)]
end Go.Proofs.Ytdchdapllehppaa.Pure
end
section
set_option linter.unusedVariables false
set_option linter.unusedSimpArgs false
namespace Go.Proofs.YtdchdapllehppaaAid
open Go.Deep Go.Joins Go.ChangeShapes Go.WideShapes Go.RowKit
section
variable {H : Type} {enc : TypeId × Value → H} {P : Program} {w : World} {base : Nat} {spare : Nat → Bool} {held : Bool}
theorem trod_uuu {t : TypeId} {f0 f1 f2 : Field} {n : Nat} {cs : List Value} {y : DataW H × List MemPlace} (hs : P.underlying t = some (.struct #[f0, f1, f2])) (hone : oneCellFields P #[f0, f1, f2] = true)
    (h0 : P.underlying f0.type = some (.int .u64)) (h1 : P.underlying f1.type = some (.int .u64)) (h2 : P.underlying f2.type = some (.int .u64)) (hl : cs.length = 3) (h : DataW.trod enc P w base spare held n t cs = some y) :
    ∃ (x0 x1 x2 : Int), cs = [.int .u64 x0, .int .u64 x1, .int .u64 x2] ∧ y = (.agg [.lit (.int .u64 x0), .lit (.int .u64 x1), .lit (.int .u64 x2)], []) ∧ (Lit.int .u64 x0).wf = true ∧ (Lit.int .u64 x1).wf = true ∧ (Lit.int .u64 x2).wf = true := by
  obtain ⟨xs, m, _, hx, _, hlen, hg⟩ := DataW.trod_struct hs h
  obtain ⟨o0, k0⟩ := hone_of hone 0 f0 rfl
  obtain ⟨o1, k1⟩ := hone_of hone 1 f1 rfl
  obtain ⟨o2, k2⟩ := hone_of hone 2 f2 rfl
  match cs, hl with
  | [c0, c1, c2], _ =>
    match xs, hlen with
    | [y0, y1, y2], _ =>
      have g0 : DataW.trod enc P w base spare held m f0.type [c0] = some y0 := by simpa [o0, k0] using hg 0 f0 rfl
      have g1 : DataW.trod enc P w base spare held m f1.type [c1] = some y1 := by simpa [o1, k1] using hg 1 f1 rfl
      have g2 : DataW.trod enc P w base spare held m f2.type [c2] = some y2 := by simpa [o2, k2] using hg 2 f2 rfl
      obtain ⟨x0, e0, rfl, w0⟩ := DataW.trod_int h0 g0
      obtain ⟨x1, e1, rfl, w1⟩ := DataW.trod_int h1 g1
      obtain ⟨x2, e2, rfl, w2⟩ := DataW.trod_int h2 g2
      simp only [List.cons.injEq, and_true] at e0 e1 e2
      subst e0 e1 e2
      exact ⟨x0, x1, x2, rfl, by simpa using hx, w0, w1, w2⟩
theorem trod_uuu_mk {t : TypeId} {f0 f1 f2 : Field} {x0 x1 x2 : Int} (hs : P.underlying t = some (.struct #[f0, f1, f2])) (hone : oneCellFields P #[f0, f1, f2] = true) (hC : P.cellsOf t = 3)
    (h0 : P.underlying f0.type = some (.int .u64)) (h1 : P.underlying f1.type = some (.int .u64)) (h2 : P.underlying f2.type = some (.int .u64)) (w0 : (Lit.int .u64 x0).wf = true) (w1 : (Lit.int .u64 x1).wf = true) (w2 : (Lit.int .u64 x2).wf = true) :
    DataW.trod enc P w base spare held 2 t [.int .u64 x0, .int .u64 x1, .int .u64 x2] = some (.agg [.lit (.int .u64 x0), .lit (.int .u64 x1), .lit (.int .u64 x2)], []) := by
  obtain ⟨o0, k0⟩ := hone_of hone 0 f0 rfl
  obtain ⟨o1, k1⟩ := hone_of hone 1 f1 rfl
  obtain ⟨o2, k2⟩ := hone_of hone 2 f2 rfl
  have := trod_struct3_mk (enc := enc) (w := w) (base := base) (spare := spare) (held := held) (n := 1) (cs := [.int .u64 x0, .int .u64 x1, .int .u64 x2]) hs (by simp [hC])
    (by simpa [o0, k0] using trod_int_mk (enc := enc) (w := w) (base := base) (spare := spare) (held := held) 0 h0 w0) (by simpa [o1, k1] using trod_int_mk (enc := enc) (w := w) (base := base) (spare := spare) (held := held) 0 h1 w1) (by simpa [o2, k2] using trod_int_mk (enc := enc) (w := w) (base := base) (spare := spare) (held := held) 0 h2 w2)
  simpa using this
theorem open_uuu {r : Reach} {b0 : Nat} {t : TypeId} {f0 f1 f2 : Field} {v : Value} {d : DataW H} {p : List MemPlace} (hs : P.underlying t = some (.struct #[f0, f1, f2])) (hone : oneCellFields P #[f0, f1, f2] = true) (hC : P.cellsOf t = 3)
    (h0 : P.underlying f0.type = some (.int .u64)) (h1 : P.underlying f1.type = some (.int .u64)) (h2 : P.underlying f2.type = some (.int .u64))
    (hv : Value.okWide P w r b0 t v) (h : DataW.Trod enc P w base spare held t v d p) :
    ∃ (x0 x1 x2 : Int), v = .agg #[.int .u64 x0, .int .u64 x1, .int .u64 x2] ∧ d = .agg [.lit (.int .u64 x0), .lit (.int .u64 x1), .lit (.int .u64 x2)] ∧ p = [] ∧ (Lit.int .u64 x0).wf = true ∧ (Lit.int .u64 x1).wf = true ∧ (Lit.int .u64 x2).wf = true := by
  obtain ⟨cs, rfl, hsz⟩ := okWide_struct hs hv
  obtain ⟨l⟩ := cs
  obtain ⟨fuel, hf⟩ := h
  obtain ⟨x0, x1, x2, e, ey, w0, w1, w2⟩ := trod_uuu hs hone h0 h1 h2 (hsz.trans hC) hf
  simp only [Prod.mk.injEq] at ey
  have e' : l = [.int .u64 x0, .int .u64 x1, .int .u64 x2] := by simpa [Value.cells] using e
  subst e'
  exact ⟨x0, x1, x2, rfl, ey.1, ey.2, w0, w1, w2⟩
theorem shut_uuu {t : TypeId} {f0 f1 f2 : Field} {x0 x1 x2 : Int} (hs : P.underlying t = some (.struct #[f0, f1, f2])) (hone : oneCellFields P #[f0, f1, f2] = true) (hC : P.cellsOf t = 3)
    (h0 : P.underlying f0.type = some (.int .u64)) (h1 : P.underlying f1.type = some (.int .u64)) (h2 : P.underlying f2.type = some (.int .u64)) (w0 : (Lit.int .u64 x0).wf = true) (w1 : (Lit.int .u64 x1).wf = true) (w2 : (Lit.int .u64 x2).wf = true) :
    DataW.Trod enc P w base spare held t (.agg #[.int .u64 x0, .int .u64 x1, .int .u64 x2]) (.agg [.lit (.int .u64 x0), .lit (.int .u64 x1), .lit (.int .u64 x2)]) [] :=
  ⟨2, by simpa [Value.cells] using trod_uuu_mk (enc := enc) (w := w) (base := base) (spare := spare) (held := held) hs hone hC h0 h1 h2 w0 w1 w2⟩
end
end Go.Proofs.YtdchdapllehppaaAid
end
section
set_option linter.unusedVariables false
set_option linter.unusedSimpArgs false
namespace Go.Proofs.YtdchdapllehppaaAid
open Go.Deep Go.Joins Go.ChangeShapes Go.WideShapes Go.RowKit Go.Proofs.Ytdchdapllehppaa.PAll Go.Proofs.YtdchdapllehppaaW.PrintWords
section
variable {H : Type} {enc : TypeId × Value → H} {P : Program} {w : World} {base : Nat} {spare : Nat → Bool} {held : Bool}
theorem open_sU2 {t e : TypeId} {f0 f1 : Field} {fuel : Nat} {a : Option Addr} {len cap : Nat} {x : DataW H × List MemPlace} (ht : P.underlying t = some (.slice e)) (hs : P.underlying e = some (.struct #[f0, f1])) (hone : oneCellFields P #[f0, f1] = true) (hC : P.cellsOf e = 2)
    (h0 : P.underlying f0.type = some (.int .u64)) (h1 : P.underlying f1.type = some (.int .u64)) (h : DataW.trod enc P w base spare held fuel t (Value.cells (.slice a len cap)).toList = some x) :
    ∃ l : List S24, l.length = len ∧ len ≤ cap ∧ Kd.C k24 w a len l ∧ ∀ y ∈ l, (Lit.int .u64 y.f0).wf = true ∧ (Lit.int .u64 y.f1).wf = true := by
  obtain ⟨o0, k0⟩ := hone_of hone 0 f0 rfl
  obtain ⟨o1, k1⟩ := hone_of hone 1 f1 rfl
  rcases open_slice_pairs ht hs hC o0 o1 k0 k1 h with ⟨hcs, _⟩ | ⟨ad, ln, cp, m, n, V0, V1, D0, D1, P0, P1, hcs, _, hl, hm, hmm, _, hv⟩
  · simp [Value.cells] at hcs
    obtain ⟨rfl, rfl, rfl⟩ := hcs
    exact ⟨[], rfl, Nat.le_refl _, ⟨rfl, by omega, fun hn => absurd hn (by omega)⟩, fun y hy => by cases hy⟩
  · simp [Value.cells] at hcs
    obtain ⟨rfl, rfl, rfl⟩ := hcs
    have hlm : len ≤ m := by rw [hmm]; split <;> omega
    have each : ∀ i, i < len → ∃ q : Int × Int, w.cell? (ad.add (i * 2)) = some (.int .u64 q.1) ∧ w.cell? (ad.add (i * 2 + 1)) = some (.int .u64 q.2) ∧ (Lit.int .u64 q.1).wf = true ∧ (Lit.int .u64 q.2).wf = true := by
      intro i hi
      obtain ⟨c0, c1, g0, g1⟩ := hv i (by omega)
      obtain ⟨x0, e0, _, w0⟩ := DataW.trod_int h0 g0
      obtain ⟨x1, e1, _, w1⟩ := DataW.trod_int h1 g1
      simp only [List.cons.injEq, and_true] at e0 e1
      rw [e0] at c0
      rw [e1] at c1
      exact ⟨(x0, x1), c0, c1, w0, w1⟩
    obtain ⟨q, hq⟩ := choose_lt each
    refine ⟨(List.range len).map (fun i => (⟨(q i).1, (q i).2⟩ : S24)), by simp, hl, ⟨by simp, by unfold maxLen at hm; omega, fun _ => ⟨ad, rfl, ?_⟩⟩, ?_⟩
    · intro j p hj
      obtain ⟨hj1, hj2⟩ := List.getElem?_eq_some_iff.1 hj
      have hj3 : j < len := by simpa using hj1
      obtain rfl : (⟨(q j).1, (q j).2⟩ : S24) = p := by simpa using hj2
      obtain ⟨c0, c1, _, _⟩ := hq j hj3
      refine ⟨[.int .u64 (q j).1, .int .u64 (q j).2], rfl, k24_mk w ⟨(q j).1, (q j).2⟩, fun i u hu => ?_⟩
      match i, hu with
      | 0, hu => simp at hu; subst hu; exact c0
      | 1, hu => simp at hu; subst hu; exact c1
      | i + 2, hu => simp at hu
    · intro y hy
      obtain ⟨i, hi, rfl⟩ := List.mem_map.1 hy
      obtain ⟨_, _, w0, w1⟩ := hq i (List.mem_range.1 hi)
      exact ⟨w0, w1⟩
end
end Go.Proofs.YtdchdapllehppaaAid
end
