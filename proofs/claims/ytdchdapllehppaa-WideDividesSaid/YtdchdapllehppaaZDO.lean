/- What the claim needs of several texts, in one. -/
import Derived.Laws.BitsLemmas
import Derived.KernelRfl
import Derived.WalkKit
import Derived.ProofKit
import Derived.OpenShut
import Derived.ShutString
import Derived.ChangeOld
import Derived.Below
import Derived.SizedLaws
import Derived.Lib.SmallJoins
import Derived.Test.YtdchdapllehppaaZDW
import Derived.Test.YtdchdapllehppaaZDx0
import Derived.Test.YtdchdapllehppaaZDx3
import Derived.Test.YtdchdapllehppaaZDx4
import Derived.Test.YtdchdapllehppaaZDx5
import Derived.Test.YtdchdapllehppaaZDx6
import Derived.Test.YtdchdapllehppaaZDx7
import Derived.Test.YtdchdapllehppaaZDx8
import Derived.Test.YtdchdapllehppaaZDx9
import Derived.Test.YtdchdapllehppaaZDx10
import Derived.Test.YtdchdapllehppaaZDx11
import Derived.Test.YtdchdapllehppaaZDx12
import Derived.Test.YtdchdapllehppaaZDx13
import Derived.Test.YtdchdapllehppaaZDx14
import Derived.Test.YtdchdapllehppaaZDx15
import Derived.Test.YtdchdapllehppaaZDx16
section
set_option linter.unusedVariables false
set_option linter.unusedSimpArgs false
namespace Go.Proofs.Ytdchdapllehppaa.Spec
/-- The number that a row of bits is, the least one first. -/
def num : List Bool → Nat
  | [] => 0
  | b :: l => b.toNat + 2 * num l
theorem num_append (a b : List Bool) : num (a ++ b) = num a + 2 ^ a.length * num b := by
  induction a with
  | nil => simp [num]
  | cons x a ih => simp only [List.cons_append, num, ih, List.length_cons, Nat.pow_succ, Nat.mul_add]; rw [Nat.mul_comm (2 ^ a.length) 2, Nat.mul_assoc]; omega
theorem num_lt (a : List Bool) : num a < 2 ^ a.length := by
  induction a with
  | nil => simp [num]
  | cons x a ih => cases x <;> simp [num, Nat.pow_succ] <;> omega
theorem num_snoc (a : List Bool) (x : Bool) : num (a ++ [x]) = num a + 2 ^ a.length * x.toNat := by rw [num_append]; simp [num]
theorem num_split (l : List Bool) (n : Nat) : num l = num (l.take n) + 2 ^ (l.take n).length * num (l.drop n) := by
  rw [← num_append, List.take_append_drop]
theorem getD_beyond (l : List Bool) (i : Nat) (h : l.length ≤ i) : l.getD i false = false := by simp [List.getD_eq_getElem?_getD, h]
theorem num_take_succ (l : List Bool) (i : Nat) : num (l.take (i + 1)) = num (l.take i) + 2 ^ i * (l.getD i false).toNat := by
  by_cases h : i < l.length
  · rw [List.take_succ_eq_append_getElem h, num_snoc]
    simp [List.getD_eq_getElem?_getD, h, Nat.min_eq_left (Nat.le_of_lt h)]
  · rw [getD_beyond l i (by omega), List.take_of_length_le (by omega), List.take_of_length_le (by omega)]
    simp
theorem num_take_all (l : List Bool) (i : Nat) (h : l.length ≤ i) : num (l.take i) = num l := by rw [List.take_of_length_le h]
theorem num_replicate (n : Nat) : num (List.replicate n false) = 0 := by
  induction n with
  | zero => rfl
  | succ n ih => simp [List.replicate_succ, num, ih]
theorem sub_digit (x y c : Bool) : x.toNat + 2 * (if x = true then (if y = true then c else false) else (if y = true then true else c)).toNat = ((x != y) != c).toNat + y.toNat + c.toNat := by
  cases x <;> cases y <;> cases c <;> rfl
theorem num_take_lt (a : List Bool) (i : Nat) : num (a.take i) < 2 ^ i :=
  Nat.lt_of_lt_of_le (num_lt _) (Nat.pow_le_pow_right (by omega) (by simp; omega))
/-- How many bits a number has. -/
def bl (n : Nat) : Nat := if n = 0 then 0 else n.log2 + 1
theorem bl_lt (n : Nat) : n < 2 ^ bl n := by
  unfold bl
  split
  · omega
  · exact Nat.lt_log2_self
theorem bl_eq (n m : Nat) (h1 : n < 2 ^ m) (h2 : m = 0 ∨ 2 ^ (m - 1) ≤ n) : bl n = m := by
  unfold bl
  rcases h2 with rfl | h2
  · rw [if_pos (by omega)]
  · have hp : 0 < 2 ^ (m - 1) := Nat.two_pow_pos _
    rw [if_neg (by omega)]
    have h3 : m - 1 ≤ n.log2 := (Nat.le_log2 (by omega)).2 h2
    have h4 : n.log2 < m := (Nat.log2_lt (by omega)).2 h1
    omega
theorem bl_le (n : Nat) (h : 0 < n) : 2 ^ (bl n - 1) ≤ n := by
  unfold bl
  rw [if_neg (by omega)]
  exact Nat.log2_self_le (by omega)
theorem bl_zero : bl 0 = 0 := rfl
theorem bl_pos (n : Nat) (h : 0 < n) : 0 < bl n := by unfold bl; rw [if_neg (by omega)]; omega
theorem bl_le_of_lt (n m : Nat) (h : n < 2 ^ m) : bl n ≤ m := by
  unfold bl
  split
  · omega
  · have := (Nat.log2_lt (n := n) (k := m) (by omega)).2 h
    omega
theorem num_take_getD (l : List Bool) (n : Nat) (h : l.getD n false = true) : 2 ^ n ≤ num l := by
  have h1 := num_take_succ l n
  have h2 := num_split l (n + 1)
  rw [h] at h1
  simp at h1
  omega
theorem num_mod (l : List Bool) (n : Nat) : num (l.take n) = num l % 2 ^ n := by
  by_cases h : l.length ≤ n
  · rw [num_take_all l n h, Nat.mod_eq_of_lt (Nat.lt_of_lt_of_le (num_lt l) (Nat.pow_le_pow_right (by omega) h))]
  · have h2 := num_split l n
    rw [List.length_take, Nat.min_eq_left (by omega)] at h2
    rw [h2, Nat.add_mul_mod_self_left, Nat.mod_eq_of_lt (num_take_lt l n)]
theorem num_div (l : List Bool) (n : Nat) : num (l.drop n) = num l / 2 ^ n := by
  by_cases h : l.length ≤ n
  · rw [List.drop_eq_nil_of_le h, Nat.div_eq_of_lt (Nat.lt_of_lt_of_le (num_lt l) (Nat.pow_le_pow_right (by omega) h))]
    rfl
  · have h2 := num_split l n
    rw [List.length_take, Nat.min_eq_left (by omega)] at h2
    rw [h2, Nat.add_mul_div_left _ _ (Nat.two_pow_pos n), Nat.div_eq_of_lt (num_take_lt l n), Nat.zero_add]
theorem num_getD (l : List Bool) (n : Nat) : (l.getD n false).toNat = num l / 2 ^ n % 2 := by
  rw [← num_div]
  by_cases h : n < l.length
  · rw [List.drop_eq_getElem_cons h]
    simp only [num, List.getD_eq_getElem?_getD, List.getElem?_eq_getElem h, Option.getD_some]
    cases l[n] <;> simp <;> omega
  · rw [getD_beyond l n (by omega), List.drop_eq_nil_of_le (by omega)]
    rfl
end Go.Proofs.Ytdchdapllehppaa.Spec
end
section
set_option linter.unusedVariables false
set_option linter.unusedSimpArgs false
namespace Go.Proofs.Ytdchdapllehppaa.Ev
open Go.RowKit Go.Proofs.Ytdchdapllehppaa.PAll Go.Proofs.YtdchdapllehppaaW.PrintWords Go.Proofs.YtdchdapllehppaaW.PrintLast Go.Proofs.YtdchdapllehppaaW.PrintMore Go.Proofs.Ytdchdapllehppaa.Spec
theorem wrap_id {x : Int} (h : -9223372036854775808 ≤ x) (h' : x ≤ 9223372036854775807) : wrap64 x = x := by unfold wrap64; omega
theorem wrap_succ (i : Nat) (h : i ≤ 100000) : wrap64 ((i : Int) + 1) = ((i + 1 : Nat) : Int) := by rw [wrap_id (by omega) (by omega)]; omega
theorem wrap_pred (i : Nat) (h : i ≤ 100000) : wrap64 (((i + 1 : Nat) : Int) - 1) = (i : Int) := by rw [wrap_id (by omega) (by omega)]; omega
theorem mx_eq (a b : Int) : mx a b = max a b := by unfold mx; split <;> omega
theorem rdOf_eq (l : List Bool) (i : Nat) : rdOf false l (i : Int) = l.getD i false := by unfold rdOf; simp
theorem bit_f (l : List Bool) (i : Nat) : flyballref01_bit.f l (i : Int) = some (l.getD i false) := by
  unfold flyballref01_bit.f
  rw [if_pos (by omega), rdOf_eq]
  by_cases h : (i : Int) < (l.length : Int)
  · rw [if_pos h, if_pos (by omega)]
  · rw [if_neg h, getD_beyond l i (by omega)]
def addDigit (x y c : Bool) : Bool := (x != y) != c
def borrow (x y c : Bool) : Bool := if x = true then (if y = true then c else false) else (if y = true then true else c)
theorem sub_l0 (a b : List Bool) (n : Nat) (hl : n ≤ 1000) (M : Nat) : ∀ (d i : Nat) (out : List Bool) (c : Bool), i + d = n → out.length = i → num out + num (b.take i) = num (a.take i) + 2 ^ i * c.toNat →
    ∃ r e, flyballref01_Sub.l0 (M + d + 1) a b (n : Int) out c (i : Int) = some (r, e) ∧ r.length = n ∧ num r + num (b.take n) = num (a.take n) + 2 ^ n * e.toNat
  | 0, i, out, c, e, ho, h => by
    rw [flyballref01_Sub.l0, if_neg (by omega)]
    obtain rfl : i = n := by omega
    exact ⟨_, _, rfl, ho, h⟩
  | d + 1, i, out, c, e, ho, h => by
    rw [show M + (d + 1) + 1 = (M + d + 1) + 1 by omega, flyballref01_Sub.l0, if_pos (by omega)]
    simp only [bit_f, Option.bind_some, wrap_succ i (by omega)]
    rw [if_pos (by omega)]
    have st : ∀ x y : Bool, (if x = true then (if y = true then (flyballref01_Sub.l0 (M + d + 1) a b (n : Int) (out ++ [((x != y) != c)]) c ((i + 1 : Nat) : Int)) else (flyballref01_Sub.l0 (M + d + 1) a b (n : Int) (out ++ [((x != y) != c)]) false ((i + 1 : Nat) : Int))) else (if y = true then (flyballref01_Sub.l0 (M + d + 1) a b (n : Int) (out ++ [((x != y) != c)]) true ((i + 1 : Nat) : Int)) else (if c = true then (flyballref01_Sub.l0 (M + d + 1) a b (n : Int) (out ++ [((x != y) != c)]) true ((i + 1 : Nat) : Int)) else (flyballref01_Sub.l0 (M + d + 1) a b (n : Int) (out ++ [((x != y) != c)]) false ((i + 1 : Nat) : Int))))) =
        flyballref01_Sub.l0 (M + d + 1) a b (n : Int) (out ++ [addDigit x y c]) (borrow x y c) ((i + 1 : Nat) : Int) := by
      intro x y; unfold borrow addDigit
      cases x <;> cases y <;> cases c <;> simp
    rw [st]
    refine sub_l0 a b n hl M d (i + 1) _ _ (by omega) (by simp; omega) ?_
    rw [num_snoc, num_take_succ, num_take_succ, ho, Nat.pow_succ, Nat.mul_assoc]
    have dg := sub_digit (a.getD i false) (b.getD i false) c
    have e1 : 2 ^ i * (a.getD i false).toNat + 2 ^ i * (2 * (borrow (a.getD i false) (b.getD i false) c).toNat) = 2 ^ i * (addDigit (a.getD i false) (b.getD i false) c).toNat + 2 ^ i * (b.getD i false).toNat + 2 ^ i * c.toNat := by
      rw [← Nat.mul_add, ← Nat.mul_add, ← Nat.mul_add]; unfold borrow addDigit; rw [dg]
    omega
/-- A difference. -/
theorem sub_f (k : Nat) (a b : List Bool) (n : Nat) (hl : n ≤ 1000) (hk : n + 1 ≤ k) : ∃ r e, flyballref01_Sub.f k a b (n : Int) = some (r, e) ∧ r.length = n ∧ num r + num (b.take n) = num (a.take n) + 2 ^ n * e.toNat := by
  obtain ⟨M, rfl⟩ : ∃ M, k = M + n + 1 := ⟨k - (n + 1), by omega⟩
  exact sub_l0 a b n hl M n 0 [] false (by omega) rfl (by simp [num])
def cmpN (a b : Nat) : Int := if a < b then -1 else if b < a then 1 else 0
theorem cmp_l0 (a b : List Bool) (M : Nat) : ∀ (i : Nat), i ≤ 1000 → num (a.drop i) = num (b.drop i) → flyballref01_Cmp.l0 (M + i + 1) a b ((i : Int) - 1) = some (cmpN (num (a.take i)) (num (b.take i)))
  | 0, _, h => by rw [flyballref01_Cmp.l0, if_neg (by omega)]; rfl
  | i + 1, hi, h => by
    rw [show M + (i + 1) + 1 = (M + i + 1) + 1 by omega, flyballref01_Cmp.l0, if_pos (by omega)]
    rw [show ((i + 1 : Nat) : Int) - 1 = (i : Int) by omega]
    simp only [bit_f, Option.bind_some]
    rw [num_take_succ, num_take_succ]
    have la := num_take_lt a i
    have lb := num_take_lt b i
    by_cases e : a.getD i false = b.getD i false
    · rw [e]
      rw [if_neg (by simp), wrap_id (by omega) (by omega), cmp_l0 a b M i (by omega) ?_]
      · unfold cmpN; simp only [Nat.add_lt_add_iff_right]
      · have da : num (a.drop i) = (a.getD i false).toNat + 2 * num (a.drop (i + 1)) := by
          rw [num_div, num_div, num_getD, Nat.pow_succ, ← Nat.div_div_eq_div_mul]; omega
        have db : num (b.drop i) = (b.getD i false).toNat + 2 * num (b.drop (i + 1)) := by
          rw [num_div, num_div, num_getD, Nat.pow_succ, ← Nat.div_div_eq_div_mul]; omega
        rw [da, db, e, h]
    · rw [if_pos (by simpa using e)]
      cases ha : a.getD i false <;> cases hb : b.getD i false <;> simp_all [cmpN] <;> omega
/-- How two compare. -/
theorem cmp_f (k : Nat) (a b : List Bool) (ha : a.length ≤ 1000) (hb : b.length ≤ 1000) (hk : 1002 ≤ k) : flyballref01_Cmp.f k a b = some (cmpN (num a) (num b)) := by
  unfold flyballref01_Cmp.f
  rw [mx_eq, wrap_id (by omega) (by omega)]
  obtain ⟨n, hn⟩ : ∃ n : Nat, n = max a.length b.length := ⟨_, rfl⟩
  rw [show max (a.length : Int) (b.length : Int) = (n : Int) by omega]
  obtain ⟨M, rfl⟩ : ∃ M, k = M + n + 1 := ⟨k - (n + 1), by omega⟩
  rw [cmp_l0 a b M n (by omega) (by rw [List.drop_eq_nil_of_le (by omega), List.drop_eq_nil_of_le (by omega)]), num_take_all a n (by omega), num_take_all b n (by omega)]
theorem len_l0 (a : List Bool) (M : Nat) : ∀ (i : Nat), i ≤ a.length → i ≤ 1000 → num (a.drop i) = 0 → flyballref01_Len.l0 (M + i + 1) a (i : Int) = some ((bl (num a) : Nat) : Int)
  | 0, _, _, h => by
    rw [flyballref01_Len.l0, if_neg (by omega)]
    rw [show num a = 0 by simpa using h]; rfl
  | i + 1, hi, hj, h => by
    rw [show M + (i + 1) + 1 = (M + i + 1) + 1 by omega, flyballref01_Len.l0, if_pos (by omega), wrap_pred i (by omega), if_pos (by omega), if_pos (by omega), rdOf_eq]
    have sp := num_split a (i + 1)
    rw [h] at sp
    by_cases g : a.getD i false = true
    · rw [if_pos g, bl_eq (num a) (i + 1) (by have := num_take_lt a (i + 1); omega) (.inr (by simpa using num_take_getD a i g))]
    · rw [if_neg g]
      refine len_l0 a M i (by omega) (by omega) ?_
      have da : num (a.drop i) = (a.getD i false).toNat + 2 * num (a.drop (i + 1)) := by
        rw [num_div, num_div, num_getD, Nat.pow_succ, ← Nat.div_div_eq_div_mul]; omega
      simp at g
      rw [da, h]; simp [g]
/-- How long a number is. -/
theorem len_f (k : Nat) (a : List Bool) (ha : a.length ≤ 1000) (hk : 1001 ≤ k) : flyballref01_Len.f k a = some ((bl (num a) : Nat) : Int) := by
  obtain ⟨M, rfl⟩ : ∃ M, k = M + a.length + 1 := ⟨k - (a.length + 1), by omega⟩
  exact len_l0 a M a.length (Nat.le_refl _) ha (by simp [num])
theorem bl_num_le (a : List Bool) : bl (num a) ≤ a.length := bl_le_of_lt _ _ (num_lt a)
theorem num_take_bl (a : List Bool) : num (a.take (bl (num a))) = num a := by rw [num_mod, Nat.mod_eq_of_lt (bl_lt _)]
end Go.Proofs.Ytdchdapllehppaa.Ev
end
section
set_option linter.unusedVariables false
set_option linter.unusedSimpArgs false
namespace Go.Proofs.Ytdchdapllehppaa.Ev
open Go.RowKit Go.Proofs.Ytdchdapllehppaa.PAll Go.Proofs.YtdchdapllehppaaW.PrintWords Go.Proofs.YtdchdapllehppaaW.PrintLast Go.Proofs.YtdchdapllehppaaW.PrintMore Go.Proofs.Ytdchdapllehppaa.Spec
theorem wrap_u64 (n : Int) : IntKind.u64.wrap n = n % 18446744073709551616 := by simp [IntKind.wrap, IntKind.bits, IntKind.signed]
theorem wrapN (n : Nat) : IntKind.u64.wrap (n : Int) = ((n % 18446744073709551616 : Nat) : Int) := by rw [wrap_u64]; omega
theorem wrapL (n : Nat) (h : n < 18446744073709551616) : IntKind.u64.wrap (n : Int) = (n : Int) := by rw [wrapN, Nat.mod_eq_of_lt h]
theorem shr_nat (x n : Nat) (h : n ≤ 64) : shr .u64 (x : Int) (n : Int) = ((x / 2 ^ n : Nat) : Int) := by
  unfold shr
  rw [show min (n : Int).toNat (IntKind.bits .u64) = n by simp [IntKind.bits]; omega]
  simp
theorem shl_nat (x n : Nat) (h : n ≤ 64) : shl .u64 (x : Int) (n : Int) = ((x * 2 ^ n % 18446744073709551616 : Nat) : Int) := by
  unfold shl
  rw [show min (n : Int).toNat (IntKind.bits .u64) = n by simp [IntKind.bits]; omega, ← wrapN]
  simp
theorem and_nat (a b : Nat) (ha : a < 18446744073709551616) (hb : b < 18446744073709551616) : Go.bits .and .u64 (a : Int) (b : Int) = ((a &&& b : Nat) : Int) :=
  (Go.bits_nat .u64 64 (by decide) (fun n h h' => by rw [wrap_u64]; omega) a b ha hb).1
theorem or_nat (a b : Nat) (ha : a < 18446744073709551616) (hb : b < 18446744073709551616) : Go.bits .or .u64 (a : Int) (b : Int) = ((a ||| b : Nat) : Int) :=
  (Go.bits_nat .u64 64 (by decide) (fun n h h' => by rw [wrap_u64]; omega) a b ha hb).2
theorem and_one (a : Nat) (ha : a < 18446744073709551616) : Go.bits .and .u64 (a : Int) 1 = ((a % 2 : Nat) : Int) := by
  have := and_nat a 1 ha (by omega)
  rw [Nat.and_one_is_mod] at this
  exact this
theorem and_mask (a : Nat) (ha : a < 18446744073709551616) : Go.bits .and .u64 (a : Int) 4294967295 = ((a % 4294967296 : Nat) : Int) := by
  have := and_nat a 4294967295 ha (by omega)
  rw [show (4294967295 : Nat) = 2 ^ 32 - 1 by decide, Nat.and_two_pow_sub_one_eq_mod] at this
  exact this
theorem or_plus (i q b : Nat) (hb : b < 2 ^ i) (h : 2 ^ i * q < 18446744073709551616) (hb' : b < 18446744073709551616) : Go.bits .or .u64 ((2 ^ i * q : Nat) : Int) (b : Int) = ((2 ^ i * q + b : Nat) : Int) := by
  rw [or_nat _ _ h hb', Nat.two_pow_add_eq_or_of_lt hb]
theorem or_plus' (i q b : Nat) (hb : b < 2 ^ i) (h : 2 ^ i * q < 18446744073709551616) (hb' : b < 18446744073709551616) : Go.bits .or .u64 (b : Int) ((2 ^ i * q : Nat) : Int) = ((2 ^ i * q + b : Nat) : Int) := by
  rw [or_nat _ _ hb' h, Nat.or_comm, Nat.two_pow_add_eq_or_of_lt hb]
theorem of_l1 (xs : List Int) (j : Nat) (hj : j < xs.length) (hx : xs.length ≤ 3) (x : Nat) (hxj : rd xs (j : Int) = (x : Int)) (hx64 : x < 18446744073709551616) (M : Nat) : ∀ (d i : Nat) (out : List Bool), i + d = 64 → out.length = 64 * j + i →
    ∃ t, flyballref01_Of.l1 (M + d + 1) xs out (j : Int) (i : Int) = flyballref01_Of.l0 M xs (out ++ t) ((j + 1 : Nat) : Int) ∧ t.length = d ∧ num t = x / 2 ^ i
  | 0, i, out, e, ho => by
    obtain rfl : i = 64 := by omega
    rw [flyballref01_Of.l1, if_neg (by omega), wrap_succ j (by omega)]
    exact ⟨[], by rw [List.append_nil], rfl, by rw [Nat.div_eq_of_lt (by omega)]; rfl⟩
  | d + 1, i, out, e, ho => by
    rw [show M + (d + 1) + 1 = (M + d + 1) + 1 by omega, flyballref01_Of.l1, if_pos (by omega), if_pos (by omega), if_pos (by omega), wrapL i (by omega), if_pos (by omega), if_pos (by omega), wrap_succ i (by omega), hxj, shr_nat x i (by omega), and_one _ (Nat.lt_of_le_of_lt (Nat.div_le_self _ _) hx64)]
    obtain ⟨t, h1, h2, h3⟩ := of_l1 xs j hj hx x hxj hx64 M d (i + 1) (out ++ [(((x / 2 ^ i % 2 : Nat) : Int) == 1)]) (by omega) (by simp; omega)
    refine ⟨(((x / 2 ^ i % 2 : Nat) : Int) == 1) :: t, by rw [h1]; simp, by simp [h2], ?_⟩
    rw [num, h3, Nat.pow_succ, ← Nat.div_div_eq_div_mul]
    have : ((((x / 2 ^ i % 2 : Nat) : Int) == 1)).toNat = x / 2 ^ i % 2 := by
      rcases Nat.mod_two_eq_zero_or_one (x / 2 ^ i) with h | h <;> rw [h] <;> rfl
    omega
theorem of_l0_end (xs : List Int) (out : List Bool) (M : Nat) : flyballref01_Of.l0 (M + 1) xs out (xs.length : Int) = some out := by rw [flyballref01_Of.l0, if_neg (by omega)]
theorem of_l0_step (xs : List Int) (j : Nat) (hj : j < xs.length) (hx : xs.length ≤ 3) (x : Nat) (hxj : rd xs (j : Int) = (x : Int)) (hx64 : x < 18446744073709551616) (M : Nat) (out : List Bool) (ho : out.length = 64 * j) :
    ∃ t, flyballref01_Of.l0 (M + 66) xs out (j : Int) = flyballref01_Of.l0 M xs (out ++ t) ((j + 1 : Nat) : Int) ∧ t.length = 64 ∧ num t = x := by
  obtain ⟨t, h1, h2, h3⟩ := of_l1 xs j hj hx x hxj hx64 M 64 0 out (by omega) (by omega)
  refine ⟨t, ?_, h2, by simpa using h3⟩
  rw [show M + 66 = (M + 64 + 1) + 1 by omega, flyballref01_Of.l0, if_pos (by omega)]
  exact h1
theorem of1_f (k : Nat) (a : Nat) (ha : a < 18446744073709551616) (hk : 300 ≤ k) : ∃ r, flyballref01_Of.f k ([(a : Int)] : List Int) = some r ∧ num r = a ∧ r.length = 64 := by
  obtain ⟨M, rfl⟩ : ∃ M, k = M + 1 + 66 := ⟨k - 67, by omega⟩
  unfold flyballref01_Of.f
  obtain ⟨t, h1, h2, h3⟩ := of_l0_step [(a : Int)] 0 (by simp) (by simp) a (by rfl) ha (M + 1) [] (by simp)
  rw [show ((0 : Int)) = ((0 : Nat) : Int) by rfl, h1]
  exact ⟨t, of_l0_end [(a : Int)] t M, h3, h2⟩
theorem of2_f (k : Nat) (a b : Nat) (ha : a < 18446744073709551616) (hb : b < 18446744073709551616) (hk : 300 ≤ k) : ∃ r, flyballref01_Of.f k ([(a : Int), (b : Int)] : List Int) = some r ∧ num r = b * 18446744073709551616 + a ∧ r.length = 128 := by
  obtain ⟨M, rfl⟩ : ∃ M, k = M + 1 + 66 + 66 := ⟨k - 133, by omega⟩
  unfold flyballref01_Of.f
  obtain ⟨t, h1, h2, h3⟩ := of_l0_step [(a : Int), (b : Int)] 0 (by simp) (by simp) a (by rfl) ha (M + 1 + 66) [] (by simp)
  obtain ⟨s, g1, g2, g3⟩ := of_l0_step [(a : Int), (b : Int)] 1 (by simp) (by simp) b (by rfl) hb (M + 1) ([] ++ t) (by simp [h2])
  rw [show ((0 : Int)) = ((0 : Nat) : Int) by rfl, h1, g1]
  refine ⟨t ++ s, of_l0_end [(a : Int), (b : Int)] _ M, ?_, by simp [h2, g2]⟩
  rw [num_append, h2, h3, g3]
  omega
theorem of3_f (k : Nat) (a b c : Nat) (ha : a < 18446744073709551616) (hb : b < 18446744073709551616) (hc : c < 18446744073709551616) (hk : 300 ≤ k) :
    ∃ r, flyballref01_Of.f k ([(a : Int), (b : Int), (c : Int)] : List Int) = some r ∧ num r = (c * 18446744073709551616 + b) * 18446744073709551616 + a ∧ r.length = 192 := by
  obtain ⟨M, rfl⟩ : ∃ M, k = M + 1 + 66 + 66 + 66 := ⟨k - 199, by omega⟩
  unfold flyballref01_Of.f
  obtain ⟨t, h1, h2, h3⟩ := of_l0_step [(a : Int), (b : Int), (c : Int)] 0 (by simp) (by simp) a (by rfl) ha (M + 1 + 66 + 66) [] (by simp)
  obtain ⟨s, g1, g2, g3⟩ := of_l0_step [(a : Int), (b : Int), (c : Int)] 1 (by simp) (by simp) b (by rfl) hb (M + 1 + 66) ([] ++ t) (by simp [h2])
  obtain ⟨u, e1, e2, e3⟩ := of_l0_step [(a : Int), (b : Int), (c : Int)] 2 (by simp) (by simp) c (by rfl) hc (M + 1) ([] ++ t ++ s) (by simp [h2, g2])
  rw [show ((0 : Int)) = ((0 : Nat) : Int) by rfl, h1, g1, e1]
  refine ⟨t ++ s ++ u, of_l0_end [(a : Int), (b : Int), (c : Int)] _ M, ?_, by simp [h2, g2, e2]⟩
  rw [num_append, num_append, List.length_append, h2, g2, h3, g3, e3]
  omega
end Go.Proofs.Ytdchdapllehppaa.Ev
end
section
set_option linter.unusedVariables false
set_option linter.unusedSimpArgs false
namespace Go.Proofs.Ytdchdapllehppaa.Ev
open Go.RowKit Go.Proofs.Ytdchdapllehppaa.PAll Go.Proofs.YtdchdapllehppaaW.PrintWords Go.Proofs.YtdchdapllehppaaW.PrintLast Go.Proofs.YtdchdapllehppaaW.PrintMore Go.Proofs.Ytdchdapllehppaa.Spec
def lenTbl : ByteArray := ⟨#[0, 1, 2, 2, 3, 3, 3, 3, 4, 4, 4, 4, 4, 4, 4, 4, 5, 5, 5, 5, 5, 5, 5, 5, 5, 5, 5, 5, 5, 5, 5, 5, 6, 6, 6, 6, 6, 6, 6, 6, 6, 6, 6, 6, 6, 6, 6, 6, 6, 6, 6, 6, 6, 6, 6, 6, 6, 6, 6, 6, 6, 6, 6, 6, 7, 7, 7, 7, 7, 7, 7, 7, 7, 7, 7, 7, 7, 7, 7, 7, 7, 7, 7, 7, 7, 7, 7, 7, 7, 7, 7, 7, 7, 7, 7, 7, 7, 7, 7, 7, 7, 7, 7, 7, 7, 7, 7, 7, 7, 7, 7, 7, 7, 7, 7, 7, 7, 7, 7, 7, 7, 7, 7, 7, 7, 7, 7, 7, 8, 8, 8, 8, 8, 8, 8, 8, 8, 8, 8, 8, 8, 8, 8, 8, 8, 8, 8, 8, 8, 8, 8, 8, 8, 8, 8, 8, 8, 8, 8, 8, 8, 8, 8, 8, 8, 8, 8, 8, 8, 8, 8, 8, 8, 8, 8, 8, 8, 8, 8, 8, 8, 8, 8, 8, 8, 8, 8, 8, 8, 8, 8, 8, 8, 8, 8, 8, 8, 8, 8, 8, 8, 8, 8, 8, 8, 8, 8, 8, 8, 8, 8, 8, 8, 8, 8, 8, 8, 8, 8, 8, 8, 8, 8, 8, 8, 8, 8, 8, 8, 8, 8, 8, 8, 8, 8, 8, 8, 8, 8, 8, 8, 8, 8, 8, 8, 8, 8, 8, 8, 8, 8, 8, 8, 8, 8, 8]⟩
theorem len64_j0 (k : Nat) (x0 x2 : Int) : bits_Len64.j0 (k + 1) x0 x2 = if x0 ≥ 65536 then (if (x0 / 65536) ≥ 256 then (if 0 ≤ (((x0 / 65536) / 256) % 256) then (if (((x0 / 65536) / 256) % 256) < 256 then (some (wrap64 ((wrap64 ((wrap64 (x2 + 16)) + 8)) + (wrap64 (bt lenTbl (((x0 / 65536) / 256) % 256)))))) else (none)) else (none)) else (if 0 ≤ ((x0 / 65536) % 256) then (if ((x0 / 65536) % 256) < 256 then (some (wrap64 ((wrap64 (x2 + 16)) + (wrap64 (bt lenTbl ((x0 / 65536) % 256)))))) else (none)) else (none))) else (if x0 ≥ 256 then (if 0 ≤ ((x0 / 256) % 256) then (if ((x0 / 256) % 256) < 256 then (some (wrap64 ((wrap64 (x2 + 8)) + (wrap64 (bt lenTbl ((x0 / 256) % 256)))))) else (none)) else (none)) else (if 0 ≤ ((x0) % 256) then (if ((x0) % 256) < 256 then (some (wrap64 (x2 + (wrap64 (bt lenTbl ((x0) % 256)))))) else (none)) else (none))) := rfl
theorem lenTbl_at : ∀ i : Fin 256, bt lenTbl ((i : Nat) : Int) = ((bl i : Nat) : Int) := by decide +kernel
theorem lenTbl_nat (i : Nat) (h : i < 256) : bt lenTbl (i : Int) = ((bl i : Nat) : Int) := lenTbl_at ⟨i, h⟩
theorem bl_div (x n : Nat) (h : 2 ^ n ≤ x) : bl x = n + bl (x / 2 ^ n) := by
  have hp := Nat.two_pow_pos n
  have h1 : 0 < x / 2 ^ n := Nat.div_pos h hp
  have h2 := bl_lt (x / 2 ^ n)
  have h3 := bl_le (x / 2 ^ n) h1
  have h4 := bl_pos (x / 2 ^ n) h1
  refine bl_eq _ _ ?_ (.inr ?_)
  · rw [Nat.pow_add, Nat.mul_comm]; exact (Nat.div_lt_iff_lt_mul hp).1 h2
  · rw [show n + bl (x / 2 ^ n) - 1 = n + (bl (x / 2 ^ n) - 1) by omega, Nat.pow_add, Nat.mul_comm]; exact (Nat.le_div_iff_mul_le hp).1 h3
theorem len64_small (k : Nat) (x c : Nat) (hx : x < 4294967296) (hc : c ≤ 1000) : bits_Len64.j0 (k + 1) (x : Int) (c : Int) = some ((c + bl x : Nat) : Int) := by
  rw [len64_j0]
  have w : ∀ n : Nat, n ≤ 100000 → wrap64 (n : Int) = (n : Int) := fun n h => wrap_id (by omega) (by omega)
  have bs : ∀ n, n < 256 → bl n ≤ 8 := fun n h => bl_le_of_lt n 8 (by omega)
  by_cases h1 : 65536 ≤ x
  · rw [if_pos (by omega)]
    have e1 := bl_div x 16 (by omega)
    by_cases h2 : 256 ≤ x / 65536
    · rw [if_pos (by omega), if_pos (by omega), if_pos (by omega)]
      have e2 := bl_div (x / 2 ^ 16) 8 (by omega)
      have e3 : ((x : Int) / 65536 / 256 % 256) = ((x / 2 ^ 16 / 2 ^ 8 : Nat) : Int) := by omega
      have b := bs (x / 2 ^ 16 / 2 ^ 8) (by omega)
      rw [e3, lenTbl_nat _ (by omega), w _ (by omega), show wrap64 ((c : Int) + 16) = ((c + 16 : Nat) : Int) from w (c + 16) (by omega), show wrap64 (((c + 16 : Nat) : Int) + 8) = ((c + 24 : Nat) : Int) from w (c + 24) (by omega), ← Int.natCast_add, w _ (by omega), e1, e2]
      congr 2; omega
    · rw [if_neg (by omega), if_pos (by omega), if_pos (by omega)]
      have e3 : ((x : Int) / 65536 % 256) = ((x / 2 ^ 16 : Nat) : Int) := by omega
      have b := bs (x / 2 ^ 16) (by omega)
      rw [e3, lenTbl_nat _ (by omega), w _ (by omega), show wrap64 ((c : Int) + 16) = ((c + 16 : Nat) : Int) from w (c + 16) (by omega), ← Int.natCast_add, w _ (by omega), e1]
      congr 2; omega
  · rw [if_neg (by omega)]
    by_cases h2 : 256 ≤ x
    · rw [if_pos (by omega), if_pos (by omega), if_pos (by omega)]
      have e2 := bl_div x 8 (by omega)
      have e3 : ((x : Int) / 256 % 256) = ((x / 2 ^ 8 : Nat) : Int) := by omega
      have b := bs (x / 2 ^ 8) (by omega)
      rw [e3, lenTbl_nat _ (by omega), w _ (by omega), show wrap64 ((c : Int) + 8) = ((c + 8 : Nat) : Int) from w (c + 8) (by omega), ← Int.natCast_add, w _ (by omega), e2]
      congr 2; omega
    · rw [if_neg (by omega), if_pos (by omega), if_pos (by omega)]
      have e3 : ((x : Int) % 256) = (x : Int) := by omega
      have b := bs x (by omega)
      rw [e3, lenTbl_nat _ (by omega), w _ (by omega), ← Int.natCast_add, w _ (by omega)]
/-- How long a word is. -/
theorem len64_f (k : Nat) (x : Nat) (hx : x < 18446744073709551616) : bits_Len64.f (k + 1) (x : Int) = some ((bl x : Nat) : Int) := by
  unfold bits_Len64.f
  by_cases h : 4294967296 ≤ x
  · rw [if_pos (by omega), show (x : Int) / 4294967296 = ((x / 2 ^ 32 : Nat) : Int) by omega, bl_div x 32 (by omega)]
    exact len64_small k _ 32 (by omega) (by omega)
  · rw [if_neg (by omega)]
    have := len64_small k x 0 (by omega) (by omega)
    rw [Nat.zero_add] at this
    exact this
theorem half (a : Nat) : (a : Int) / 4294967296 = ((a / 4294967296 : Nat) : Int) := by omega
theorem sub64_f (a b c : Nat) (hb : b < 18446744073709551616) (hc : c ≤ 1) : bits_Sub64.f (a : Int) (b : Int) (c : Int) = some ((((a + 18446744073709551616 - b - c) % 18446744073709551616 : Nat) : Int), (((if a < b + c then 1 else 0) : Nat) : Int)) := by
  unfold bits_Sub64.f
  rw [if_pos (by omega)]
  by_cases h : a < b + c
  · rw [if_pos h, if_pos (by omega)]; congr 2; omega
  · rw [if_neg h, if_neg (by omega)]; congr 2; omega
end Go.Proofs.Ytdchdapllehppaa.Ev
end
section
set_option linter.unusedVariables false
set_option linter.unusedSimpArgs false
namespace Go.Proofs.Ytdchdapllehppaa.Ev
open Go.RowKit Go.Proofs.Ytdchdapllehppaa.PAll Go.Proofs.YtdchdapllehppaaW.PrintWords Go.Proofs.YtdchdapllehppaaW.PrintLast Go.Proofs.YtdchdapllehppaaW.PrintMore Go.Proofs.Ytdchdapllehppaa.Spec
/-- A digit of a quotient. -/
def dg (u w v1 v0 : Nat) : Nat := (u * 4294967296 + w) / (v1 * 4294967296 + v0)
theorem dg_eq (u w v1 v0 : Nat) : (u * 4294967296 + w) / (v1 * 4294967296 + v0) = dg u w v1 v0 := rfl
theorem plain_lt (a b rh w u l : Nat) (h : a + rh = u) (g : rh * l + w < b) : u * l + w < a * l + b := by
  subst h
  rw [Nat.add_mul]
  omega
/-- A digit being guessed: d = v1 * 2^32 + v0 (its top bit is one), u < d, w a digit; q the guess, at least the quotient of u * 2^32 + w; rh = u - q * v1. -/
structure Guess (v1 v0 u w q rh : Nat) : Prop where
  v1b : 2147483648 ≤ v1
  v1t : v1 < 4294967296
  v0t : v0 < 4294967296
  wt : w < 4294967296
  ud : u < v1 * 4294967296 + v0
  eq : q * v1 + rh = u
  ge : dg u w v1 v0 ≤ q
theorem Guess.mulD (v1 v0 q : Nat) : q * (v1 * 4294967296 + v0) = q * v1 * 4294967296 + q * v0 := by rw [Nat.mul_add, Nat.mul_assoc]
theorem Guess.lt {v1 v0 u w q rh : Nat} (h : Guess v1 v0 u w q rh) : dg u w v1 v0 < 4294967296 := by
  have := h.v1b; have := h.ud; have := h.wt
  unfold dg
  rw [Nat.div_lt_iff_lt_mul (by omega)]
  omega
/-- The guess is too great, seen at its size. -/
theorem Guess.big {v1 v0 u w q rh : Nat} (h : Guess v1 v0 u w q rh) (g : 4294967296 ≤ q) : dg u w v1 v0 + 1 ≤ q := by
  have := h.lt; omega
/-- The guess is too great, seen at the second digit. -/
theorem Guess.over {v1 v0 u w q rh : Nat} (h : Guess v1 v0 u w q rh) (g : rh * 4294967296 + w < q * v0) : dg u w v1 v0 + 1 ≤ q := by
  have := h.v1b; have e := h.eq
  have : dg u w v1 v0 < q := by
    refine (Nat.div_lt_iff_lt_mul (k := v1 * 4294967296 + v0) (by omega)).2 ?_
    rw [Guess.mulD]
    exact plain_lt _ _ _ _ _ _ e g
  omega
/-- The guess is not too great. -/
theorem Guess.right {v1 v0 u w q rh : Nat} (h : Guess v1 v0 u w q rh) (g : q * v0 ≤ rh * 4294967296 + w) : dg u w v1 v0 = q := by
  have := h.v1b; have e := h.eq
  have g1 := h.ge
  have : q ≤ dg u w v1 v0 := by
    refine (Nat.le_div_iff_mul_le (k := v1 * 4294967296 + v0) (by omega)).2 ?_
    rw [Guess.mulD]
    omega
  omega
/-- One less. -/
theorem Guess.less {v1 v0 u w q rh : Nat} (h : Guess v1 v0 u w q rh) (g : dg u w v1 v0 + 1 ≤ q) : Guess v1 v0 u w (q - 1) (rh + v1) where
  v1b := h.v1b
  v1t := h.v1t
  v0t := h.v0t
  wt := h.wt
  ud := h.ud
  eq := by
    obtain ⟨p, rfl⟩ : ∃ p, q = p + 1 := ⟨q - 1, by omega⟩
    have e := h.eq
    rw [Nat.succ_mul] at e
    rw [Nat.add_sub_cancel]; omega
  ge := by have := h.ge; omega
/-- Where what is left has passed a digit, the guess is right. -/
theorem Guess.stop {v1 v0 u w q rh : Nat} (h : Guess v1 v0 u w q rh) (g : 4294967296 ≤ rh) : dg u w v1 v0 = q := by
  refine h.right ?_
  have e := h.eq; have := h.ud; have := h.v0t; have := h.v1b
  have q1 : q < 4294967296 := by
    have : q * v1 < 4294967296 * v1 := by omega
    exact Nat.lt_of_mul_lt_mul_right this
  have : q * v0 ≤ 4294967295 * 4294967295 := Nat.mul_le_mul (by omega) (by omega)
  omega
theorem Guess.first (v1 v0 u w : Nat) (b : 2147483648 ≤ v1) (t : v1 < 4294967296) (t0 : v0 < 4294967296) (tw : w < 4294967296) (ud : u < v1 * 4294967296 + v0) : Guess v1 v0 u w (u / v1) (u % v1) where
  v1b := b
  v1t := t
  v0t := t0
  wt := tw
  ud := ud
  eq := by rw [Nat.mul_comm]; exact Nat.div_add_mod u v1
  ge := by
    rw [Nat.le_div_iff_mul_le (by omega)]
    have h : dg u w v1 v0 * (v1 * 4294967296 + v0) ≤ u * 4294967296 + w := Nat.div_mul_le_self _ _
    rw [Guess.mulD] at h
    have : dg u w v1 v0 * v1 * 4294967296 < (u + 1) * 4294967296 := by omega
    have := Nat.lt_of_mul_lt_mul_right this
    omega
theorem Guess.u64 {v1 v0 u w q rh : Nat} (h : Guess v1 v0 u w q rh) : q < 18446744073709551616 ∧ u < 18446744073709551616 := by
  have := h.v1t; have := h.v0t; have := h.v1b; have := h.ud; have e := h.eq
  refine ⟨?_, by omega⟩
  have : q * 1 ≤ q * v1 := Nat.mul_le_mul_left q (by omega)
  omega
/-- What is left behind a digit, of words. -/
theorem rest_wrap (u w q d : Nat) (hd : d < 18446744073709551616) (h1 : q * d ≤ u * 4294967296 + w) (h2 : u * 4294967296 + w - q * d < d) :
    IntKind.u64.wrap ((IntKind.u64.wrap ((IntKind.u64.wrap ((u : Int) * 4294967296)) + (w : Int))) - (IntKind.u64.wrap ((q : Int) * (d : Int)))) = ((u * 4294967296 + w - q * d : Nat) : Int) := by
  rw [← Int.natCast_mul]
  generalize q * d = p at *
  simp only [wrap_u64]
  omega
/-- The first digit. -/
theorem dig_l0 (v1 v0 u w un0 s : Nat) (R : Option (Int × Int)) (M : Nat) : ∀ (n q rh : Nat), Guess v1 v0 u w q rh → rh < 4294967296 → 4294967296 ≤ rh + n * 2147483648 →
    (∀ m, M ≤ m → bits_Div64.j2 m ((v1 * 4294967296 + v0 : Nat) : Int) (s : Int) (v1 : Int) (v0 : Int) (u : Int) (w : Int) (un0 : Int) ((dg u w v1 v0 : Nat) : Int) = R) →
    bits_Div64.l0 (M + 2 * n) ((v1 * 4294967296 + v0 : Nat) : Int) (s : Int) (v1 : Int) (v0 : Int) (u : Int) (w : Int) (un0 : Int) (q : Int) (rh : Int) = R
  | 0, q, rh, h, h1, h2, _ => by omega
  | n + 1, q, rh, h, h1, h2, hR => by
    obtain ⟨qt, ut⟩ := h.u64
    have := h.v1t; have := h.v0t; have := h.v1b; have := h.wt
    have back : dg u w v1 v0 + 1 ≤ q →
        bits_Div64.j1 (M + 2 * n + 1) ((v1 * 4294967296 + v0 : Nat) : Int) (s : Int) (v1 : Int) (v0 : Int) (u : Int) (w : Int) (un0 : Int) (q : Int) (rh : Int) true = R := by
      intro g
      have hl := h.less g
      rw [bits_Div64.j1, if_pos rfl, ← Int.natCast_add, wrapL (rh + v1) (by omega), show IntKind.u64.wrap ((q : Int) - 1) = ((q - 1 : Nat) : Int) by rw [wrap_u64]; omega]
      by_cases t : 4294967296 ≤ rh + v1
      · rw [if_pos (by omega), ← hl.stop t]
        exact hR _ (by omega)
      · rw [if_neg (by omega)]
        exact dig_l0 v1 v0 u w un0 s R M n (q - 1) (rh + v1) hl (by omega) (by omega) hR
    have stay : dg u w v1 v0 = q →
        bits_Div64.j1 (M + 2 * n + 1) ((v1 * 4294967296 + v0 : Nat) : Int) (s : Int) (v1 : Int) (v0 : Int) (u : Int) (w : Int) (un0 : Int) (q : Int) (rh : Int) false = R := by
      intro g
      rw [bits_Div64.j1, if_neg (by decide), ← g]
      exact hR _ (by omega)
    rw [show M + 2 * (n + 1) = (M + 2 * n + 1) + 1 by omega, bits_Div64.l0]
    by_cases g : 4294967296 ≤ q
    · rw [if_pos (by omega)]
      exact back (h.big g)
    · rw [if_neg (by omega)]
      have qv : q * v0 < 18446744073709551616 := by
        have : q * v0 ≤ 4294967295 * 4294967295 := Nat.mul_le_mul (by omega) (by omega)
        omega
      rw [← Int.natCast_mul, wrapL _ qv, show IntKind.u64.wrap ((4294967296 : Int) * (rh : Int)) = ((rh * 4294967296 : Nat) : Int) by rw [wrap_u64]; omega, ← Int.natCast_add, wrapL _ (by omega)]
      by_cases t : rh * 4294967296 + w < q * v0
      · rw [decide_eq_true (by omega)]
        exact back (h.over t)
      · rw [decide_eq_false (by omega)]
        exact stay (h.right (by omega))
/-- The second digit. -/
theorem dig_l1 (v1 v0 u w Q1 s : Nat) (hs : s ≤ 64) (M : Nat) : ∀ (n q rh : Nat), Guess v1 v0 u w q rh → rh < 4294967296 → 4294967296 ≤ rh + n * 2147483648 →
    bits_Div64.l1 (M + 2 * n) ((v1 * 4294967296 + v0 : Nat) : Int) (s : Int) (v1 : Int) (v0 : Int) (w : Int) (Q1 : Int) (rh : Int) (u : Int) (q : Int) =
      some ((((Q1 * 4294967296 + dg u w v1 v0) % 18446744073709551616 : Nat) : Int), (((u * 4294967296 + w) % (v1 * 4294967296 + v0) / 2 ^ s : Nat) : Int))
  | 0, q, rh, h, h1, h2 => by omega
  | n + 1, q, rh, h, h1, h2 => by
    obtain ⟨qt, ut⟩ := h.u64
    have := h.v1t; have := h.v0t; have := h.v1b; have := h.wt
    have fin : ∀ q : Nat, dg u w v1 v0 = q →
        (some (IntKind.u64.wrap ((IntKind.u64.wrap ((Q1 : Int) * 4294967296)) + (q : Int)), shr .u64 (IntKind.u64.wrap ((IntKind.u64.wrap ((IntKind.u64.wrap ((u : Int) * 4294967296)) + (w : Int))) - (IntKind.u64.wrap ((q : Int) * ((v1 * 4294967296 + v0 : Nat) : Int))))) (s : Int)) : Option (Int × Int)) =
        some ((((Q1 * 4294967296 + dg u w v1 v0) % 18446744073709551616 : Nat) : Int), (((u * 4294967296 + w) % (v1 * 4294967296 + v0) / 2 ^ s : Nat) : Int)) := by
      intro q g
      have e := Nat.div_add_mod (u * 4294967296 + w) (v1 * 4294967296 + v0)
      rw [dg_eq] at e
      have l := Nat.mod_lt (u * 4294967296 + w) (show v1 * 4294967296 + v0 > 0 by omega)
      rw [g, Nat.mul_comm] at e
      rw [rest_wrap u w q (v1 * 4294967296 + v0) (by omega) (by omega) (by omega), shr_nat _ _ hs, show u * 4294967296 + w - q * (v1 * 4294967296 + v0) = (u * 4294967296 + w) % (v1 * 4294967296 + v0) by omega, g,
        show IntKind.u64.wrap (IntKind.u64.wrap ((Q1 : Int) * 4294967296) + (q : Int)) = (((Q1 * 4294967296 + q) % 18446744073709551616 : Nat) : Int) by simp only [wrap_u64]; omega]
    have back : dg u w v1 v0 + 1 ≤ q →
        bits_Div64.j4 (M + 2 * n + 1) ((v1 * 4294967296 + v0 : Nat) : Int) (s : Int) (v1 : Int) (v0 : Int) (w : Int) (Q1 : Int) (rh : Int) (u : Int) (q : Int) true =
          some ((((Q1 * 4294967296 + dg u w v1 v0) % 18446744073709551616 : Nat) : Int), (((u * 4294967296 + w) % (v1 * 4294967296 + v0) / 2 ^ s : Nat) : Int)) := by
      intro g
      have hl := h.less g
      rw [bits_Div64.j4, if_pos rfl, ← Int.natCast_add, wrapL (rh + v1) (by omega), show IntKind.u64.wrap ((q : Int) - 1) = ((q - 1 : Nat) : Int) by rw [wrap_u64]; omega]
      by_cases t : 4294967296 ≤ rh + v1
      · rw [if_pos (by omega), if_pos (by omega)]
        exact fin (q - 1) (hl.stop t)
      · rw [if_neg (by omega)]
        exact dig_l1 v1 v0 u w Q1 s hs M n (q - 1) (rh + v1) hl (by omega) (by omega)
    have stay : dg u w v1 v0 = q →
        bits_Div64.j4 (M + 2 * n + 1) ((v1 * 4294967296 + v0 : Nat) : Int) (s : Int) (v1 : Int) (v0 : Int) (w : Int) (Q1 : Int) (rh : Int) (u : Int) (q : Int) false =
          some ((((Q1 * 4294967296 + dg u w v1 v0) % 18446744073709551616 : Nat) : Int), (((u * 4294967296 + w) % (v1 * 4294967296 + v0) / 2 ^ s : Nat) : Int)) := by
      intro g
      rw [bits_Div64.j4, if_neg (by decide), if_pos (by omega)]
      exact fin q g
    rw [show M + 2 * (n + 1) = (M + 2 * n + 1) + 1 by omega, bits_Div64.l1]
    by_cases g : 4294967296 ≤ q
    · rw [if_pos (by omega)]
      exact back (h.big g)
    · rw [if_neg (by omega)]
      have qv : q * v0 < 18446744073709551616 := by
        have : q * v0 ≤ 4294967295 * 4294967295 := Nat.mul_le_mul (by omega) (by omega)
        omega
      rw [← Int.natCast_mul, wrapL _ qv, show IntKind.u64.wrap ((4294967296 : Int) * (rh : Int)) = ((rh * 4294967296 : Nat) : Int) by rw [wrap_u64]; omega, ← Int.natCast_add, wrapL _ (by omega)]
      by_cases t : rh * 4294967296 + w < q * v0
      · rw [decide_eq_true (by omega)]
        exact back (h.over t)
      · rw [decide_eq_false (by omega)]
        exact stay (h.right (by omega))
theorem tdiv_nat (a b : Nat) : Int.tdiv (a : Int) (b : Int) = ((a / b : Nat) : Int) := rfl
theorem tmod_nat (a b : Nat) : Int.tmod (a : Int) (b : Int) = ((a % b : Nat) : Int) := rfl
theorem rest_first (u v : Nat) (hu : u < 18446744073709551616) : IntKind.u64.wrap ((u : Int) - (IntKind.u64.wrap ((IntKind.u64.wrap (Int.tdiv (u : Int) (v : Int))) * (v : Int)))) = ((u % v : Nat) : Int) := by
  have e := Nat.div_add_mod u v
  have : u / v ≤ u := Nat.div_le_self _ _
  rw [tdiv_nat, wrapL (u / v) (by omega), ← Int.natCast_mul, Nat.mul_comm]
  generalize v * (u / v) = p at *
  simp only [wrap_u64]
  omega
end Go.Proofs.Ytdchdapllehppaa.Ev
end
section
set_option linter.unusedVariables false
set_option linter.unusedSimpArgs false
namespace Go.Proofs.Ytdchdapllehppaa.Ev
open Go.RowKit Go.Proofs.Ytdchdapllehppaa.PAll Go.Proofs.YtdchdapllehppaaW.PrintWords Go.Proofs.YtdchdapllehppaaW.PrintLast Go.Proofs.YtdchdapllehppaaW.PrintMore Go.Proofs.Ytdchdapllehppaa.Spec
theorem div64_second (m v1 v0 u2 w0 q s : Nat) (b : 2147483648 ≤ v1) (t : v1 < 4294967296) (t0 : v0 < 4294967296) (tw0 : w0 < 4294967296) (ud : u2 < v1 * 4294967296 + v0) (hs : s ≤ 64) :
    bits_Div64.l1 (m + 2 * 2) ((v1 * 4294967296 + v0 : Nat) : Int) (s : Int) (v1 : Int) (v0 : Int) (w0 : Int) (q : Int) (IntKind.u64.wrap ((u2 : Int) - (IntKind.u64.wrap ((IntKind.u64.wrap (Int.tdiv (u2 : Int) (v1 : Int))) * (v1 : Int))))) (u2 : Int) (IntKind.u64.wrap (Int.tdiv (u2 : Int) (v1 : Int))) =
      some ((((q * 4294967296 + dg u2 w0 v1 v0) % 18446744073709551616 : Nat) : Int), (((u2 * 4294967296 + w0) % (v1 * 4294967296 + v0) / 2 ^ s : Nat) : Int)) := by
  have l2 := Nat.mod_lt u2 (show v1 > 0 by omega)
  have l3 : u2 / v1 ≤ u2 := Nat.div_le_self _ _
  rw [rest_first u2 v1 (by omega), tdiv_nat, wrapL (u2 / v1) (by omega)]
  exact dig_l1 v1 v0 u2 w0 q s hs m 2 (u2 / v1) (u2 % v1) (Guess.first v1 v0 u2 w0 b t t0 tw0 ud) (by omega) (by omega)
theorem div64_core (M v1 v0 u w w0 s : Nat) (hM : 10 ≤ M) (b : 2147483648 ≤ v1) (t : v1 < 4294967296) (t0 : v0 < 4294967296) (tw : w < 4294967296) (tw0 : w0 < 4294967296) (ud : u < v1 * 4294967296 + v0) (hs : s ≤ 64) :
    bits_Div64.l0 (M + 2 * 2) ((v1 * 4294967296 + v0 : Nat) : Int) (s : Int) (v1 : Int) (v0 : Int) (u : Int) (w : Int) (w0 : Int) ((u / v1 : Nat) : Int) ((u % v1 : Nat) : Int) =
      some ((((dg u w v1 v0 * 4294967296 + dg ((u * 4294967296 + w) % (v1 * 4294967296 + v0)) w0 v1 v0) % 18446744073709551616 : Nat) : Int), (((((u * 4294967296 + w) % (v1 * 4294967296 + v0)) * 4294967296 + w0) % (v1 * 4294967296 + v0) / 2 ^ s : Nat) : Int)) := by
  have l1 := Nat.mod_lt u (show v1 > 0 by omega)
  refine dig_l0 v1 v0 u w w0 s _ M 2 (u / v1) (u % v1) (Guess.first v1 v0 u w b t t0 tw ud) (by omega) (by omega) ?_
  intro m hm
  obtain ⟨m, rfl⟩ : ∃ n, m = (n + 2 * 2) + 1 := ⟨m - 5, by omega⟩
  rw [bits_Div64.j2, if_neg (by omega)]
  have e := Nat.div_add_mod (u * 4294967296 + w) (v1 * 4294967296 + v0)
  have l := Nat.mod_lt (u * 4294967296 + w) (show v1 * 4294967296 + v0 > 0 by omega)
  rw [dg_eq, Nat.mul_comm] at e
  rw [rest_wrap u w (dg u w v1 v0) (v1 * 4294967296 + v0) (by omega) (by omega) (by omega), show u * 4294967296 + w - dg u w v1 v0 * (v1 * 4294967296 + v0) = (u * 4294967296 + w) % (v1 * 4294967296 + v0) by omega]
  exact div64_second m v1 v0 _ w0 (dg u w v1 v0) s b t t0 tw0 l hs
theorem join_plain (n w0 d l : Nat) (d0 : 0 < d) : (n / d) * l + ((n % d) * l + w0) / d = (n * l + w0) / d ∧ ((n % d) * l + w0) % d = (n * l + w0) % d := by
  have e1 := Nat.div_add_mod n d
  have e2 := Nat.div_add_mod (n % d * l + w0) d
  have l2 := Nat.mod_lt (n % d * l + w0) d0
  have e3 : d * ((n / d) * l + (n % d * l + w0) / d) + (n % d * l + w0) % d = n * l + w0 := by
    rw [Nat.mul_add, ← Nat.mul_assoc]
    have : n * l = d * (n / d) * l + n % d * l := by rw [← Nat.add_mul, e1]
    rw [this]
    omega
  have := (Nat.div_mod_unique (a := n * l + w0) (b := d) (c := (n % d * l + w0) % d) (d := (n / d) * l + (n % d * l + w0) / d) d0).2 ⟨by rw [Nat.add_comm]; exact e3, l2⟩
  exact ⟨this.1.symm, this.2.symm⟩
theorem div64_join (v1 v0 u w w0 : Nat) (d0 : 0 < v1 * 4294967296 + v0) :
    dg u w v1 v0 * 4294967296 + dg ((u * 4294967296 + w) % (v1 * 4294967296 + v0)) w0 v1 v0 = ((u * 4294967296 + w) * 4294967296 + w0) / (v1 * 4294967296 + v0) ∧
      (((u * 4294967296 + w) % (v1 * 4294967296 + v0)) * 4294967296 + w0) % (v1 * 4294967296 + v0) = ((u * 4294967296 + w) * 4294967296 + w0) % (v1 * 4294967296 + v0) :=
  join_plain (u * 4294967296 + w) w0 (v1 * 4294967296 + v0) 4294967296 d0
theorem lead_f (k y : Nat) (hy : y < 18446744073709551616) : bits_LeadingZeros64.f (k + 1) (y : Int) = some ((64 - bl y : Nat) : Int) := by
  unfold bits_LeadingZeros64.f
  have := bl_le_of_lt y 64 (by omega)
  rw [len64_f k y hy, Option.bind_some, wrap_id (by omega) (by omega)]
  congr 1; omega
theorem norm_pow (y : Nat) (h0 : 0 < y) (hy : y < 18446744073709551616) : y * 2 ^ (64 - bl y) < 18446744073709551616 ∧ 9223372036854775808 ≤ y * 2 ^ (64 - bl y) := by
  have h1 := bl_lt y
  have h2 := bl_le y h0
  have h3 := bl_pos y h0
  have h4 := bl_le_of_lt y 64 (by omega)
  have hp := Nat.two_pow_pos (64 - bl y)
  constructor
  · have : y * 2 ^ (64 - bl y) < 2 ^ bl y * 2 ^ (64 - bl y) := Nat.mul_lt_mul_of_pos_right h1 hp
    rw [← Nat.pow_add, show bl y + (64 - bl y) = 64 by omega] at this
    exact this
  · have : 2 ^ (bl y - 1) * 2 ^ (64 - bl y) ≤ y * 2 ^ (64 - bl y) := Nat.mul_le_mul_right _ h2
    rw [← Nat.pow_add, show bl y - 1 + (64 - bl y) = 63 by omega] at this
    exact this
theorem pow_split (s : Nat) (hs : s ≤ 64) : 2 ^ s * 2 ^ (64 - s) = 18446744073709551616 := by rw [← Nat.pow_add, show s + (64 - s) = 64 by omega]
theorem shl_plain (hi lo p q b : Nat) (e : p * q = b) : (hi * p + lo / q) * b + lo * p % b = (hi * b + lo) * p := by
  have e2 : lo * p % b = lo % q * p := by rw [← e, Nat.mul_comm p q, Nat.mul_mod_mul_right]
  have e3 := Nat.div_add_mod lo q
  have e4 : lo / q * b = q * (lo / q) * p := by rw [← e, Nat.mul_comm p q, ← Nat.mul_assoc, Nat.mul_comm (lo / q) q]
  have e5 : lo * p = q * (lo / q) * p + lo % q * p := by rw [← Nat.add_mul, e3]
  have e6 : hi * p * b = hi * b * p := Nat.mul_right_comm _ _ _
  rw [e2, Nat.add_mul, e4, Nat.add_mul, e5, e6, Nat.add_assoc]
/-- Two words shifted up. -/
theorem shl_two (hi lo s : Nat) (hs : s ≤ 64) :
    (hi * 2 ^ s + lo / 2 ^ (64 - s)) * 18446744073709551616 + lo * 2 ^ s % 18446744073709551616 = (hi * 18446744073709551616 + lo) * 2 ^ s := shl_plain hi lo _ _ _ (pow_split s hs)
theorem half_join (u w : Nat) : (u * 4294967296 + w / 4294967296) * 4294967296 + w % 4294967296 = u * 18446744073709551616 + w := by
  rw [Nat.add_mul, Nat.add_assoc, Nat.div_add_mod', Nat.mul_assoc]
/-- The quotient of two words by one. -/
theorem div64_f (k hi lo y : Nat) (hk : 30 ≤ k) (hy : y < 18446744073709551616) (hl : lo < 18446744073709551616) (h : hi < y) :
    bits_Div64.f k (hi : Int) (lo : Int) (y : Int) = some ((((hi * 18446744073709551616 + lo) / y : Nat) : Int), (((hi * 18446744073709551616 + lo) % y : Nat) : Int)) := by
  unfold bits_Div64.f
  rw [if_neg (by omega), if_neg (by omega)]
  by_cases z : hi = 0
  · subst z
    have : lo / y ≤ lo := Nat.div_le_self _ _
    rw [if_pos (by omega), tdiv_nat, tmod_nat, wrapL (lo / y) (by omega), Nat.zero_mul, Nat.zero_add]
  · rw [if_neg (by omega)]
    obtain ⟨k, rfl⟩ : ∃ n, k = (n + 25) + 1 := ⟨k - 26, by omega⟩
    have hb := bl_le_of_lt y 64 (by omega)
    obtain ⟨n1, n2⟩ := norm_pow y (by omega) hy
    rw [lead_f (k + 25) y hy, Option.bind_some]
    generalize hs : 64 - bl y = s at *
    have hs64 : s ≤ 64 := by omega
    have hp := Nat.two_pow_pos s
    have hq := Nat.two_pow_pos (64 - s)
    have ps := pow_split s hs64
    rw [wrapL s (by omega), show IntKind.u64.wrap (64 - (s : Int)) = ((64 - s : Nat) : Int) by rw [wrap_u64]; omega, if_pos (by omega), if_pos (by omega)]
    have hhi : hi * 2 ^ s < y * 2 ^ s := Nat.mul_lt_mul_of_pos_right h hp
    have hhi1 : (hi + 1) * 2 ^ s ≤ y * 2 ^ s := Nat.mul_le_mul_right _ h
    have hlo : lo / 2 ^ (64 - s) < 2 ^ s := by rw [Nat.div_lt_iff_lt_mul hq, ps]; exact hl
    have hlo2 : 2 ^ s ≤ 18446744073709551616 := by rw [← ps]; exact Nat.le_mul_of_pos_right _ hq
    rw [Nat.succ_mul] at hhi1
    rw [shl_nat y s hs64, shl_nat hi s hs64, shl_nat lo s hs64, shr_nat lo (64 - s) (by omega), Nat.mod_eq_of_lt n1, Nat.mod_eq_of_lt (a := hi * 2 ^ s) (by omega)]
    have orr : Go.bits .or .u64 ((hi * 2 ^ s : Nat) : Int) ((lo / 2 ^ (64 - s) : Nat) : Int) = ((hi * 2 ^ s + lo / 2 ^ (64 - s) : Nat) : Int) := by
      rw [Nat.mul_comm hi]
      exact or_plus s hi _ hlo (by rw [Nat.mul_comm]; omega) (by omega)
    have two := shl_two hi lo s hs64
    have lo64 : lo * 2 ^ s % 18446744073709551616 < 18446744073709551616 := Nat.mod_lt _ (by omega)
    rw [orr, and_mask _ n1, and_mask _ lo64, half, half]
    generalize hu : hi * 2 ^ s + lo / 2 ^ (64 - s) = u at *
    generalize hw : lo * 2 ^ s % 18446744073709551616 = ww at *
    generalize hd : y * 2 ^ s = d at *
    have l1 := Nat.mod_lt u (show d / 4294967296 > 0 by omega)
    have l3 : u / (d / 4294967296) ≤ u := Nat.div_le_self _ _
    rw [if_neg (by omega), rest_first u (d / 4294967296) (by omega), tdiv_nat, wrapL (u / (d / 4294967296)) (by omega)]
    have core := div64_core (k + 22) (d / 4294967296) (d % 4294967296) u (ww / 4294967296) (ww % 4294967296) s (by omega) (by omega) (by omega) (by omega) (by omega) (by omega) (by omega) hs64
    have dd : d / 4294967296 * 4294967296 + d % 4294967296 = d := Nat.div_add_mod' _ _
    obtain ⟨j1, j2⟩ := div64_join (d / 4294967296) (d % 4294967296) u (ww / 4294967296) (ww % 4294967296) (by omega)
    rw [j1, j2, dd] at core
    rw [show k + 25 + 1 = k + 22 + 2 * 2 by omega, core]
    have nn : (u * 4294967296 + ww / 4294967296) * 4294967296 + ww % 4294967296 = (hi * 18446744073709551616 + lo) * 2 ^ s := by rw [← two]; exact half_join u ww
    have qb : (hi * 18446744073709551616 + lo) / y < 18446744073709551616 := by
      rw [Nat.div_lt_iff_lt_mul (by omega)]
      have : (hi + 1) * 18446744073709551616 ≤ y * 18446744073709551616 := Nat.mul_le_mul_right _ h
      rw [Nat.mul_comm 18446744073709551616 y]
      omega
    rw [nn, ← hd, Nat.mul_div_mul_right _ _ hp, Nat.mul_mod_mul_right, Nat.mul_div_cancel _ hp, Nat.mod_eq_of_lt qb]
end Go.Proofs.Ytdchdapllehppaa.Ev
end
section
set_option linter.unusedVariables false
set_option linter.unusedSimpArgs false
namespace Go.Proofs.Ytdchdapllehppaa.Ev
open Go.RowKit Go.Proofs.Ytdchdapllehppaa.PAll Go.Proofs.YtdchdapllehppaaW.PrintWords Go.Proofs.YtdchdapllehppaaW.PrintLast Go.Proofs.YtdchdapllehppaaW.PrintMore Go.Proofs.Ytdchdapllehppaa.Spec
theorem cmpN_ge (a b : Nat) : (cmpN a b ≥ 0) ↔ b ≤ a := by unfold cmpN; split <;> (try split) <;> omega
theorem num_set (l : List Bool) (i : Nat) (hi : i < l.length) (h : l.getD i false = false) : num (l.set i true) = num l + 2 ^ i := by
  induction l generalizing i with
  | nil => simp at hi
  | cons x l ih =>
    cases i with
    | zero => simp at h; subst h; simp [num]; omega
    | succ i =>
      have := ih i (by simpa using hi) (by simpa using h)
      simp only [List.set_cons_succ, num, this, Nat.pow_succ]
      omega
theorem div_step (A D b : Nat) (hD : 0 < D) (hb : b < 2) : (D ≤ b + 2 * (A % D) → (2 * A + b) / D = 2 * (A / D) + 1 ∧ (2 * A + b) % D = b + 2 * (A % D) - D) ∧ (b + 2 * (A % D) < D → (2 * A + b) / D = 2 * (A / D) ∧ (2 * A + b) % D = b + 2 * (A % D)) := by
  have e := Nat.div_add_mod A D
  have l := Nat.mod_lt A hD
  constructor
  · intro h
    rw [Nat.div_mod_unique hD]
    have : D * (2 * (A / D) + 1) = 2 * (D * (A / D)) + D := by rw [Nat.mul_add, Nat.mul_left_comm]; omega
    omega
  · intro h
    rw [Nat.div_mod_unique hD]
    have : D * (2 * (A / D)) = 2 * (D * (A / D)) := by rw [Nat.mul_left_comm]
    omega
/-- A difference where nothing is borrowed. -/
theorem sub_le (k : Nat) (a b : List Bool) (hl : a.length ≤ 1000) (hk : a.length + 1 ≤ k) (h : num b ≤ num a) : ∃ r e, flyballref01_Sub.f k a b (a.length : Int) = some (r, e) ∧ r.length = a.length ∧ num r = num a - num b := by
  obtain ⟨r, e, h1, h2, h3⟩ := sub_f k a b a.length hl hk
  refine ⟨r, e, h1, h2, ?_⟩
  have la := num_lt a
  rw [num_mod b, List.take_length, Nat.mod_eq_of_lt (by omega)] at h3
  have lr := num_lt r
  rw [h2] at lr
  cases e with
  | false => simp at h3; omega
  | true => simp at h3; omega
theorem div_l0 (a b : List Bool) (ha : a.length ≤ 200) (hb : b.length ≤ 200) (h0 : 0 < num b) (M : Nat) (hM : 2000 ≤ M) : ∀ (j : Nat) (q r : List Bool), j ≤ a.length → q.length = a.length → num q = 2 ^ j * (num a / 2 ^ j / num b) → num r = num a / 2 ^ j % num b → r.length + j ≤ a.length →
    ∃ q' r', flyballref01_Div.l0 (M + j + 1) a b q r ((j : Int) - 1) = some (q', r') ∧ num q' = num a / num b ∧ num r' = num a % num b ∧ q'.length ≤ 200 ∧ r'.length ≤ 200
  | 0, q, r, _, hq, h1, h2, h3 => by
    rw [flyballref01_Div.l0, if_neg (by omega)]
    exact ⟨_, _, rfl, by simpa using h1, by simpa using h2, by omega, by omega⟩
  | i + 1, q, r, hi, hq, h1, h2, h3 => by
    rw [show M + (i + 1) + 1 = (M + i + 1) + 1 by omega, flyballref01_Div.l0, show ((i + 1 : Nat) : Int) - 1 = (i : Int) by omega, if_pos (by omega), if_pos (by omega), if_pos (by omega), rdOf_eq, Option.bind_some, if_pos (by simp; omega), Option.bind_some, wrap_id (x := (i : Int) - 1) (by omega) (by omega)]
    have nd : num a / 2 ^ i = 2 * (num a / 2 ^ (i + 1)) + (a.getD i false).toNat := by
      rw [num_getD, Nat.pow_succ, ← Nat.div_div_eq_div_mul]; omega
    have nr : num ([a.getD i false] ++ r) = (a.getD i false).toNat + 2 * (num a / 2 ^ (i + 1) % num b) := by rw [← h2]; rfl
    have hb2 : (a.getD i false).toNat < 2 := by cases a.getD i false <;> decide
    obtain ⟨s1, s2⟩ := div_step (num a / 2 ^ (i + 1)) (num b) (a.getD i false).toNat h0 hb2
    rw [← nd] at s1 s2
    have lr : ([a.getD i false] ++ r).length = r.length + 1 := by simp
    rw [cmp_f _ _ _ (by omega) (by omega) (by omega), Option.bind_some]
    by_cases g : num b ≤ num ([a.getD i false] ++ r)
    · rw [if_pos ((cmpN_ge _ _).2 g)]
      obtain ⟨t, e, e1, e2, e3⟩ := sub_le (M + i + 1) ([a.getD i false] ++ r) b (by omega) (by omega) g
      have bt := bl_num_le t
      rw [e1, Option.bind_some, if_pos (by omega)]
      dsimp only
      rw [len_f _ t (by omega) (by omega), Option.bind_some, if_pos (by omega), if_pos (by omega)]
      obtain ⟨q1, q2⟩ := s1 (by omega)
      have bq : q.getD i false = false := by
        have := num_getD q i
        rw [h1, Nat.pow_succ, Nat.mul_assoc, Nat.mul_div_cancel_left _ (Nat.two_pow_pos i), Nat.mul_mod_right] at this
        cases hh : q.getD i false with
        | false => rfl
        | true => rw [hh] at this; simp at this
      refine div_l0 a b ha hb h0 M hM i _ _ (by omega) (by simp [hq]) ?_ ?_ ?_
      · rw [Int.toNat_natCast, num_set q i (by omega) bq, h1, q1, Nat.pow_succ, Nat.mul_add, Nat.mul_assoc, Nat.mul_one]
      · rw [Int.toNat_natCast, num_take_bl, e3, q2, nr]
      · rw [Int.toNat_natCast, List.length_take]; omega
    · have bt := bl_num_le ([a.getD i false] ++ r)
      rw [if_neg (by rw [cmpN_ge]; exact g)]
      rw [len_f _ _ (by omega) (by omega), Option.bind_some, if_pos (by omega), if_pos (by omega)]
      obtain ⟨q1, q2⟩ := s2 (by omega)
      refine div_l0 a b ha hb h0 M hM i _ _ (by omega) hq ?_ ?_ ?_
      · rw [h1, q1, Nat.pow_succ, Nat.mul_assoc]
      · rw [Int.toNat_natCast, num_take_bl, q2, nr]
      · rw [Int.toNat_natCast, List.length_take]; omega
/-- A quotient and what is left. -/
theorem div_f (k : Nat) (a b : List Bool) (ha : a.length ≤ 200) (hb : b.length ≤ 200) (h0 : 0 < num b) (hk : 3000 ≤ k) : ∃ q r, flyballref01_Div.f k a b = some (q, r) ∧ num q = num a / num b ∧ num r = num a % num b ∧ q.length ≤ 200 ∧ r.length ≤ 200 := by
  obtain ⟨M, rfl⟩ : ∃ M, k = M + a.length + 1 := ⟨k - (a.length + 1), by omega⟩
  unfold flyballref01_Div.f
  rw [if_pos (by omega), if_pos (by omega), Int.toNat_natCast, wrap_id (by omega) (by omega)]
  have hz : num a / 2 ^ a.length = 0 := Nat.div_eq_of_lt (num_lt a)
  exact div_l0 a b ha hb h0 M (by omega) a.length _ _ (Nat.le_refl _) (by simp) (by rw [num_replicate, hz, Nat.zero_div, Nat.mul_zero]) (by rw [hz, Nat.zero_mod]; rfl) (by simp)
end Go.Proofs.Ytdchdapllehppaa.Ev
end
section
set_option linter.unusedVariables false
set_option linter.unusedSimpArgs false
namespace Go.Proofs.Ytdchdapllehppaa.Ev
open Go.RowKit Go.Proofs.Ytdchdapllehppaa.PAll Go.Proofs.YtdchdapllehppaaW.PrintWords Go.Proofs.YtdchdapllehppaaW.PrintLast Go.Proofs.YtdchdapllehppaaW.PrintMore Go.Proofs.Ytdchdapllehppaa.Spec
theorem sub192_f (a b c d e f : Nat) (ha : a < 18446744073709551616) (hb : b < 18446744073709551616) (hc : c < 18446744073709551616) (hd : d < 18446744073709551616) (he : e < 18446744073709551616) (hf : f < 18446744073709551616) :
    ∃ r s t u : Nat, wide_U192_Sub.f (a : Int) (b : Int) (c : Int) (d : Int) (e : Int) (f : Int) = some ((r : Int), (s : Int), (t : Int), (u : Int)) ∧ r < 18446744073709551616 ∧ s < 18446744073709551616 ∧ t < 18446744073709551616 ∧ u ≤ 1 ∧
      ((r * 18446744073709551616 + s) * 18446744073709551616 + t) + ((d * 18446744073709551616 + e) * 18446744073709551616 + f) = ((u * 18446744073709551616 + a) * 18446744073709551616 + b) * 18446744073709551616 + c := by
  unfold wide_U192_Sub.f
  rw [show ((0 : Int)) = ((0 : Nat) : Int) from rfl, sub64_f c f 0 (by omega) (by omega), Option.bind_some]
  dsimp only
  have one : ∀ p : Prop, [Decidable p] → (if p then 1 else 0 : Nat) ≤ 1 := fun p _ => by split <;> omega
  rw [sub64_f b e _ (by omega) (one _), Option.bind_some]
  dsimp only
  rw [sub64_f a d _ (by omega) (one _), Option.bind_some]
  refine ⟨_, _, _, _, rfl, by omega, by omega, by omega, one _, ?_⟩
  obtain ⟨x, hx, hx1⟩ : ∃ x, (if c < f + 0 then 1 else 0 : Nat) = x ∧ ((x = 1 ∧ c < f) ∨ (x = 0 ∧ f ≤ c)) := by
    refine ⟨_, rfl, ?_⟩; split <;> omega
  rw [hx]
  obtain ⟨y, hy, hy1⟩ : ∃ y, (if b < e + x then 1 else 0 : Nat) = y ∧ ((y = 1 ∧ b < e + x) ∨ (y = 0 ∧ e + x ≤ b)) := by
    refine ⟨_, rfl, ?_⟩; split <;> omega
  rw [hy]
  obtain ⟨z, hz, hz1⟩ : ∃ z, (if a < d + y then 1 else 0 : Nat) = z ∧ ((z = 1 ∧ a < d + y) ∨ (z = 0 ∧ d + y ≤ a)) := by
    refine ⟨_, rfl, ?_⟩; split <;> omega
  rw [hz]
  omega
theorem ord_step (k : Nat) (l : List S82) (i : Nat) (hi : i < l.length) (hl : l.length ≤ 10) (x y : Nat) (hx : l[i]? = some ⟨(x : Int), (y : Int)⟩) :
    wide_order.l0 (k + 1) l (l.length : Int) (i : Int) = if x < y then some (-1) else if y < x then some 1 else wide_order.l0 k l (l.length : Int) ((i + 1 : Nat) : Int) := by
  have e : rd_T82 l (i : Int) = ⟨(x : Int), (y : Int)⟩ := by unfold rd_T82; simp [List.getD_eq_getElem?_getD, hx]
  rw [wide_order.l0, if_pos (by omega), if_pos (by omega), if_pos (by omega), e, wrap_succ i (by omega)]
  by_cases h : x < y
  · rw [if_pos (by simpa using h), if_pos h]
  · rw [if_neg (by simpa using h), if_neg h]
    by_cases g : y < x
    · rw [if_pos (by simpa using g), if_pos g]
    · rw [if_neg (by simpa using g), if_neg g]
theorem ord_end (k : Nat) (l : List S82) : wide_order.l0 (k + 1) l (l.length : Int) (l.length : Int) = some 0 := by rw [wide_order.l0, if_neg (by omega)]
theorem cmp192_f (k a b e c d f : Nat) (hb : b < 18446744073709551616) (hd : d < 18446744073709551616) (he : e < 18446744073709551616) (hf : f < 18446744073709551616) :
    wide_U192_Cmp.f (k + 4) (a : Int) (b : Int) (e : Int) (c : Int) (d : Int) (f : Int) = some (cmpN ((a * 18446744073709551616 + b) * 18446744073709551616 + e) ((c * 18446744073709551616 + d) * 18446744073709551616 + f)) := by
  unfold wide_U192_Cmp.f wide_order.f
  have h0 := ord_step (k + 3) [⟨(a : Int), (c : Int)⟩, ⟨(b : Int), (d : Int)⟩, ⟨(e : Int), (f : Int)⟩] 0 (by simp) (by simp) a c rfl
  have h1 := ord_step (k + 2) [⟨(a : Int), (c : Int)⟩, ⟨(b : Int), (d : Int)⟩, ⟨(e : Int), (f : Int)⟩] 1 (by simp) (by simp) b d rfl
  have h2 := ord_step (k + 1) [⟨(a : Int), (c : Int)⟩, ⟨(b : Int), (d : Int)⟩, ⟨(e : Int), (f : Int)⟩] 2 (by simp) (by simp) e f rfl
  have h3 := ord_end k [⟨(a : Int), (c : Int)⟩, ⟨(b : Int), (d : Int)⟩, ⟨(e : Int), (f : Int)⟩]
  rw [show (0 : Int) = ((0 : Nat) : Int) from rfl, h0, h1, h2, show ((2 + 1 : Nat) : Int) = (([⟨(a : Int), (c : Int)⟩, ⟨(b : Int), (d : Int)⟩, ⟨(e : Int), (f : Int)⟩] : List S82).length : Int) from rfl, h3]
  unfold cmpN
  by_cases g1 : a < c
  · rw [if_pos g1, if_pos (by omega)]; rfl
  · rw [if_neg g1]
    by_cases g2 : c < a
    · rw [if_pos g2, if_neg (by omega), if_pos (by omega)]; rfl
    · rw [if_neg g2]
      by_cases g3 : b < d
      · rw [if_pos g3, if_pos (by omega)]; rfl
      · rw [if_neg g3]
        by_cases g4 : d < b
        · rw [if_pos g4, if_neg (by omega), if_pos (by omega)]; rfl
        · rw [if_neg g4]
          by_cases g5 : e < f
          · rw [if_pos g5, if_pos (by omega)]; rfl
          · rw [if_neg g5]
            by_cases g6 : f < e
            · rw [if_pos g6, if_neg (by omega), if_pos (by omega)]; rfl
            · rw [if_neg g6, if_neg (by omega), if_neg (by omega)]; rfl
theorem bl_two (h l : Nat) (hh : 0 < h) (hl : l < 18446744073709551616) : bl (h * 18446744073709551616 + l) = 64 + bl h := by
  rw [bl_div _ 64 (by omega)]
  congr 2
  omega
theorem len128_f (k a b : Nat) (ha : a < 18446744073709551616) (hb : b < 18446744073709551616) : wide_U128_Len.f (k + 1) (a : Int) (b : Int) = some ((bl (a * 18446744073709551616 + b) : Nat) : Int) := by
  unfold wide_U128_Len.f
  by_cases h : 0 < a
  · have := bl_le_of_lt a 64 (by omega)
    rw [if_pos (by omega), len64_f k a ha, Option.bind_some, wrap_id (by omega) (by omega), bl_two a b h hb]
    rfl
  · obtain rfl : a = 0 := by omega
    rw [if_neg (by omega), len64_f k b hb, Option.bind_some, Nat.zero_mul, Nat.zero_add]
theorem len192_f (k a b c : Nat) (ha : a < 18446744073709551616) (hb : b < 18446744073709551616) (hc : c < 18446744073709551616) : wide_U192_Len.f (k + 1) (a : Int) (b : Int) (c : Int) = some ((bl ((a * 18446744073709551616 + b) * 18446744073709551616 + c) : Nat) : Int) := by
  unfold wide_U192_Len.f wide_U192_top.f
  rw [Option.bind_some]
  dsimp only
  rw [len128_f k a b ha hb, Option.bind_some]
  have := bl_le_of_lt (a * 18446744073709551616 + b) 128 (by omega)
  by_cases h : 0 < a * 18446744073709551616 + b
  · have := bl_pos _ h
    rw [if_pos (by omega), wrap_id (by omega) (by omega), bl_two _ c h hc]
    rfl
  · have e : a * 18446744073709551616 + b = 0 := by omega
    rw [e, if_neg (by rw [bl_zero]; omega), len64_f k c hc, Option.bind_some, Nat.zero_mul, Nat.zero_add]
theorem div128_f (k a b c : Nat) (hk : 30 ≤ k) (ha : a < 18446744073709551616) (hb : b < 18446744073709551616) (hc : c < 18446744073709551616) (h0 : 0 < c) :
    ∃ r s t : Nat, wide_U128_Div.f k (a : Int) (b : Int) (c : Int) = some ((r : Int), (s : Int), (t : Int)) ∧ r < 18446744073709551616 ∧ s < 18446744073709551616 ∧ t < 18446744073709551616 ∧ r * 18446744073709551616 + s = (a * 18446744073709551616 + b) / c ∧ t = (a * 18446744073709551616 + b) % c := by
  unfold wide_U128_Div.f
  have l1 := Nat.mod_lt a h0
  obtain ⟨j1, j2⟩ := join_plain a b c 18446744073709551616 h0
  have d1 : a / c ≤ a := Nat.div_le_self _ _
  have d2 : (a % c * 18446744073709551616 + b) / c < 18446744073709551616 := by
    rw [Nat.div_lt_iff_lt_mul h0]
    have : (a % c + 1) * 18446744073709551616 ≤ c * 18446744073709551616 := Nat.mul_le_mul_right _ l1
    rw [Nat.mul_comm 18446744073709551616 c]
    omega
  have l2 := Nat.mod_lt (a % c * 18446744073709551616 + b) h0
  rw [if_neg (by omega), show ((0 : Int)) = ((0 : Nat) : Int) from rfl, div64_f k 0 a c hk hc ha h0, Option.bind_some]
  dsimp only
  rw [Nat.zero_mul, Nat.zero_add, div64_f k (a % c) b c hk hc hb l1, Option.bind_some]
  exact ⟨_, _, _, rfl, by omega, d2, by omega, j1, j2⟩
end Go.Proofs.Ytdchdapllehppaa.Ev
end
section
set_option linter.unusedVariables false
set_option linter.unusedSimpArgs false
namespace Go.Proofs.Ytdchdapllehppaa.Ev
open Go.RowKit Go.Proofs.Ytdchdapllehppaa.PAll Go.Proofs.YtdchdapllehppaaW.PrintWords Go.Proofs.YtdchdapllehppaaW.PrintLast Go.Proofs.YtdchdapllehppaaW.PrintMore Go.Proofs.Ytdchdapllehppaa.Spec
theorem beq0 (a : Nat) : ((a : Int) == 0) = decide (a = 0) := by
  by_cases h : a = 0
  · subst h; rfl
  · rw [decide_eq_false h]; simp; omega
theorem bne0 (a : Nat) : ((a : Int) != 0) = decide (a ≠ 0) := by
  unfold bne
  rw [beq0]
  by_cases h : a = 0 <;> simp [h]
theorem shr_plain (t c p q b : Nat) (e : p * q = b) (hp : 0 < p) (hq : 0 < q) (hc : c < b) : (t * b + c) / p = t / p * b + (t % p * q + c / p) ∧ t % p * q + c / p < b ∧ (t * b + c) % p = c % p := by
  have e1 := Nat.div_add_mod t p
  have h1 : t * b = p * (t * q) := by rw [← e, Nat.mul_left_comm]
  have h2 : t * q = t / p * b + t % p * q := by
    have : t * q = (p * (t / p) + t % p) * q := by rw [e1]
    rw [this, Nat.add_mul, ← e, Nat.mul_comm p (t / p), Nat.mul_assoc]
  refine ⟨?_, ?_, ?_⟩
  · rw [h1, Nat.mul_add_div hp, h2, Nat.add_assoc]
  · have h3 : c / p < q := by rw [Nat.div_lt_iff_lt_mul hp, Nat.mul_comm, e]; exact hc
    have h4 : (t % p + 1) * q ≤ p * q := Nat.mul_le_mul_right _ (Nat.mod_lt t hp)
    rw [Nat.add_mul, Nat.one_mul, e] at h4
    omega
  · rw [h1, Nat.mul_add_mod]
/-- A word's low part, shifted up, is the other half of a shift. -/
theorem low_up (x n : Nat) (hn : n ≤ 64) : x * 2 ^ (64 - n) % 18446744073709551616 = x % 2 ^ n * 2 ^ (64 - n) := by
  rw [← pow_split n hn, Nat.mul_mod_mul_right]
theorem lost_low (x n : Nat) (hn : n ≤ 64) (lost : Bool) : (if lost = true then true else (((x * 2 ^ (64 - n) % 18446744073709551616 : Nat) : Int) != 0)) = (lost || decide (x % 2 ^ n ≠ 0)) := by
  rw [low_up x n hn]
  have hq := Nat.two_pow_pos (64 - n)
  cases lost with
  | true => rfl
  | false =>
    rw [if_neg (by decide), Bool.false_or, bne0]
    by_cases h : x % 2 ^ n = 0
    · rw [h]; simp
    · have : x % 2 ^ n * 2 ^ (64 - n) ≠ 0 := Nat.mul_ne_zero h (by omega)
      rw [decide_eq_true this, decide_eq_true h]
theorem word_shr (hi lo n : Nat) (h0 : 0 < n) (hn : n < 64) (hl : lo < 18446744073709551616) :
    Go.bits .or .u64 (shr .u64 (lo : Int) (n : Int)) (shl .u64 (hi : Int) ((64 - n : Nat) : Int)) = ((hi % 2 ^ n * 2 ^ (64 - n) + lo / 2 ^ n : Nat) : Int) := by
  rw [shr_nat lo n (by omega), shl_nat hi (64 - n) (by omega), low_up hi n (by omega)]
  have ps := pow_split n (by omega)
  have hp := Nat.two_pow_pos n
  have hq := Nat.two_pow_pos (64 - n)
  obtain ⟨s1, s2, s3⟩ := shr_plain hi lo (2 ^ n) (2 ^ (64 - n)) _ ps hp hq hl
  have l1 : lo / 2 ^ n < 2 ^ (64 - n) := by rw [Nat.div_lt_iff_lt_mul hp, Nat.mul_comm, ps]; exact hl
  have hlo : lo / 2 ^ n ≤ lo := Nat.div_le_self _ _
  have hl0 : 0 ≤ lo / 2 ^ n := Nat.zero_le _
  rw [Nat.mul_comm (hi % 2 ^ n)] at s2 ⊢
  rw [or_plus' (64 - n) (hi % 2 ^ n) _ l1 (by omega) (by omega)]
theorem shr128_small (k a b n : Nat) (lost : Bool) (hn : n < 64) (ha : a < 18446744073709551616) (hb : b < 18446744073709551616) :
    ∃ r s : Nat, wide_U128_Shr.l0 (k + 1) (n : Int) lost (a : Int) (b : Int) = some ((r : Int), (s : Int), lost || decide ((a * 18446744073709551616 + b) % 2 ^ n ≠ 0)) ∧ r < 18446744073709551616 ∧ s < 18446744073709551616 ∧ r * 18446744073709551616 + s = (a * 18446744073709551616 + b) / 2 ^ n := by
  rw [wide_U128_Shr.l0, if_neg (by omega)]
  by_cases h : n = 0
  · subst h
    rw [if_pos (by omega)]
    exact ⟨a, b, by simp [Nat.mod_one], ha, hb, by simp⟩
  · have hp := Nat.two_pow_pos n
    have hq := Nat.two_pow_pos (64 - n)
    obtain ⟨s1, s2, s3⟩ := shr_plain a b (2 ^ n) (2 ^ (64 - n)) _ (pow_split n (by omega)) hp hq hb
    have ha2 : a / 2 ^ n ≤ a := Nat.div_le_self _ _
    rw [if_neg (by omega), if_pos (by omega), wrap_id (by omega) (by omega), if_pos (by omega), show (64 - (n : Int)) = ((64 - n : Nat) : Int) by omega, word_shr a b n (by omega) hn hb, shr_nat a n (by omega), shl_nat b (64 - n) (by omega)]
    refine ⟨a / 2 ^ n, a % 2 ^ n * 2 ^ (64 - n) + b / 2 ^ n, ?_, by omega, s2, s1.symm⟩
    rw [s3, ← lost_low b n (by omega) lost]
    cases lost <;> rfl
theorem pow_more (n : Nat) (h : 64 ≤ n) : 2 ^ n = 18446744073709551616 * 2 ^ (n - 64) := by
  rw [show (18446744073709551616 : Nat) = 2 ^ 64 by decide, ← Nat.pow_add, show 64 + (n - 64) = n by omega]
theorem shr_word (t c n : Nat) (h : 64 ≤ n) (hc : c < 18446744073709551616) (lost : Bool) : (t * 18446744073709551616 + c) / 2 ^ n = t / 2 ^ (n - 64) ∧ (lost || decide ((t * 18446744073709551616 + c) % 2 ^ n ≠ 0)) = ((lost || decide (c ≠ 0)) || decide (t % 2 ^ (n - 64) ≠ 0)) := by
  rw [pow_more n h, ← Nat.div_div_eq_div_mul, Nat.mod_mul]
  rw [show (t * 18446744073709551616 + c) / 18446744073709551616 = t by omega, show (t * 18446744073709551616 + c) % 18446744073709551616 = c by omega]
  refine ⟨rfl, ?_⟩
  rw [Bool.or_assoc]
  congr 1
  by_cases h1 : c = 0
  · subst h1
    by_cases h2 : t % 2 ^ (n - 64) = 0
    · simp [h2]
    · rw [decide_eq_true (p := t % 2 ^ (n - 64) ≠ 0) h2, decide_eq_true (by omega), Bool.or_true]
  · rw [decide_eq_true (by omega), decide_eq_true (p := c ≠ 0) h1, Bool.true_or]
theorem shr128_l0 (a b : Nat) (ha : a < 18446744073709551616) (hb : b < 18446744073709551616) (k n : Nat) (hn : n ≤ 9223372036854775807) (lost : Bool) :
    ∃ r s : Nat, wide_U128_Shr.l0 (k + 3) (n : Int) lost (a : Int) (b : Int) = some ((r : Int), (s : Int), lost || decide ((a * 18446744073709551616 + b) % 2 ^ n ≠ 0)) ∧ r < 18446744073709551616 ∧ s < 18446744073709551616 ∧ r * 18446744073709551616 + s = (a * 18446744073709551616 + b) / 2 ^ n := by
  by_cases h1 : n < 64
  · exact shr128_small (k + 2) a b n lost h1 ha hb
  · have ls : ∀ b : Nat, (if lost = true then true else ((b : Int) != 0)) = (lost || decide (b ≠ 0)) := fun b => by
      rw [bne0]; cases lost <;> simp
    obtain ⟨w1, w2⟩ := shr_word a b n (by omega) hb lost
    have step : wide_U128_Shr.l0 (k + 3) (n : Int) lost (a : Int) (b : Int) = if a = 0 then some (0, (a : Int), (lost || decide (b ≠ 0))) else wide_U128_Shr.l0 (k + 2) ((n - 64 : Nat) : Int) (lost || decide (b ≠ 0)) ((0 : Nat) : Int) (a : Int) := by
      rw [wide_U128_Shr.l0, if_pos (by omega), wrap_id (x := (n : Int) - 64) (by omega) (by omega), show ((n : Int) - 64) = ((n - 64 : Nat) : Int) by omega, beq0, ← ls b]
      by_cases g : a = 0
      · subst g; cases lost <;> simp
      · rw [if_neg g]; cases lost <;> simp [g]
    rw [step, w1, w2]
    by_cases g : a = 0
    · subst g
      rw [if_pos rfl]
      exact ⟨0, 0, by simp, by omega, by omega, by simp⟩
    · rw [if_neg g]
      by_cases h2 : n - 64 < 64
      · have := shr128_small (k + 1) 0 a (n - 64) (lost || decide (b ≠ 0)) h2 (by omega) ha
        rw [Nat.zero_mul, Nat.zero_add] at this
        exact this
      · have hl : a < 2 ^ (n - 64) := Nat.lt_of_lt_of_le ha (by rw [show (18446744073709551616 : Nat) = 2 ^ 64 by decide]; exact Nat.pow_le_pow_right (by omega) (by omega))
        rw [wide_U128_Shr.l0, if_pos (by omega)]
        refine ⟨0, 0, ?_, by omega, by omega, by rw [Nat.div_eq_of_lt hl]⟩
        rw [Nat.mod_eq_of_lt hl, decide_eq_true (p := a ≠ 0) g, Bool.or_true]
        have : ((a : Int) != 0) = true := by simp; omega
        rw [this]
        cases (lost || decide (b ≠ 0)) <;> simp
/-- A shift to the right, and whether something is lost. -/
theorem shr128_f (k a b : Nat) (n : Int) (ha : a < 18446744073709551616) (hb : b < 18446744073709551616) (hn : -9223372036854775808 ≤ n) (hn2 : n ≤ 9223372036854775807) (hk : 3 ≤ k) :
    ∃ r s : Nat, wide_U128_Shr.f k (a : Int) (b : Int) n = some ((r : Int), (s : Int), decide ((a * 18446744073709551616 + b) % 2 ^ n.toNat ≠ 0)) ∧ r < 18446744073709551616 ∧ s < 18446744073709551616 ∧ r * 18446744073709551616 + s = (a * 18446744073709551616 + b) / 2 ^ n.toNat := by
  unfold wide_U128_Shr.f
  obtain ⟨k, rfl⟩ : ∃ m, k = m + 3 := ⟨k - 3, by omega⟩
  by_cases h : 0 ≤ n
  · obtain ⟨m, rfl⟩ := Int.eq_ofNat_of_zero_le h
    have := shr128_l0 a b ha hb k m (by omega) false
    simpa using this
  · rw [show n.toNat = 0 by omega, wide_U128_Shr.l0, if_neg (by omega), if_pos (by omega)]
    exact ⟨a, b, by simp [Nat.mod_one], ha, hb, by simp⟩
theorem shr192_small (k a b c n : Nat) (lost : Bool) (hn : n < 64) (ha : a < 18446744073709551616) (hb : b < 18446744073709551616) (hc : c < 18446744073709551616) :
    ∃ r s t : Nat, wide_U192_Shr.l0 (k + 4) (n : Int) lost (a : Int) (b : Int) (c : Int) = some ((r : Int), (s : Int), (t : Int), lost || decide (((a * 18446744073709551616 + b) * 18446744073709551616 + c) % 2 ^ n ≠ 0)) ∧ r < 18446744073709551616 ∧ s < 18446744073709551616 ∧ t < 18446744073709551616 ∧
      (r * 18446744073709551616 + s) * 18446744073709551616 + t = ((a * 18446744073709551616 + b) * 18446744073709551616 + c) / 2 ^ n := by
  rw [wide_U192_Shr.l0, if_neg (by omega)]
  by_cases h : n = 0
  · subst h
    rw [if_pos (by omega)]
    exact ⟨a, b, c, by simp [Nat.mod_one], ha, hb, hc, by simp⟩
  · have hp := Nat.two_pow_pos n
    have hq := Nat.two_pow_pos (64 - n)
    have ps := pow_split n (by omega)
    obtain ⟨s1, s2, s3⟩ := shr_plain (a * 18446744073709551616 + b) c (2 ^ n) (2 ^ (64 - n)) _ ps hp hq hc
    obtain ⟨t1, t2, t3⟩ := shr_plain a b (2 ^ n) (2 ^ (64 - n)) _ ps hp hq hb
    obtain ⟨r, s, e1, e2, e3, e4⟩ := shr128_f (k + 3) a b (n : Int) ha hb (by omega) (by omega) (by omega)
    rw [t3] at s1 s2
    rw [if_neg (by omega)]
    unfold wide_U192_top.f
    rw [Option.bind_some]
    dsimp only
    rw [e1, Option.bind_some, if_pos (by omega), wrap_id (by omega) (by omega), if_pos (by omega), show (64 - (n : Int)) = ((64 - n : Nat) : Int) by omega, word_shr b c n (by omega) hn hc, shl_nat c (64 - n) (by omega)]
    refine ⟨r, s, b % 2 ^ n * 2 ^ (64 - n) + c / 2 ^ n, ?_, e2, e3, s2, ?_⟩
    · rw [s3, ← lost_low c n (by omega) lost]
      cases lost <;> rfl
    · rw [e4, s1]; rfl
theorem shr192_l0 (a b c : Nat) (ha : a < 18446744073709551616) (hb : b < 18446744073709551616) (hc : c < 18446744073709551616) (k n : Nat) (hn : n ≤ 9223372036854775807) (lost : Bool) :
    ∃ r s t : Nat, wide_U192_Shr.l0 (k + 7) (n : Int) lost (a : Int) (b : Int) (c : Int) = some ((r : Int), (s : Int), (t : Int), lost || decide (((a * 18446744073709551616 + b) * 18446744073709551616 + c) % 2 ^ n ≠ 0)) ∧ r < 18446744073709551616 ∧ s < 18446744073709551616 ∧ t < 18446744073709551616 ∧
      (r * 18446744073709551616 + s) * 18446744073709551616 + t = ((a * 18446744073709551616 + b) * 18446744073709551616 + c) / 2 ^ n := by
  have step : ∀ (k a b c n : Nat) (lost : Bool), 64 ≤ n → n ≤ 9223372036854775807 → wide_U192_Shr.l0 (k + 1) (n : Int) lost (a : Int) (b : Int) (c : Int) = if a = 0 ∧ b = 0 then some (((0 : Nat) : Int), (a : Int), (b : Int), (lost || decide (c ≠ 0))) else wide_U192_Shr.l0 k ((n - 64 : Nat) : Int) (lost || decide (c ≠ 0)) ((0 : Nat) : Int) (a : Int) (b : Int) := by
    intro k a b c n lost h64 hn
    have ls : (if lost = true then true else ((c : Int) != 0)) = (lost || decide (c ≠ 0)) := by
      rw [bne0]; cases lost <;> simp
    rw [wide_U192_Shr.l0, if_pos (by omega), wrap_id (x := (n : Int) - 64) (by omega) (by omega), show ((n : Int) - 64) = ((n - 64 : Nat) : Int) by omega, beq0, beq0, ← ls]
    by_cases g : a = 0 ∧ b = 0
    · obtain ⟨rfl, rfl⟩ := g; cases lost <;> simp
    · rw [if_neg g]; cases lost <;> simp [g]
  by_cases h1 : n < 64
  · exact shr192_small (k + 3) a b c n lost h1 ha hb hc
  · obtain ⟨w1, w2⟩ := shr_word (a * 18446744073709551616 + b) c n (by omega) hc lost
    rw [step (k + 6) a b c n lost (by omega) hn, w1, w2]
    by_cases g : a = 0 ∧ b = 0
    · obtain ⟨rfl, rfl⟩ := g
      rw [if_pos ⟨rfl, rfl⟩]
      exact ⟨0, 0, 0, by simp, by omega, by omega, by omega, by simp⟩
    · rw [if_neg g]
      by_cases h2 : n - 64 < 64
      · have := shr192_small (k + 2) 0 a b (n - 64) (lost || decide (c ≠ 0)) h2 (by omega) ha hb
        rw [Nat.zero_mul, Nat.zero_add] at this
        exact this
      · obtain ⟨x1, x2⟩ := shr_word a b (n - 64) (by omega) hb (lost || decide (c ≠ 0))
        rw [step (k + 5) 0 a b (n - 64) _ (by omega) (by omega), x1, x2]
        by_cases g2 : a = 0
        · subst g2
          rw [if_pos ⟨rfl, rfl⟩]
          exact ⟨0, 0, 0, by simp, by omega, by omega, by omega, by simp⟩
        · rw [if_neg (by omega)]
          by_cases h3 : n - 64 - 64 < 64
          · have := shr192_small (k + 1) 0 0 a (n - 64 - 64) ((lost || decide (c ≠ 0)) || decide (b ≠ 0)) h3 (by omega) (by omega) ha
            rw [Nat.zero_mul, Nat.zero_add] at this
            exact this
          · have hl : a < 2 ^ (n - 64 - 64) := Nat.lt_of_lt_of_le ha (by rw [show (18446744073709551616 : Nat) = 2 ^ 64 by decide]; exact Nat.pow_le_pow_right (by omega) (by omega))
            rw [step (k + 4) 0 0 a (n - 64 - 64) _ (by omega) (by omega), if_pos ⟨rfl, rfl⟩]
            refine ⟨0, 0, 0, ?_, by omega, by omega, by omega, by rw [Nat.div_eq_of_lt hl]⟩
            rw [Nat.mod_eq_of_lt hl]
/-- A shift to the right, and whether something is lost. -/
theorem shr192_f (k a b c : Nat) (n : Int) (ha : a < 18446744073709551616) (hb : b < 18446744073709551616) (hc : c < 18446744073709551616) (hn : -9223372036854775808 ≤ n) (hn2 : n ≤ 9223372036854775807) (hk : 7 ≤ k) :
    ∃ r s t : Nat, wide_U192_Shr.f k (a : Int) (b : Int) (c : Int) n = some ((r : Int), (s : Int), (t : Int), decide (((a * 18446744073709551616 + b) * 18446744073709551616 + c) % 2 ^ n.toNat ≠ 0)) ∧ r < 18446744073709551616 ∧ s < 18446744073709551616 ∧ t < 18446744073709551616 ∧
      (r * 18446744073709551616 + s) * 18446744073709551616 + t = ((a * 18446744073709551616 + b) * 18446744073709551616 + c) / 2 ^ n.toNat := by
  unfold wide_U192_Shr.f
  obtain ⟨k, rfl⟩ : ∃ m, k = m + 7 := ⟨k - 7, by omega⟩
  by_cases h : 0 ≤ n
  · obtain ⟨m, rfl⟩ := Int.eq_ofNat_of_zero_le h
    have := shr192_l0 a b c ha hb hc k m (by omega) false
    simpa using this
  · rw [show n.toNat = 0 by omega, wide_U192_Shr.l0, if_neg (by omega), if_pos (by omega)]
    exact ⟨a, b, c, by simp [Nat.mod_one], ha, hb, hc, by simp⟩
end Go.Proofs.Ytdchdapllehppaa.Ev
end
section
set_option linter.unusedVariables false
set_option linter.unusedSimpArgs false
namespace Go.Proofs.Ytdchdapllehppaa.Ev
open Go.RowKit Go.Proofs.Ytdchdapllehppaa.PAll Go.Proofs.YtdchdapllehppaaW.PrintWords Go.Proofs.YtdchdapllehppaaW.PrintLast Go.Proofs.YtdchdapllehppaaW.PrintMore Go.Proofs.Ytdchdapllehppaa.Spec
theorem mod_add_small (x y b : Nat) (h : x % b + y < b) : (x + y) % b = x % b + y := by rw [Nat.add_mod, Nat.mod_eq_of_lt (a := y) (by omega), Nat.mod_eq_of_lt h]
theorem over_plain3 (a b c l : Nat) : ((a * l + b) * l + c) * l % (l * l * l) = (b * l + c) * l % (l * l * l) := by
  have e : ((a * l + b) * l + c) * l = (l * l * l) * a + (b * l + c) * l := by
    rw [Nat.add_mul (a * l) b, Nat.add_assoc, Nat.add_mul (a * l * l), Nat.mul_comm (l * l * l), ← Nat.mul_assoc, ← Nat.mul_assoc]
  rw [e, Nat.mul_add_mod]
/-- A word shifted up, and what comes in from the word below. -/
theorem word_shl (hi lo n : Nat) (h0 : 0 < n) (hn : n < 64) (hl : lo < 18446744073709551616) :
    Go.bits .or .u64 ((hi * 2 ^ n % 18446744073709551616 : Nat) : Int) (shr .u64 (lo : Int) ((64 - n : Nat) : Int)) = (((hi * 2 ^ n + lo / 2 ^ (64 - n)) % 18446744073709551616 : Nat) : Int) := by
  rw [shr_nat lo (64 - n) (by omega)]
  have ps := pow_split n (by omega)
  have hp := Nat.two_pow_pos n
  have hq := Nat.two_pow_pos (64 - n)
  have l1 : lo / 2 ^ (64 - n) < 2 ^ n := by rw [Nat.div_lt_iff_lt_mul hq, ps]; exact hl
  have up : hi * 2 ^ n % 18446744073709551616 = 2 ^ n * (hi % 2 ^ (64 - n)) := by rw [← ps, Nat.mul_comm (2 ^ n) (2 ^ (64 - n)), Nat.mul_mod_mul_right, Nat.mul_comm]
  have l2 : (hi % 2 ^ (64 - n) + 1) * 2 ^ n ≤ 2 ^ (64 - n) * 2 ^ n := Nat.mul_le_mul_right _ (Nat.mod_lt hi hq)
  rw [Nat.add_mul, Nat.one_mul, Nat.mul_comm (2 ^ (64 - n)), ps, Nat.mul_comm] at l2
  have hlo : lo / 2 ^ (64 - n) ≤ lo := Nat.div_le_self _ _
  have l3 : 0 ≤ lo / 2 ^ (64 - n) := Nat.zero_le _
  rw [mod_add_small (hi * 2 ^ n) _ _ (by rw [up]; omega), up, or_plus n (hi % 2 ^ (64 - n)) _ l1 (by omega) (by omega)]
theorem mod_mul_pow (x b m n : Nat) : x % b * 2 ^ n % b = x * 2 ^ n % b := by rw [Nat.mod_mul_mod]
theorem shl_join (t lo n : Nat) (hn : n ≤ 64) (b : Nat) : (t * 18446744073709551616 + lo) * 2 ^ n % (b * 18446744073709551616) = (t * 2 ^ n + lo / 2 ^ (64 - n)) % b * 18446744073709551616 + lo * 2 ^ n % 18446744073709551616 := by
  rw [← shl_two t lo n hn, Nat.mul_comm b, Nat.mod_mul, Nat.mul_comm _ 18446744073709551616, Nat.mul_add_div (by omega), Nat.div_eq_of_lt (Nat.mod_lt _ (by omega)), Nat.add_zero, Nat.mul_add_mod, Nat.mod_mod]
  omega
theorem shl128_small (k a b n : Nat) (hn : n < 64) (ha : a < 18446744073709551616) (hb : b < 18446744073709551616) :
    ∃ r s : Nat, wide_U128_Shl.l0 (k + 1) (n : Int) (a : Int) (b : Int) = some ((r : Int), (s : Int)) ∧ r < 18446744073709551616 ∧ s < 18446744073709551616 ∧ r * 18446744073709551616 + s = (a * 18446744073709551616 + b) * 2 ^ n % 340282366920938463463374607431768211456 := by
  rw [wide_U128_Shl.l0, if_neg (by omega)]
  by_cases h : n = 0
  · subst h
    rw [if_pos (by omega)]
    exact ⟨a, b, rfl, ha, hb, by omega⟩
  · rw [if_neg (by omega), if_pos (by omega), wrap_id (by omega) (by omega), if_pos (by omega), show (64 - (n : Int)) = ((64 - n : Nat) : Int) by omega, shl_nat a n (by omega), shl_nat b n (by omega), word_shl a b n (by omega) hn hb]
    refine ⟨_, _, rfl, Nat.mod_lt _ (by omega), Nat.mod_lt _ (by omega), ?_⟩
    exact (shl_join a b n (by omega) 18446744073709551616).symm
theorem shl_word (x n : Nat) (h : 64 ≤ n) : x * 2 ^ n = x * 18446744073709551616 * 2 ^ (n - 64) := by rw [pow_more n h, Nat.mul_assoc]
theorem shl192_small (k a b c n : Nat) (hn : n < 64) (ha : a < 18446744073709551616) (hb : b < 18446744073709551616) (hc : c < 18446744073709551616) :
    ∃ r s t : Nat, wide_U192_Shl.l0 (k + 4) (n : Int) (a : Int) (b : Int) (c : Int) = some ((r : Int), (s : Int), (t : Int)) ∧ r < 18446744073709551616 ∧ s < 18446744073709551616 ∧ t < 18446744073709551616 ∧
      (r * 18446744073709551616 + s) * 18446744073709551616 + t = ((a * 18446744073709551616 + b) * 18446744073709551616 + c) * 2 ^ n % 6277101735386680763835789423207666416102355444464034512896 := by
  rw [wide_U192_Shl.l0, if_neg (by omega)]
  by_cases h : n = 0
  · subst h
    rw [if_pos (by omega)]
    exact ⟨a, b, c, rfl, ha, hb, hc, by omega⟩
  · rw [if_neg (by omega)]
    unfold wide_U192_top.f
    rw [Option.bind_some]
    dsimp only
    have sm := shl128_small (k + 2) a b n hn ha hb
    have e0 : wide_U128_Shl.f (k + 3) (a : Int) (b : Int) (n : Int) = some ((((a * 2 ^ n + b / 2 ^ (64 - n)) % 18446744073709551616 : Nat) : Int), ((b * 2 ^ n % 18446744073709551616 : Nat) : Int)) := by
      unfold wide_U128_Shl.f
      rw [wide_U128_Shl.l0, if_neg (by omega), if_neg (by omega), if_pos (by omega), wrap_id (by omega) (by omega), if_pos (by omega), show (64 - (n : Int)) = ((64 - n : Nat) : Int) by omega, shl_nat a n (by omega), shl_nat b n (by omega), word_shl a b n (by omega) hn hb]
    rw [e0, Option.bind_some, wrap_id (by omega) (by omega), if_pos (by omega), if_pos (by omega), show (64 - (n : Int)) = ((64 - n : Nat) : Int) by omega]
    dsimp only
    rw [word_shl b c n (by omega) hn hc, shl_nat c n (by omega)]
    refine ⟨_, _, _, rfl, Nat.mod_lt _ (by omega), Nat.mod_lt _ (by omega), Nat.mod_lt _ (by omega), ?_⟩
    rw [show (6277101735386680763835789423207666416102355444464034512896 : Nat) = 340282366920938463463374607431768211456 * 18446744073709551616 by decide, shl_join (a * 18446744073709551616 + b) c n (by omega)]
    congr 2
    rw [← shl_two a b n (by omega)]
    generalize a * 2 ^ n + b / 2 ^ (64 - n) = x
    have up : b * 2 ^ n % 18446744073709551616 = 2 ^ n * (b % 2 ^ (64 - n)) := by rw [← pow_split n (by omega), Nat.mul_comm (2 ^ n) (2 ^ (64 - n)), Nat.mul_mod_mul_right, Nat.mul_comm]
    have ps := pow_split n (by omega)
    have hq := Nat.two_pow_pos (64 - n)
    have l1 : c / 2 ^ (64 - n) < 2 ^ n := by rw [Nat.div_lt_iff_lt_mul hq, ps]; exact hc
    have l2 : (b % 2 ^ (64 - n) + 1) * 2 ^ n ≤ 2 ^ (64 - n) * 2 ^ n := Nat.mul_le_mul_right _ (Nat.mod_lt b hq)
    rw [Nat.add_mul, Nat.one_mul, Nat.mul_comm (2 ^ (64 - n)), ps, Nat.mul_comm] at l2
    generalize c / 2 ^ (64 - n) = y at *
    have l4 : b * 2 ^ n % 18446744073709551616 + y < 18446744073709551616 := by omega
    generalize b * 2 ^ n = z at *
    omega
theorem shl192_l0 (k a b c n : Nat) (hn : n ≤ 9223372036854775807) (ha : a < 18446744073709551616) (hb : b < 18446744073709551616) (hc : c < 18446744073709551616) :
    ∃ r s t : Nat, wide_U192_Shl.l0 (k + 7) (n : Int) (a : Int) (b : Int) (c : Int) = some ((r : Int), (s : Int), (t : Int)) ∧ r < 18446744073709551616 ∧ s < 18446744073709551616 ∧ t < 18446744073709551616 ∧
      (r * 18446744073709551616 + s) * 18446744073709551616 + t = ((a * 18446744073709551616 + b) * 18446744073709551616 + c) * 2 ^ n % 6277101735386680763835789423207666416102355444464034512896 := by
  have step : ∀ (k a b c n : Nat), 64 ≤ n → n ≤ 9223372036854775807 → wide_U192_Shl.l0 (k + 1) (n : Int) (a : Int) (b : Int) (c : Int) = if b = 0 ∧ c = 0 then some (((0 : Nat) : Int), ((0 : Nat) : Int), ((0 : Nat) : Int)) else wide_U192_Shl.l0 k ((n - 64 : Nat) : Int) (b : Int) (c : Int) ((0 : Nat) : Int) := by
    intro k a b c n h64 hn
    rw [wide_U192_Shl.l0, if_pos (by omega), wrap_id (x := (n : Int) - 64) (by omega) (by omega), show ((n : Int) - 64) = ((n - 64 : Nat) : Int) by omega, beq0, beq0]
    by_cases g : b = 0 ∧ c = 0
    · obtain ⟨rfl, rfl⟩ := g; simp
    · rw [if_neg g]; simp [g]
  have over : ∀ a b c n : Nat, 64 ≤ n → ((a * 18446744073709551616 + b) * 18446744073709551616 + c) * 2 ^ n % 6277101735386680763835789423207666416102355444464034512896 = ((b * 18446744073709551616 + c) * 18446744073709551616 + 0) * 2 ^ (n - 64) % 6277101735386680763835789423207666416102355444464034512896 := by
    intro a b c n h
    rw [shl_word _ n h, ← mod_mul_pow (((a * 18446744073709551616 + b) * 18446744073709551616 + c) * 18446744073709551616) _ 0, ← mod_mul_pow ((b * 18446744073709551616 + c) * 18446744073709551616 + 0) _ 0, show (6277101735386680763835789423207666416102355444464034512896 : Nat) = 18446744073709551616 * 18446744073709551616 * 18446744073709551616 by decide, over_plain3, Nat.add_zero]
  by_cases h1 : n < 64
  · exact shl192_small (k + 3) a b c n h1 ha hb hc
  · rw [step (k + 6) a b c n (by omega) hn, over a b c n (by omega)]
    by_cases g : b = 0 ∧ c = 0
    · obtain ⟨rfl, rfl⟩ := g
      rw [if_pos ⟨rfl, rfl⟩]
      exact ⟨0, 0, 0, rfl, by omega, by omega, by omega, by simp⟩
    · rw [if_neg g]
      by_cases h2 : n - 64 < 64
      · exact shl192_small (k + 2) b c 0 (n - 64) h2 hb hc (by omega)
      · rw [step (k + 5) b c 0 (n - 64) (by omega) (by omega), over b c 0 (n - 64) (by omega)]
        by_cases g2 : c = 0
        · subst g2
          rw [if_pos ⟨rfl, rfl⟩]
          exact ⟨0, 0, 0, rfl, by omega, by omega, by omega, by simp⟩
        · rw [if_neg (by omega)]
          by_cases h3 : n - 64 - 64 < 64
          · exact shl192_small (k + 1) c 0 0 (n - 64 - 64) h3 hc (by omega) (by omega)
          · rw [step (k + 4) c 0 0 (n - 64 - 64) (by omega) (by omega), over c 0 0 (n - 64 - 64) (by omega), if_pos ⟨rfl, rfl⟩]
            exact ⟨0, 0, 0, rfl, by omega, by omega, by omega, by simp⟩
/-- A shift to the left. -/
theorem shl192_f (k a b c : Nat) (n : Int) (ha : a < 18446744073709551616) (hb : b < 18446744073709551616) (hc : c < 18446744073709551616) (hn : -9223372036854775808 ≤ n) (hn2 : n ≤ 9223372036854775807) (hk : 7 ≤ k) :
    ∃ r s t : Nat, wide_U192_Shl.f k (a : Int) (b : Int) (c : Int) n = some ((r : Int), (s : Int), (t : Int)) ∧ r < 18446744073709551616 ∧ s < 18446744073709551616 ∧ t < 18446744073709551616 ∧
      (r * 18446744073709551616 + s) * 18446744073709551616 + t = ((a * 18446744073709551616 + b) * 18446744073709551616 + c) * 2 ^ n.toNat % 6277101735386680763835789423207666416102355444464034512896 := by
  unfold wide_U192_Shl.f
  obtain ⟨k, rfl⟩ : ∃ m, k = m + 7 := ⟨k - 7, by omega⟩
  by_cases h : 0 ≤ n
  · obtain ⟨m, rfl⟩ := Int.eq_ofNat_of_zero_le h
    exact shl192_l0 k a b c m (by omega) ha hb hc
  · rw [show n.toNat = 0 by omega, wide_U192_Shl.l0, if_neg (by omega), if_pos (by omega)]
    exact ⟨a, b, c, rfl, ha, hb, hc, by omega⟩
end Go.Proofs.Ytdchdapllehppaa.Ev
end
section
set_option linter.unusedVariables false
set_option linter.unusedSimpArgs false
namespace Go.Proofs.Ytdchdapllehppaa.Ev
open Go.RowKit Go.Proofs.Ytdchdapllehppaa.PAll Go.Proofs.YtdchdapllehppaaW.PrintWords Go.Proofs.YtdchdapllehppaaW.PrintLast Go.Proofs.YtdchdapllehppaaW.PrintMore Go.Proofs.Ytdchdapllehppaa.Spec
theorem dbc {p : Prop} [Decidable p] (h : ¬ p → False) : p := Decidable.byContradiction h
theorem or_one (x : Nat) (h : x % 2 = 0) (hx : x < 18446744073709551616) (y : Nat) (hy : y < 2) : Go.bits .or .u64 (x : Int) (y : Int) = ((x + y : Nat) : Int) := by
  obtain ⟨q, rfl⟩ := Nat.dvd_of_mod_eq_zero h
  exact or_plus 1 q y (by omega) (by omega) (by omega)
/-- The numbers behind one round: what is doubled, and mended. -/
theorem div192_nums (W D : Nat) (hD0 : 0 < D) (hD : D < 340282366920938463463374607431768211456) (hW : W < 6277101735386680763835789423207666416102355444464034512896) :
    2 * (W / 2 % D) + W % 2 < 680564733841876926926749214863536422912 ∧ 2 * (W / 2 / D) + 1 < 6277101735386680763835789423207666416102355444464034512897 ∧
    (D ≤ W % 2 + 2 * (W / 2 % D) → W / D = 2 * (W / 2 / D) + 1 ∧ W % D = W % 2 + 2 * (W / 2 % D) - D) ∧ (W % 2 + 2 * (W / 2 % D) < D → W / D = 2 * (W / 2 / D) ∧ W % D = W % 2 + 2 * (W / 2 % D)) := by
  obtain ⟨t1, t2⟩ := div_step (W / 2) D (W % 2) hD0 (by omega)
  rw [show 2 * (W / 2) + W % 2 = W by omega] at t1 t2
  have l := Nat.mod_lt (W / 2) hD0
  have ql : W / 2 / D ≤ W / 2 := Nat.div_le_self _ _
  exact ⟨by omega, by omega, t1, t2⟩
/-- A round of the quotient. -/
theorem div192_step (a0 a1 a2 d1 d2 : Nat) (h0 : a0 < 18446744073709551616) (h1 : a1 < 18446744073709551616) (h2 : a2 < 18446744073709551616) (hd1 : d1 < 18446744073709551616) (hd2 : d2 < 18446744073709551616) (V D : Nat) (hV : V = (a0 * 18446744073709551616 + a1) * 18446744073709551616 + a2) (hD : D = d1 * 18446744073709551616 + d2) (hD0 : 0 < D) (M : Nat) (hM : 10 ≤ M) (i q0 q1 q2 r0 r1 r2 : Nat) (hi : i < 192) (k0 : q0 < 18446744073709551616) (k1 : q1 < 18446744073709551616) (k2 : q2 < 18446744073709551616) (l0 : r0 < 18446744073709551616) (l1 : r1 < 18446744073709551616) (l2 : r2 < 18446744073709551616)
    (W : Nat) (hW : V / 2 ^ i = W) (e1 : (q0 * 18446744073709551616 + q1) * 18446744073709551616 + q2 = W / 2 / D) (e2 : (r0 * 18446744073709551616 + r1) * 18446744073709551616 + r2 = W / 2 % D) :
      ∃ p0 p1 p2 s0 s1 s2 : Nat, wide_U192_Div.l0 (M + i + 1 + 1) (i : Int) (a0 : Int) (a1 : Int) (a2 : Int) (q0 : Int) (q1 : Int) (q2 : Int) (r0 : Int) (r1 : Int) (r2 : Int) 0 (d1 : Int) (d2 : Int) = wide_U192_Div.l0 (M + i + 1) ((i : Int) - 1) (a0 : Int) (a1 : Int) (a2 : Int) (p0 : Int) (p1 : Int) (p2 : Int) (s0 : Int) (s1 : Int) (s2 : Int) 0 (d1 : Int) (d2 : Int) ∧
        p0 < 18446744073709551616 ∧ p1 < 18446744073709551616 ∧ p2 < 18446744073709551616 ∧ s0 < 18446744073709551616 ∧ s1 < 18446744073709551616 ∧ s2 < 18446744073709551616 ∧ (p0 * 18446744073709551616 + p1) * 18446744073709551616 + p2 = W / D ∧ (s0 * 18446744073709551616 + s1) * 18446744073709551616 + s2 = W % D := by
  obtain ⟨b0, b1, b2, f1, f2, f3, f4, f5⟩ := shr192_f (M + i + 1) a0 a1 a2 (i : Int) h0 h1 h2 (by omega) (by omega) (by omega)
  obtain ⟨c0, c1, c2, g1, g2, g3, g4, g5⟩ := shl192_f (M + i + 1) r0 r1 r2 1 l0 l1 l2 (by omega) (by omega) (by omega)
  obtain ⟨m0, m1, m2, n1, n2, n3, n4, n5⟩ := shl192_f (M + i + 1) q0 q1 q2 1 k0 k1 k2 (by omega) (by omega) (by omega)
  rw [Int.toNat_natCast, ← hV, hW] at f5
  rw [show (1 : Int).toNat = 1 from rfl, Nat.pow_one] at g5 n5
  have vl : W < 6277101735386680763835789423207666416102355444464034512896 := by rw [← hW]; exact Nat.lt_of_le_of_lt (Nat.div_le_self _ _) (by omega)
  obtain ⟨u1, u2, u3, u4⟩ := div192_nums W D hD0 (by omega) vl
  rw [e1] at n5
  rw [e2] at g5
  clear e1 e2 hW
  have bit : b2 % 2 = W % 2 := by omega
  have vb : W % 2 < 2 := Nat.mod_lt _ (by omega)
  generalize W / 2 / D = Q at *
  generalize W / 2 % D = R at *
  have c2e : c2 % 2 = 0 := by omega
  have m2e : m2 % 2 = 0 := by omega
  rw [wide_U192_Div.l0, if_pos (by omega), f1, Option.bind_some, g1, Option.bind_some, n1, Option.bind_some]
  dsimp only
  rw [and_one b2 f4, bit, or_one c2 c2e g4 _ vb, show (0 : Int) = ((0 : Nat) : Int) from rfl, show M + i + 1 = (M + i - 3) + 4 by omega, cmp192_f _ c0 c1 (c2 + W % 2) 0 d1 d2 g3 hd1 (by omega) hd2, Option.bind_some, show (M + i - 3) + 4 = M + i + 1 by omega, Nat.zero_mul, Nat.zero_add, ← hD, wrap_id (x := (i : Int) - 1) (by omega) (by omega)]
  have rr : (c0 * 18446744073709551616 + c1) * 18446744073709551616 + (c2 + W % 2) = W % 2 + 2 * R := dbc (fun _ => by omega)
  rw [rr]
  by_cases g : D ≤ W % 2 + 2 * R
  · rw [if_pos (show cmpN (W % 2 + 2 * R) D ≥ ((0 : Nat) : Int) from (cmpN_ge _ _).2 g)]
    obtain ⟨z0, z1, z2, z3, x1, x2, x3, x4, x5, x6⟩ := sub192_f c0 c1 (c2 + W % 2) 0 d1 d2 g2 g3 (by omega) (by omega) hd1 hd2
    rw [x1, Option.bind_some]
    dsimp only
    have oo := or_one m2 m2e n4 1 (by omega)
    rw [show ((1 : Nat) : Int) = 1 from rfl] at oo
    obtain ⟨y1, y2⟩ := u3 g
    rw [oo]
    exact ⟨m0, m1, m2 + 1, z0, z1, z2, rfl, n2, n3, by omega, x2, x3, x4, dbc (fun _ => by omega), dbc (fun _ => by omega)⟩
  · rw [if_neg (show ¬ cmpN (W % 2 + 2 * R) D ≥ ((0 : Nat) : Int) from fun h => g ((cmpN_ge _ _).1 h))]
    obtain ⟨y1, y2⟩ := u4 (by omega)
    exact ⟨m0, m1, m2, c0, c1, c2 + W % 2, rfl, n2, n3, n4, g2, g3, by omega, dbc (fun _ => by omega), dbc (fun _ => by omega)⟩
theorem div192_l0 (a0 a1 a2 d1 d2 : Nat) (h0 : a0 < 18446744073709551616) (h1 : a1 < 18446744073709551616) (h2 : a2 < 18446744073709551616) (hd1 : d1 < 18446744073709551616) (hd2 : d2 < 18446744073709551616) (V D : Nat) (hV : V = (a0 * 18446744073709551616 + a1) * 18446744073709551616 + a2) (hD : D = d1 * 18446744073709551616 + d2) (hD0 : 0 < D) (M : Nat) (hM : 10 ≤ M) :
    ∀ (j q0 q1 q2 r0 r1 r2 : Nat), j ≤ 192 → q0 < 18446744073709551616 → q1 < 18446744073709551616 → q2 < 18446744073709551616 → r0 < 18446744073709551616 → r1 < 18446744073709551616 → r2 < 18446744073709551616 →
      (q0 * 18446744073709551616 + q1) * 18446744073709551616 + q2 = V / 2 ^ j / D → (r0 * 18446744073709551616 + r1) * 18446744073709551616 + r2 = V / 2 ^ j % D →
      ∃ p0 p1 p2 s1 s2 : Nat, wide_U192_Div.l0 (M + j + 1) ((j : Int) - 1) (a0 : Int) (a1 : Int) (a2 : Int) (q0 : Int) (q1 : Int) (q2 : Int) (r0 : Int) (r1 : Int) (r2 : Int) 0 (d1 : Int) (d2 : Int) = some ((p0 : Int), (p1 : Int), (p2 : Int), (s1 : Int), (s2 : Int)) ∧
        p0 < 18446744073709551616 ∧ p1 < 18446744073709551616 ∧ p2 < 18446744073709551616 ∧ s1 < 18446744073709551616 ∧ s2 < 18446744073709551616 ∧ (p0 * 18446744073709551616 + p1) * 18446744073709551616 + p2 = V / D ∧ s1 * 18446744073709551616 + s2 = V % D := by
  intro j
  induction j with
  | zero =>
    intro q0 q1 q2 r0 r1 r2 _ k0 k1 k2 l0 l1 l2 e1 e2
    rw [wide_U192_Div.l0, if_neg (by omega)]
    rw [Nat.pow_zero, Nat.div_one] at e1 e2
    have lt := Nat.mod_lt V hD0
    exact ⟨q0, q1, q2, r1, r2, rfl, k0, k1, k2, l1, l2, e1, dbc (fun _ => by omega)⟩
  | succ i ih =>
    intro q0 q1 q2 r0 r1 r2 hi k0 k1 k2 l0 l1 l2 e1 e2
    have vi : V / 2 ^ (i + 1) = V / 2 ^ i / 2 := by rw [Nat.pow_succ, Nat.div_div_eq_div_mul]
    rw [vi] at e1 e2
    obtain ⟨p0, p1, p2, s0, s1, s2, st, z0, z1, z2, z3, z4, z5, z6, z7⟩ := div192_step a0 a1 a2 d1 d2 h0 h1 h2 hd1 hd2 V D hV hD hD0 M hM i q0 q1 q2 r0 r1 r2 (by omega) k0 k1 k2 l0 l1 l2 (V / 2 ^ i) rfl e1 e2
    rw [show M + (i + 1) + 1 = M + i + 1 + 1 by omega, show ((i + 1 : Nat) : Int) - 1 = (i : Int) by omega, st]
    exact ih p0 p1 p2 s0 s1 s2 (by omega) z0 z1 z2 z3 z4 z5 z6 z7
/-- The quotient of three words by two, and what is left; by nought they are noughts. -/
theorem div192_f (k a0 a1 a2 d1 d2 : Nat) (h0 : a0 < 18446744073709551616) (h1 : a1 < 18446744073709551616) (h2 : a2 < 18446744073709551616) (hd1 : d1 < 18446744073709551616) (hd2 : d2 < 18446744073709551616) (hk : 300 ≤ k) (hD0 : 0 < d1 * 18446744073709551616 + d2) :
    ∃ p0 p1 p2 s1 s2 : Nat, wide_U192_Div.f k (a0 : Int) (a1 : Int) (a2 : Int) (d1 : Int) (d2 : Int) = some ((p0 : Int), (p1 : Int), (p2 : Int), (s1 : Int), (s2 : Int)) ∧
      p0 < 18446744073709551616 ∧ p1 < 18446744073709551616 ∧ p2 < 18446744073709551616 ∧ s1 < 18446744073709551616 ∧ s2 < 18446744073709551616 ∧ (p0 * 18446744073709551616 + p1) * 18446744073709551616 + p2 = ((a0 * 18446744073709551616 + a1) * 18446744073709551616 + a2) / (d1 * 18446744073709551616 + d2) ∧ s1 * 18446744073709551616 + s2 = ((a0 * 18446744073709551616 + a1) * 18446744073709551616 + a2) % (d1 * 18446744073709551616 + d2) := by
  obtain ⟨k, rfl⟩ : ∃ m, k = m + 1 := ⟨k - 1, by omega⟩
  unfold wide_U192_Div.f
  rw [beq0, beq0, if_neg (by simp; omega), len192_f k a0 a1 a2 h0 h1 h2, Option.bind_some]
  have hb := bl_le_of_lt ((a0 * 18446744073709551616 + a1) * 18446744073709551616 + a2) 192 (by omega)
  have hz : ((a0 * 18446744073709551616 + a1) * 18446744073709551616 + a2) / 2 ^ bl ((a0 * 18446744073709551616 + a1) * 18446744073709551616 + a2) = 0 := Nat.div_eq_of_lt (bl_lt _)
  rw [wrap_id (by omega) (by omega), show k + 1 = (k - bl ((a0 * 18446744073709551616 + a1) * 18446744073709551616 + a2)) + bl ((a0 * 18446744073709551616 + a1) * 18446744073709551616 + a2) + 1 by omega]
  exact div192_l0 a0 a1 a2 d1 d2 h0 h1 h2 hd1 hd2 _ _ rfl rfl hD0 _ (by omega) _ 0 0 0 0 0 0 hb (by omega) (by omega) (by omega) (by omega) (by omega) (by omega) (by rw [hz, Nat.zero_div]) (by rw [hz, Nat.zero_mod])
theorem div192_zero (k : Nat) (a0 a1 a2 : Int) : wide_U192_Div.f k a0 a1 a2 0 0 = some (0, 0, 0, 0, 0) := by
  unfold wide_U192_Div.f
  rw [if_pos (by rfl)]
theorem div128_zero (k : Nat) (a0 a1 : Int) : wide_U128_Div.f k a0 a1 0 = some (0, 0, 0) := by
  unfold wide_U128_Div.f
  rw [if_pos rfl]
end Go.Proofs.Ytdchdapllehppaa.Ev
end
section
set_option linter.unusedVariables false
set_option linter.unusedSimpArgs false
namespace Go.Proofs.Ytdchdapllehppaa.Ev
open Go.RowKit Go.Proofs.Ytdchdapllehppaa.PAll Go.Proofs.YtdchdapllehppaaW.PrintWords Go.Proofs.YtdchdapllehppaaW.PrintLast Go.Proofs.YtdchdapllehppaaW.PrintMore Go.Proofs.Ytdchdapllehppaa.Spec
theorem works_at : flyballlaw01_works.f 200 = some true := by kernel_rfl
theorem works_f (k : Nat) (hk : 200 ≤ k) : flyballlaw01_works.f k = some true := at_rounds flyballlaw01_works.mono hk works_at
theorem nat64 {x : Int} (h : (Lit.int .u64 x).wf = true) : ∃ n : Nat, x = (n : Int) ∧ n < 18446744073709551616 := by
  have : 0 ≤ x ∧ x < 18446744073709551616 := by
    have e := h
    simp [Lit.wf, Go.IntKind.min, Go.IntKind.max, Go.IntKind.signed, Go.IntKind.bits] at e
    omega
  exact ⟨x.toNat, by omega, by omega⟩
theorem cmpN_zero (a b : Nat) : (cmpN a b == 0) = decide (a = b) := by
  unfold cmpN
  by_cases h : a < b
  · rw [if_pos h, decide_eq_false (by omega)]; rfl
  · rw [if_neg h]
    by_cases g : b < a
    · rw [if_pos g, decide_eq_false (by omega)]; rfl
    · rw [if_neg g, decide_eq_true (by omega)]; rfl
theorem of_f (k a b : Nat) (ha : a < 18446744073709551616) (hb : b < 18446744073709551616) (hk : 300 ≤ k) : ∃ r, flyballlaw01_of.f k (a : Int) (b : Int) = some r ∧ num r = a * 18446744073709551616 + b ∧ r.length = 128 := by
  obtain ⟨r, h1, h2, h3⟩ := of2_f k b a hb ha hk
  unfold flyballlaw01_of.f
  rw [h1, Option.bind_some]
  exact ⟨r, rfl, h2, h3⟩
theorem of3w_f (k a b c : Nat) (ha : a < 18446744073709551616) (hb : b < 18446744073709551616) (hc : c < 18446744073709551616) (hk : 300 ≤ k) : ∃ r, flyballlaw01_of3.f k (a : Int) (b : Int) (c : Int) = some r ∧ num r = (a * 18446744073709551616 + b) * 18446744073709551616 + c ∧ r.length = 192 := by
  obtain ⟨r, h1, h2, h3⟩ := of3_f k c b a hc hb ha hk
  unfold flyballlaw01_of3.f
  rw [h1, Option.bind_some]
  exact ⟨r, rfl, h2, h3⟩
theorem is_f (k a b : Nat) (l : List Bool) (ha : a < 18446744073709551616) (hb : b < 18446744073709551616) (hl : l.length ≤ 1000) (hk : 1002 ≤ k) : flyballlaw01_is.f k (a : Int) (b : Int) l = some (decide (a * 18446744073709551616 + b = num l)) := by
  obtain ⟨r, h1, h2, h3⟩ := of_f k a b ha hb (by omega)
  unfold flyballlaw01_is.f
  rw [h1, Option.bind_some, cmp_f k r l (by omega) hl hk, Option.bind_some, cmpN_zero, h2]
theorem is3_f (k a b c : Nat) (l : List Bool) (ha : a < 18446744073709551616) (hb : b < 18446744073709551616) (hc : c < 18446744073709551616) (hl : l.length ≤ 1000) (hk : 1002 ≤ k) : flyballlaw01_is3.f k (a : Int) (b : Int) (c : Int) l = some (decide ((a * 18446744073709551616 + b) * 18446744073709551616 + c = num l)) := by
  obtain ⟨r, h1, h2, h3⟩ := of3w_f k a b c ha hb hc (by omega)
  unfold flyballlaw01_is3.f
  rw [h1, Option.bind_some, cmp_f k r l (by omega) hl hk, Option.bind_some, cmpN_zero, h2]
end Go.Proofs.Ytdchdapllehppaa.Ev
end
section
set_option linter.unusedVariables false
set_option linter.unusedSimpArgs false
namespace Go.Proofs.Ytdchdapllehppaa.Pure
open Go.RowKit Go.Proofs.Ytdchdapllehppaa.PAll Go.Proofs.YtdchdapllehppaaW.PrintWords Go.Proofs.YtdchdapllehppaaW.PrintLast Go.Proofs.YtdchdapllehppaaW.PrintMore Go.Proofs.Ytdchdapllehppaa.Spec Go.Proofs.Ytdchdapllehppaa.Ev
theorem divides_j0 (k c0 c1 c2 d1 d2 p0 p1 p2 s1 s2 : Nat) (hk : 4000 ≤ k) (h0 : c0 < 18446744073709551616) (h1 : c1 < 18446744073709551616) (h2 : c2 < 18446744073709551616) (hd1 : d1 < 18446744073709551616) (hd2 : d2 < 18446744073709551616)
    (g0 : p0 < 18446744073709551616) (g1 : p1 < 18446744073709551616) (g2 : p2 < 18446744073709551616) (g3 : s1 < 18446744073709551616) (g4 : s2 < 18446744073709551616) (hz : 0 < d1 * 18446744073709551616 + d2)
    (hp : (p0 * 18446744073709551616 + p1) * 18446744073709551616 + p2 = ((c0 * 18446744073709551616 + c1) * 18446744073709551616 + c2) / (d1 * 18446744073709551616 + d2)) (hs : s1 * 18446744073709551616 + s2 = ((c0 * 18446744073709551616 + c1) * 18446744073709551616 + c2) % (d1 * 18446744073709551616 + d2)) :
    flyballlaw01_WideDivides.j0 (k + 1) true (c0 : Int) (c1 : Int) (c2 : Int) (d1 : Int) (d2 : Int) (p0 : Int) (p1 : Int) (p2 : Int) (s1 : Int) (s2 : Int) = some true := by
  obtain ⟨r, r1, r2, r3⟩ := of3w_f k c0 c1 c2 h0 h1 h2 (by omega)
  obtain ⟨s, t1, t2, t3⟩ := of_f k d1 d2 hd1 hd2 (by omega)
  obtain ⟨q, e, u1, u2, u3, u4, u5⟩ := div_f k r s (by omega) (by omega) (by rw [t2]; exact hz) (by omega)
  rw [flyballlaw01_WideDivides.j0, beq0, beq0, if_neg (by simp; omega), r1, Option.bind_some, t1, Option.bind_some, u1, Option.bind_some]
  dsimp only
  rw [is3_f k p0 p1 p2 q g0 g1 g2 (by omega) (by omega), Option.bind_some, is_f k s1 s2 e g3 g4 (by omega) (by omega), Option.bind_some, if_pos rfl, hp, hs, u2, u3, r2, t2]
  simp
theorem WideDivides (a0_0 a0_1 a1 a2_0 a2_1 a2_2 a3_0 a3_1 : Int) (w0 : (Lit.int .u64 a0_0).wf = true) (w1 : (Lit.int .u64 a0_1).wf = true) (w2 : (Lit.int .u64 a1).wf = true) (w3 : (Lit.int .u64 a2_0).wf = true) (w4 : (Lit.int .u64 a2_1).wf = true) (w5 : (Lit.int .u64 a2_2).wf = true) (w6 : (Lit.int .u64 a3_0).wf = true) (w7 : (Lit.int .u64 a3_1).wf = true) :
    ∃ k, flyballlaw01_WideDivides.f k a0_0 a0_1 a1 a2_0 a2_1 a2_2 a3_0 a3_1 = some true := by
  obtain ⟨a, rfl, ha⟩ := nat64 w0
  obtain ⟨b, rfl, hb⟩ := nat64 w1
  obtain ⟨c, rfl, hc⟩ := nat64 w2
  obtain ⟨c0, rfl, h0⟩ := nat64 w3
  obtain ⟨c1, rfl, h1⟩ := nat64 w4
  obtain ⟨c2, rfl, h2⟩ := nat64 w5
  obtain ⟨d1, rfl, hd1⟩ := nat64 w6
  obtain ⟨d2, rfl, hd2⟩ := nat64 w7
  refine ⟨5000 + 1, ?_⟩
  have fin : ∃ p0 p1 p2 s1 s2, wide_U192_Div.f (5000 + 1) (c0 : Int) (c1 : Int) (c2 : Int) (d1 : Int) (d2 : Int) = some (p0, p1, p2, s1, s2) ∧ flyballlaw01_WideDivides.j0 (5000 + 1) true (c0 : Int) (c1 : Int) (c2 : Int) (d1 : Int) (d2 : Int) p0 p1 p2 s1 s2 = some true := by
    by_cases z : d1 * 18446744073709551616 + d2 = 0
    · obtain rfl : d1 = 0 := by omega
      obtain rfl : d2 = 0 := by omega
      exact ⟨0, 0, 0, 0, 0, div192_zero _ _ _ _, by rw [flyballlaw01_WideDivides.j0]; rfl⟩
    · obtain ⟨p0, p1, p2, s1, s2, e, g0, g1, g2, g3, g4, hp, hs⟩ := div192_f (5000 + 1) c0 c1 c2 d1 d2 h0 h1 h2 hd1 hd2 (by omega) (by omega)
      exact ⟨_, _, _, _, _, e, divides_j0 5000 c0 c1 c2 d1 d2 p0 p1 p2 s1 s2 (by omega) h0 h1 h2 hd1 hd2 g0 g1 g2 g3 g4 (by omega) hp hs⟩
  obtain ⟨p0, p1, p2, s1, s2, fe, fj⟩ := fin
  unfold flyballlaw01_WideDivides.f
  rw [works_f _ (by omega), Option.bind_some, if_pos rfl]
  by_cases z : c = 0
  · subst z
    rw [show ((0 : Nat) : Int) = 0 from rfl, div128_zero, Option.bind_some, fe, Option.bind_some, if_pos rfl]
    dsimp only
    rw [if_neg (by decide), if_pos rfl]
    exact fj
  · obtain ⟨q, p, r, e, g0, g1, g2, hq, hr⟩ := div128_f (5000 + 1) a b c (by omega) ha hb hc (by omega)
    obtain ⟨n, n1, n2, n3⟩ := of_f (5000 + 1) a b ha hb (by omega)
    obtain ⟨m, m1, m2, m3⟩ := of1_f (5000 + 1) c hc (by omega)
    obtain ⟨x, y, u1, u2, u3, u4, u5⟩ := div_f (5000 + 1) n m (by omega) (by omega) (by omega) (by omega)
    obtain ⟨v, v1, v2, v3⟩ := of1_f (5000 + 1) r g2 (by omega)
    rw [e, Option.bind_some, fe, Option.bind_some, if_neg (by omega), n1, Option.bind_some, m1, Option.bind_some, u1, Option.bind_some]
    dsimp only
    rw [is_f _ q p x g0 g1 (by omega) (by omega), Option.bind_some, if_pos (by simp [hq, u2, n2, m2]), v1, Option.bind_some, cmp_f _ v y (by omega) (by omega) (by omega), Option.bind_some, v2, u3, hr, n2, m2]
    rw [if_pos (by unfold cmpN; simp)]
    exact fj
end Go.Proofs.Ytdchdapllehppaa.Pure
end
section
set_option linter.unusedVariables false
set_option linter.unusedSimpArgs false
namespace Go.Proofs.YtdchdapllehppaaAid
open Go.Deep Go.Joins Go.ChangeShapes Go.WideShapes Go.RowKit
section
variable {H : Type} {enc : TypeId × Value → H} {P : Program} {w : World} {base : Nat} {spare : Nat → Bool} {held : Bool}
theorem trod_uu {t : TypeId} {f0 f1 : Field} {n : Nat} {cs : List Value} {y : DataW H × List MemPlace} (hs : P.underlying t = some (.struct #[f0, f1])) (hone : oneCellFields P #[f0, f1] = true)
    (h0 : P.underlying f0.type = some (.int .u64)) (h1 : P.underlying f1.type = some (.int .u64)) (hl : cs.length = 2) (h : DataW.trod enc P w base spare held n t cs = some y) :
    ∃ (x0 x1 : Int), cs = [.int .u64 x0, .int .u64 x1] ∧ y = (.agg [.lit (.int .u64 x0), .lit (.int .u64 x1)], []) ∧ (Lit.int .u64 x0).wf = true ∧ (Lit.int .u64 x1).wf = true := by
  obtain ⟨xs, m, _, hx, _, hlen, hg⟩ := DataW.trod_struct hs h
  obtain ⟨o0, k0⟩ := hone_of hone 0 f0 rfl
  obtain ⟨o1, k1⟩ := hone_of hone 1 f1 rfl
  match cs, hl with
  | [c0, c1], _ =>
    match xs, hlen with
    | [y0, y1], _ =>
      have g0 : DataW.trod enc P w base spare held m f0.type [c0] = some y0 := by simpa [o0, k0] using hg 0 f0 rfl
      have g1 : DataW.trod enc P w base spare held m f1.type [c1] = some y1 := by simpa [o1, k1] using hg 1 f1 rfl
      obtain ⟨x0, e0, rfl, w0⟩ := DataW.trod_int h0 g0
      obtain ⟨x1, e1, rfl, w1⟩ := DataW.trod_int h1 g1
      simp only [List.cons.injEq, and_true] at e0 e1
      subst e0 e1
      exact ⟨x0, x1, rfl, by simpa using hx, w0, w1⟩
theorem trod_uu_mk {t : TypeId} {f0 f1 : Field} {x0 x1 : Int} (hs : P.underlying t = some (.struct #[f0, f1])) (hone : oneCellFields P #[f0, f1] = true) (hC : P.cellsOf t = 2)
    (h0 : P.underlying f0.type = some (.int .u64)) (h1 : P.underlying f1.type = some (.int .u64)) (w0 : (Lit.int .u64 x0).wf = true) (w1 : (Lit.int .u64 x1).wf = true) :
    DataW.trod enc P w base spare held 2 t [.int .u64 x0, .int .u64 x1] = some (.agg [.lit (.int .u64 x0), .lit (.int .u64 x1)], []) := by
  obtain ⟨o0, k0⟩ := hone_of hone 0 f0 rfl
  obtain ⟨o1, k1⟩ := hone_of hone 1 f1 rfl
  have := trod_struct2_mk (enc := enc) (w := w) (base := base) (spare := spare) (held := held) (n := 1) (cs := [.int .u64 x0, .int .u64 x1]) hs (by simp [hC])
    (by simpa [o0, k0] using trod_int_mk (enc := enc) (w := w) (base := base) (spare := spare) (held := held) 0 h0 w0) (by simpa [o1, k1] using trod_int_mk (enc := enc) (w := w) (base := base) (spare := spare) (held := held) 0 h1 w1)
  simpa using this
theorem open_uu {r : Reach} {b0 : Nat} {t : TypeId} {f0 f1 : Field} {v : Value} {d : DataW H} {p : List MemPlace} (hs : P.underlying t = some (.struct #[f0, f1])) (hone : oneCellFields P #[f0, f1] = true) (hC : P.cellsOf t = 2)
    (h0 : P.underlying f0.type = some (.int .u64)) (h1 : P.underlying f1.type = some (.int .u64))
    (hv : Value.okWide P w r b0 t v) (h : DataW.Trod enc P w base spare held t v d p) :
    ∃ (x0 x1 : Int), v = .agg #[.int .u64 x0, .int .u64 x1] ∧ d = .agg [.lit (.int .u64 x0), .lit (.int .u64 x1)] ∧ p = [] ∧ (Lit.int .u64 x0).wf = true ∧ (Lit.int .u64 x1).wf = true := by
  obtain ⟨cs, rfl, hsz⟩ := okWide_struct hs hv
  obtain ⟨l⟩ := cs
  obtain ⟨fuel, hf⟩ := h
  obtain ⟨x0, x1, e, ey, w0, w1⟩ := trod_uu hs hone h0 h1 (hsz.trans hC) hf
  simp only [Prod.mk.injEq] at ey
  have e' : l = [.int .u64 x0, .int .u64 x1] := by simpa [Value.cells] using e
  subst e'
  exact ⟨x0, x1, rfl, ey.1, ey.2, w0, w1⟩
theorem shut_uu {t : TypeId} {f0 f1 : Field} {x0 x1 : Int} (hs : P.underlying t = some (.struct #[f0, f1])) (hone : oneCellFields P #[f0, f1] = true) (hC : P.cellsOf t = 2)
    (h0 : P.underlying f0.type = some (.int .u64)) (h1 : P.underlying f1.type = some (.int .u64)) (w0 : (Lit.int .u64 x0).wf = true) (w1 : (Lit.int .u64 x1).wf = true) :
    DataW.Trod enc P w base spare held t (.agg #[.int .u64 x0, .int .u64 x1]) (.agg [.lit (.int .u64 x0), .lit (.int .u64 x1)]) [] :=
  ⟨2, by simpa [Value.cells] using trod_uu_mk (enc := enc) (w := w) (base := base) (spare := spare) (held := held) hs hone hC h0 h1 w0 w1⟩
theorem trod_uuu {t : TypeId} {f0 f1 f2 : Field} {n : Nat} {cs : List Value} {y : DataW H × List MemPlace} (hs : P.underlying t = some (.struct #[f0, f1, f2])) (hone : oneCellFields P #[f0, f1, f2] = true)
    (h0 : P.underlying f0.type = some (.int .u64)) (h1 : P.underlying f1.type = some (.int .u64)) (h2 : P.underlying f2.type = some (.int .u64)) (hl : cs.length = 3) (h : DataW.trod enc P w base spare held n t cs = some y) :
    ∃ (x0 x1 x2 : Int), cs = [.int .u64 x0, .int .u64 x1, .int .u64 x2] ∧ y = (.agg [.lit (.int .u64 x0), .lit (.int .u64 x1), .lit (.int .u64 x2)], []) ∧ (Lit.int .u64 x0).wf = true ∧ (Lit.int .u64 x1).wf = true ∧ (Lit.int .u64 x2).wf = true := by
  obtain ⟨xs, m, _, hx, _, hlen, hg⟩ := DataW.trod_struct hs h
  obtain ⟨o0, k0⟩ := hone_of hone 0 f0 rfl
  obtain ⟨o1, k1⟩ := hone_of hone 1 f1 rfl
  obtain ⟨o2, k2⟩ := hone_of hone 2 f2 rfl
  match cs, hl with
  | [c0, c1, c2], _ =>
    match xs, hlen with
    | [y0, y1, y2], _ =>
      have g0 : DataW.trod enc P w base spare held m f0.type [c0] = some y0 := by simpa [o0, k0] using hg 0 f0 rfl
      have g1 : DataW.trod enc P w base spare held m f1.type [c1] = some y1 := by simpa [o1, k1] using hg 1 f1 rfl
      have g2 : DataW.trod enc P w base spare held m f2.type [c2] = some y2 := by simpa [o2, k2] using hg 2 f2 rfl
      obtain ⟨x0, e0, rfl, w0⟩ := DataW.trod_int h0 g0
      obtain ⟨x1, e1, rfl, w1⟩ := DataW.trod_int h1 g1
      obtain ⟨x2, e2, rfl, w2⟩ := DataW.trod_int h2 g2
      simp only [List.cons.injEq, and_true] at e0 e1 e2
      subst e0 e1 e2
      exact ⟨x0, x1, x2, rfl, by simpa using hx, w0, w1, w2⟩
theorem trod_uuu_mk {t : TypeId} {f0 f1 f2 : Field} {x0 x1 x2 : Int} (hs : P.underlying t = some (.struct #[f0, f1, f2])) (hone : oneCellFields P #[f0, f1, f2] = true) (hC : P.cellsOf t = 3)
    (h0 : P.underlying f0.type = some (.int .u64)) (h1 : P.underlying f1.type = some (.int .u64)) (h2 : P.underlying f2.type = some (.int .u64)) (w0 : (Lit.int .u64 x0).wf = true) (w1 : (Lit.int .u64 x1).wf = true) (w2 : (Lit.int .u64 x2).wf = true) :
    DataW.trod enc P w base spare held 2 t [.int .u64 x0, .int .u64 x1, .int .u64 x2] = some (.agg [.lit (.int .u64 x0), .lit (.int .u64 x1), .lit (.int .u64 x2)], []) := by
  obtain ⟨o0, k0⟩ := hone_of hone 0 f0 rfl
  obtain ⟨o1, k1⟩ := hone_of hone 1 f1 rfl
  obtain ⟨o2, k2⟩ := hone_of hone 2 f2 rfl
  have := trod_struct3_mk (enc := enc) (w := w) (base := base) (spare := spare) (held := held) (n := 1) (cs := [.int .u64 x0, .int .u64 x1, .int .u64 x2]) hs (by simp [hC])
    (by simpa [o0, k0] using trod_int_mk (enc := enc) (w := w) (base := base) (spare := spare) (held := held) 0 h0 w0) (by simpa [o1, k1] using trod_int_mk (enc := enc) (w := w) (base := base) (spare := spare) (held := held) 0 h1 w1) (by simpa [o2, k2] using trod_int_mk (enc := enc) (w := w) (base := base) (spare := spare) (held := held) 0 h2 w2)
  simpa using this
theorem open_uuu {r : Reach} {b0 : Nat} {t : TypeId} {f0 f1 f2 : Field} {v : Value} {d : DataW H} {p : List MemPlace} (hs : P.underlying t = some (.struct #[f0, f1, f2])) (hone : oneCellFields P #[f0, f1, f2] = true) (hC : P.cellsOf t = 3)
    (h0 : P.underlying f0.type = some (.int .u64)) (h1 : P.underlying f1.type = some (.int .u64)) (h2 : P.underlying f2.type = some (.int .u64))
    (hv : Value.okWide P w r b0 t v) (h : DataW.Trod enc P w base spare held t v d p) :
    ∃ (x0 x1 x2 : Int), v = .agg #[.int .u64 x0, .int .u64 x1, .int .u64 x2] ∧ d = .agg [.lit (.int .u64 x0), .lit (.int .u64 x1), .lit (.int .u64 x2)] ∧ p = [] ∧ (Lit.int .u64 x0).wf = true ∧ (Lit.int .u64 x1).wf = true ∧ (Lit.int .u64 x2).wf = true := by
  obtain ⟨cs, rfl, hsz⟩ := okWide_struct hs hv
  obtain ⟨l⟩ := cs
  obtain ⟨fuel, hf⟩ := h
  obtain ⟨x0, x1, x2, e, ey, w0, w1, w2⟩ := trod_uuu hs hone h0 h1 h2 (hsz.trans hC) hf
  simp only [Prod.mk.injEq] at ey
  have e' : l = [.int .u64 x0, .int .u64 x1, .int .u64 x2] := by simpa [Value.cells] using e
  subst e'
  exact ⟨x0, x1, x2, rfl, ey.1, ey.2, w0, w1, w2⟩
theorem shut_uuu {t : TypeId} {f0 f1 f2 : Field} {x0 x1 x2 : Int} (hs : P.underlying t = some (.struct #[f0, f1, f2])) (hone : oneCellFields P #[f0, f1, f2] = true) (hC : P.cellsOf t = 3)
    (h0 : P.underlying f0.type = some (.int .u64)) (h1 : P.underlying f1.type = some (.int .u64)) (h2 : P.underlying f2.type = some (.int .u64)) (w0 : (Lit.int .u64 x0).wf = true) (w1 : (Lit.int .u64 x1).wf = true) (w2 : (Lit.int .u64 x2).wf = true) :
    DataW.Trod enc P w base spare held t (.agg #[.int .u64 x0, .int .u64 x1, .int .u64 x2]) (.agg [.lit (.int .u64 x0), .lit (.int .u64 x1), .lit (.int .u64 x2)]) [] :=
  ⟨2, by simpa [Value.cells] using trod_uuu_mk (enc := enc) (w := w) (base := base) (spare := spare) (held := held) hs hone hC h0 h1 h2 w0 w1 w2⟩
end
end Go.Proofs.YtdchdapllehppaaAid
end
