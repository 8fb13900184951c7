/- What the claim needs of several texts, in one. -/
import Derived.Laws.BitsLemmas
import Derived.KernelRfl
import Derived.WalkKit
import Derived.ProofKit
import Derived.OpenShut
import Derived.ShutString
import Derived.ChangeOld
import Derived.Below
import Derived.SizedLaws
import Derived.Lib.SmallJoins
import Derived.Test.YtdchdapllehppaaZSW
import Derived.Test.YtdchdapllehppaaZSx0
import Derived.Test.YtdchdapllehppaaZSx3
import Derived.Test.YtdchdapllehppaaZSx4
import Derived.Test.YtdchdapllehppaaZSx5
import Derived.Test.YtdchdapllehppaaZSx6
import Derived.Test.YtdchdapllehppaaZSx7
import Derived.Test.YtdchdapllehppaaZSx8
import Derived.Test.YtdchdapllehppaaZSx9
import Derived.Test.YtdchdapllehppaaZSx10
import Derived.Test.YtdchdapllehppaaZSx11
import Derived.Test.YtdchdapllehppaaZSx12
import Derived.Test.YtdchdapllehppaaZSx13
import Derived.Test.YtdchdapllehppaaZSx14
import Derived.Test.YtdchdapllehppaaZSx15
import Derived.Test.YtdchdapllehppaaZSx19
import Derived.Test.YtdchdapllehppaaZSx25
import Derived.Test.YtdchdapllehppaaZSx26
namespace Go.Proofs.Ytdchdapllehppaa.Ev
end Go.Proofs.Ytdchdapllehppaa.Ev
namespace Go.Proofs.Ytdchdapllehppaa.PAll
end Go.Proofs.Ytdchdapllehppaa.PAll
namespace Go.Proofs.Ytdchdapllehppaa.Spec
end Go.Proofs.Ytdchdapllehppaa.Spec
section
set_option linter.unusedVariables false
set_option linter.unusedSimpArgs false
namespace Go.Proofs.Ytdchdapllehppaa.Spec
/-- The number that a row of bits is, the least one first. -/
def num : List Bool → Nat
  | [] => 0
  | b :: l => b.toNat + 2 * num l
theorem num_append (a b : List Bool) : num (a ++ b) = num a + 2 ^ a.length * num b := by
  induction a with
  | nil => simp [num]
  | cons x a ih => simp only [List.cons_append, num, ih, List.length_cons, Nat.pow_succ, Nat.mul_add]; rw [Nat.mul_comm (2 ^ a.length) 2, Nat.mul_assoc]; omega
theorem num_lt (a : List Bool) : num a < 2 ^ a.length := by
  induction a with
  | nil => simp [num]
  | cons x a ih => cases x <;> simp [num, Nat.pow_succ] <;> omega
theorem num_snoc (a : List Bool) (x : Bool) : num (a ++ [x]) = num a + 2 ^ a.length * x.toNat := by rw [num_append]; simp [num]
theorem num_split (l : List Bool) (n : Nat) : num l = num (l.take n) + 2 ^ (l.take n).length * num (l.drop n) := by
  rw [← num_append, List.take_append_drop]
theorem getD_beyond (l : List Bool) (i : Nat) (h : l.length ≤ i) : l.getD i false = false := by simp [List.getD_eq_getElem?_getD, h]
theorem num_take_succ (l : List Bool) (i : Nat) : num (l.take (i + 1)) = num (l.take i) + 2 ^ i * (l.getD i false).toNat := by
  by_cases h : i < l.length
  · rw [List.take_succ_eq_append_getElem h, num_snoc]
    simp [List.getD_eq_getElem?_getD, h, Nat.min_eq_left (Nat.le_of_lt h)]
  · rw [getD_beyond l i (by omega), List.take_of_length_le (by omega), List.take_of_length_le (by omega)]
    simp
theorem num_take_all (l : List Bool) (i : Nat) (h : l.length ≤ i) : num (l.take i) = num l := by rw [List.take_of_length_le h]
theorem num_replicate (n : Nat) : num (List.replicate n false) = 0 := by
  induction n with
  | zero => rfl
  | succ n ih => simp [List.replicate_succ, num, ih]
theorem num_take_lt (a : List Bool) (i : Nat) : num (a.take i) < 2 ^ i :=
  Nat.lt_of_lt_of_le (num_lt _) (Nat.pow_le_pow_right (by omega) (by simp; omega))
/-- How many bits a number has. -/
def bl (n : Nat) : Nat := if n = 0 then 0 else n.log2 + 1
theorem bl_eq (n m : Nat) (h1 : n < 2 ^ m) (h2 : m = 0 ∨ 2 ^ (m - 1) ≤ n) : bl n = m := by
  unfold bl
  rcases h2 with rfl | h2
  · rw [if_pos (by omega)]
  · have hp : 0 < 2 ^ (m - 1) := Nat.two_pow_pos _
    rw [if_neg (by omega)]
    have h3 : m - 1 ≤ n.log2 := (Nat.le_log2 (by omega)).2 h2
    have h4 : n.log2 < m := (Nat.log2_lt (by omega)).2 h1
    omega
theorem bl_pos (n : Nat) (h : 0 < n) : 0 < bl n := by unfold bl; rw [if_neg (by omega)]; omega
theorem num_take_getD (l : List Bool) (n : Nat) (h : l.getD n false = true) : 2 ^ n ≤ num l := by
  have h1 := num_take_succ l n
  have h2 := num_split l (n + 1)
  rw [h] at h1
  simp at h1
  omega
theorem num_mod (l : List Bool) (n : Nat) : num (l.take n) = num l % 2 ^ n := by
  by_cases h : l.length ≤ n
  · rw [num_take_all l n h, Nat.mod_eq_of_lt (Nat.lt_of_lt_of_le (num_lt l) (Nat.pow_le_pow_right (by omega) h))]
  · have h2 := num_split l n
    rw [List.length_take, Nat.min_eq_left (by omega)] at h2
    rw [h2, Nat.add_mul_mod_self_left, Nat.mod_eq_of_lt (num_take_lt l n)]
theorem num_div (l : List Bool) (n : Nat) : num (l.drop n) = num l / 2 ^ n := by
  by_cases h : l.length ≤ n
  · rw [List.drop_eq_nil_of_le h, Nat.div_eq_of_lt (Nat.lt_of_lt_of_le (num_lt l) (Nat.pow_le_pow_right (by omega) h))]
    rfl
  · have h2 := num_split l n
    rw [List.length_take, Nat.min_eq_left (by omega)] at h2
    rw [h2, Nat.add_mul_div_left _ _ (Nat.two_pow_pos n), Nat.div_eq_of_lt (num_take_lt l n), Nat.zero_add]
theorem num_getD (l : List Bool) (n : Nat) : (l.getD n false).toNat = num l / 2 ^ n % 2 := by
  rw [← num_div]
  by_cases h : n < l.length
  · rw [List.drop_eq_getElem_cons h]
    simp only [num, List.getD_eq_getElem?_getD, List.getElem?_eq_getElem h, Option.getD_some]
    cases l[n] <;> simp <;> omega
  · rw [getD_beyond l n (by omega), List.drop_eq_nil_of_le (by omega)]
    rfl
end Go.Proofs.Ytdchdapllehppaa.Spec
end
section
set_option linter.unusedVariables false
set_option linter.unusedSimpArgs false
namespace Go.Proofs.Ytdchdapllehppaa.Ev
open Go.RowKit Go.Proofs.Ytdchdapllehppaa.PAll Go.Proofs.YtdchdapllehppaaW.PrintWords Go.Proofs.YtdchdapllehppaaW.PrintLast Go.Proofs.YtdchdapllehppaaW.PrintMore Go.Proofs.Ytdchdapllehppaa.Spec
theorem wrap_id {x : Int} (h : -9223372036854775808 ≤ x) (h' : x ≤ 9223372036854775807) : wrap64 x = x := by unfold wrap64; omega
theorem wrap_succ (i : Nat) (h : i ≤ 100000) : wrap64 ((i : Int) + 1) = ((i + 1 : Nat) : Int) := by rw [wrap_id (by omega) (by omega)]; omega
theorem wrap_pred (i : Nat) (h : i ≤ 100000) : wrap64 (((i + 1 : Nat) : Int) - 1) = (i : Int) := by rw [wrap_id (by omega) (by omega)]; omega
theorem mx_eq (a b : Int) : mx a b = max a b := by unfold mx; split <;> omega
theorem mn_eq (a b : Int) : mn a b = min a b := by unfold mn; split <;> omega
theorem rdOf_eq (l : List Bool) (i : Nat) : rdOf false l (i : Int) = l.getD i false := by unfold rdOf; simp
theorem bit_f (l : List Bool) (i : Nat) : flyballref01_bit.f l (i : Int) = some (l.getD i false) := by
  unfold flyballref01_bit.f
  rw [if_pos (by omega), rdOf_eq]
  by_cases h : (i : Int) < (l.length : Int)
  · rw [if_pos h, if_pos (by omega)]
  · rw [if_neg h, getD_beyond l i (by omega)]
def cmpN (a b : Nat) : Int := if a < b then -1 else if b < a then 1 else 0
theorem cmp_l0 (a b : List Bool) (M : Nat) : ∀ (i : Nat), i ≤ 1000 → num (a.drop i) = num (b.drop i) → flyballref01_Cmp.l0 (M + i + 1) a b ((i : Int) - 1) = some (cmpN (num (a.take i)) (num (b.take i)))
  | 0, _, h => by rw [flyballref01_Cmp.l0, if_neg (by omega)]; rfl
  | i + 1, hi, h => by
    rw [show M + (i + 1) + 1 = (M + i + 1) + 1 by omega, flyballref01_Cmp.l0, if_pos (by omega)]
    rw [show ((i + 1 : Nat) : Int) - 1 = (i : Int) by omega]
    simp only [bit_f, Option.bind_some]
    rw [num_take_succ, num_take_succ]
    have la := num_take_lt a i
    have lb := num_take_lt b i
    by_cases e : a.getD i false = b.getD i false
    · rw [e]
      rw [if_neg (by simp), wrap_id (by omega) (by omega), cmp_l0 a b M i (by omega) ?_]
      · unfold cmpN; simp only [Nat.add_lt_add_iff_right]
      · have da : num (a.drop i) = (a.getD i false).toNat + 2 * num (a.drop (i + 1)) := by
          rw [num_div, num_div, num_getD, Nat.pow_succ, ← Nat.div_div_eq_div_mul]; omega
        have db : num (b.drop i) = (b.getD i false).toNat + 2 * num (b.drop (i + 1)) := by
          rw [num_div, num_div, num_getD, Nat.pow_succ, ← Nat.div_div_eq_div_mul]; omega
        rw [da, db, e, h]
    · rw [if_pos (by simpa using e)]
      cases ha : a.getD i false <;> cases hb : b.getD i false <;> simp_all [cmpN] <;> omega
/-- How two compare. -/
theorem cmp_f (k : Nat) (a b : List Bool) (ha : a.length ≤ 1000) (hb : b.length ≤ 1000) (hk : 1002 ≤ k) : flyballref01_Cmp.f k a b = some (cmpN (num a) (num b)) := by
  unfold flyballref01_Cmp.f
  rw [mx_eq, wrap_id (by omega) (by omega)]
  obtain ⟨n, hn⟩ : ∃ n : Nat, n = max a.length b.length := ⟨_, rfl⟩
  rw [show max (a.length : Int) (b.length : Int) = (n : Int) by omega]
  obtain ⟨M, rfl⟩ : ∃ M, k = M + n + 1 := ⟨k - (n + 1), by omega⟩
  rw [cmp_l0 a b M n (by omega) (by rw [List.drop_eq_nil_of_le (by omega), List.drop_eq_nil_of_le (by omega)]), num_take_all a n (by omega), num_take_all b n (by omega)]
theorem shl_l0 (a : List Bool) (n : Nat) (hn : n ≤ 1000) (ha : a.length ≤ 1000) (M : Nat) : ∀ (d i : Nat), i + d = n → flyballref01_Shl.l0 (M + d + 1) a (n : Int) (List.replicate i false) (i : Int) = some (List.replicate n false ++ a)
  | 0, i, e => by
    obtain rfl : i = n := by omega
    rw [flyballref01_Shl.l0, if_neg (by omega), if_pos (by simp; omega)]
  | d + 1, i, e => by
    rw [show M + (d + 1) + 1 = (M + d + 1) + 1 by omega, flyballref01_Shl.l0, if_pos (by omega), if_pos (by simp; omega), wrap_succ i (by omega), ← List.replicate_succ']
    exact shl_l0 a n hn ha M d (i + 1) (by omega)
/-- So many noughts ahead. -/
theorem shl_f (k : Nat) (a : List Bool) (n : Nat) (hn : n ≤ 1000) (ha : a.length ≤ 1000) (hk : n + 1 ≤ k) : flyballref01_Shl.f k a (n : Int) = some (List.replicate n false ++ a) := by
  obtain ⟨M, rfl⟩ : ∃ M, k = M + n + 1 := ⟨k - (n + 1), by omega⟩
  exact shl_l0 a n hn ha M n 0 (by omega)
theorem num_shl (a : List Bool) (n : Nat) : num (List.replicate n false ++ a) = 2 ^ n * num a := by rw [num_append, num_replicate, List.length_replicate, Nat.zero_add]
theorem len_l0 (a : List Bool) (M : Nat) : ∀ (i : Nat), i ≤ a.length → i ≤ 1000 → num (a.drop i) = 0 → flyballref01_Len.l0 (M + i + 1) a (i : Int) = some ((bl (num a) : Nat) : Int)
  | 0, _, _, h => by
    rw [flyballref01_Len.l0, if_neg (by omega)]
    rw [show num a = 0 by simpa using h]; rfl
  | i + 1, hi, hj, h => by
    rw [show M + (i + 1) + 1 = (M + i + 1) + 1 by omega, flyballref01_Len.l0, if_pos (by omega), wrap_pred i (by omega), if_pos (by omega), if_pos (by omega), rdOf_eq]
    have sp := num_split a (i + 1)
    rw [h] at sp
    by_cases g : a.getD i false = true
    · rw [if_pos g, bl_eq (num a) (i + 1) (by have := num_take_lt a (i + 1); omega) (.inr (by simpa using num_take_getD a i g))]
    · rw [if_neg g]
      refine len_l0 a M i (by omega) (by omega) ?_
      have da : num (a.drop i) = (a.getD i false).toNat + 2 * num (a.drop (i + 1)) := by
        rw [num_div, num_div, num_getD, Nat.pow_succ, ← Nat.div_div_eq_div_mul]; omega
      simp at g
      rw [da, h]; simp [g]
/-- How long a number is. -/
theorem len_f (k : Nat) (a : List Bool) (ha : a.length ≤ 1000) (hk : 1001 ≤ k) : flyballref01_Len.f k a = some ((bl (num a) : Nat) : Int) := by
  obtain ⟨M, rfl⟩ : ∃ M, k = M + a.length + 1 := ⟨k - (a.length + 1), by omega⟩
  exact len_l0 a M a.length (Nat.le_refl _) ha (by simp [num])
end Go.Proofs.Ytdchdapllehppaa.Ev
end
section
set_option linter.unusedVariables false
set_option linter.unusedSimpArgs false
namespace Go.Proofs.Ytdchdapllehppaa.Ev
open Go.RowKit Go.Proofs.Ytdchdapllehppaa.PAll Go.Proofs.YtdchdapllehppaaW.PrintWords Go.Proofs.YtdchdapllehppaaW.PrintLast Go.Proofs.YtdchdapllehppaaW.PrintMore Go.Proofs.Ytdchdapllehppaa.Spec
theorem wrap_u64 (n : Int) : IntKind.u64.wrap n = n % 18446744073709551616 := by simp [IntKind.wrap, IntKind.bits, IntKind.signed]
theorem wrapN (n : Nat) : IntKind.u64.wrap (n : Int) = ((n % 18446744073709551616 : Nat) : Int) := by rw [wrap_u64]; omega
theorem wrapL (n : Nat) (h : n < 18446744073709551616) : IntKind.u64.wrap (n : Int) = (n : Int) := by rw [wrapN, Nat.mod_eq_of_lt h]
theorem shr_nat (x n : Nat) (h : n ≤ 64) : shr .u64 (x : Int) (n : Int) = ((x / 2 ^ n : Nat) : Int) := by
  unfold shr
  rw [show min (n : Int).toNat (IntKind.bits .u64) = n by simp [IntKind.bits]; omega]
  simp
theorem shl_nat (x n : Nat) (h : n ≤ 64) : shl .u64 (x : Int) (n : Int) = ((x * 2 ^ n % 18446744073709551616 : Nat) : Int) := by
  unfold shl
  rw [show min (n : Int).toNat (IntKind.bits .u64) = n by simp [IntKind.bits]; omega, ← wrapN]
  simp
theorem and_nat (a b : Nat) (ha : a < 18446744073709551616) (hb : b < 18446744073709551616) : Go.bits .and .u64 (a : Int) (b : Int) = ((a &&& b : Nat) : Int) :=
  (Go.bits_nat .u64 64 (by decide) (fun n h h' => by rw [wrap_u64]; omega) a b ha hb).1
theorem or_nat (a b : Nat) (ha : a < 18446744073709551616) (hb : b < 18446744073709551616) : Go.bits .or .u64 (a : Int) (b : Int) = ((a ||| b : Nat) : Int) :=
  (Go.bits_nat .u64 64 (by decide) (fun n h h' => by rw [wrap_u64]; omega) a b ha hb).2
theorem and_one (a : Nat) (ha : a < 18446744073709551616) : Go.bits .and .u64 (a : Int) 1 = ((a % 2 : Nat) : Int) := by
  have := and_nat a 1 ha (by omega)
  rw [Nat.and_one_is_mod] at this
  exact this
theorem or_plus (i q b : Nat) (hb : b < 2 ^ i) (h : 2 ^ i * q < 18446744073709551616) (hb' : b < 18446744073709551616) : Go.bits .or .u64 ((2 ^ i * q : Nat) : Int) (b : Int) = ((2 ^ i * q + b : Nat) : Int) := by
  rw [or_nat _ _ h hb', Nat.two_pow_add_eq_or_of_lt hb]
theorem or_plus' (i q b : Nat) (hb : b < 2 ^ i) (h : 2 ^ i * q < 18446744073709551616) (hb' : b < 18446744073709551616) : Go.bits .or .u64 (b : Int) ((2 ^ i * q : Nat) : Int) = ((2 ^ i * q + b : Nat) : Int) := by
  rw [or_nat _ _ hb' h, Nat.or_comm, Nat.two_pow_add_eq_or_of_lt hb]
theorem of_l1 (xs : List Int) (j : Nat) (hj : j < xs.length) (hx : xs.length ≤ 3) (x : Nat) (hxj : rd xs (j : Int) = (x : Int)) (hx64 : x < 18446744073709551616) (M : Nat) : ∀ (d i : Nat) (out : List Bool), i + d = 64 → out.length = 64 * j + i →
    ∃ t, flyballref01_Of.l1 (M + d + 1) xs out (j : Int) (i : Int) = flyballref01_Of.l0 M xs (out ++ t) ((j + 1 : Nat) : Int) ∧ t.length = d ∧ num t = x / 2 ^ i
  | 0, i, out, e, ho => by
    obtain rfl : i = 64 := by omega
    rw [flyballref01_Of.l1, if_neg (by omega), wrap_succ j (by omega)]
    exact ⟨[], by rw [List.append_nil], rfl, by rw [Nat.div_eq_of_lt (by omega)]; rfl⟩
  | d + 1, i, out, e, ho => by
    rw [show M + (d + 1) + 1 = (M + d + 1) + 1 by omega, flyballref01_Of.l1, if_pos (by omega), if_pos (by omega), if_pos (by omega), wrapL i (by omega), if_pos (by omega), if_pos (by omega), wrap_succ i (by omega), hxj, shr_nat x i (by omega), and_one _ (Nat.lt_of_le_of_lt (Nat.div_le_self _ _) hx64)]
    obtain ⟨t, h1, h2, h3⟩ := of_l1 xs j hj hx x hxj hx64 M d (i + 1) (out ++ [(((x / 2 ^ i % 2 : Nat) : Int) == 1)]) (by omega) (by simp; omega)
    refine ⟨(((x / 2 ^ i % 2 : Nat) : Int) == 1) :: t, by rw [h1]; simp, by simp [h2], ?_⟩
    rw [num, h3, Nat.pow_succ, ← Nat.div_div_eq_div_mul]
    have : ((((x / 2 ^ i % 2 : Nat) : Int) == 1)).toNat = x / 2 ^ i % 2 := by
      rcases Nat.mod_two_eq_zero_or_one (x / 2 ^ i) with h | h <;> rw [h] <;> rfl
    omega
theorem of_l0_end (xs : List Int) (out : List Bool) (M : Nat) : flyballref01_Of.l0 (M + 1) xs out (xs.length : Int) = some out := by rw [flyballref01_Of.l0, if_neg (by omega)]
theorem of_l0_step (xs : List Int) (j : Nat) (hj : j < xs.length) (hx : xs.length ≤ 3) (x : Nat) (hxj : rd xs (j : Int) = (x : Int)) (hx64 : x < 18446744073709551616) (M : Nat) (out : List Bool) (ho : out.length = 64 * j) :
    ∃ t, flyballref01_Of.l0 (M + 66) xs out (j : Int) = flyballref01_Of.l0 M xs (out ++ t) ((j + 1 : Nat) : Int) ∧ t.length = 64 ∧ num t = x := by
  obtain ⟨t, h1, h2, h3⟩ := of_l1 xs j hj hx x hxj hx64 M 64 0 out (by omega) (by omega)
  refine ⟨t, ?_, h2, by simpa using h3⟩
  rw [show M + 66 = (M + 64 + 1) + 1 by omega, flyballref01_Of.l0, if_pos (by omega)]
  exact h1
theorem of2_f (k : Nat) (a b : Nat) (ha : a < 18446744073709551616) (hb : b < 18446744073709551616) (hk : 300 ≤ k) : ∃ r, flyballref01_Of.f k ([(a : Int), (b : Int)] : List Int) = some r ∧ num r = b * 18446744073709551616 + a ∧ r.length = 128 := by
  obtain ⟨M, rfl⟩ : ∃ M, k = M + 1 + 66 + 66 := ⟨k - 133, by omega⟩
  unfold flyballref01_Of.f
  obtain ⟨t, h1, h2, h3⟩ := of_l0_step [(a : Int), (b : Int)] 0 (by simp) (by simp) a (by rfl) ha (M + 1 + 66) [] (by simp)
  obtain ⟨s, g1, g2, g3⟩ := of_l0_step [(a : Int), (b : Int)] 1 (by simp) (by simp) b (by rfl) hb (M + 1) ([] ++ t) (by simp [h2])
  rw [show ((0 : Int)) = ((0 : Nat) : Int) by rfl, h1, g1]
  refine ⟨t ++ s, of_l0_end [(a : Int), (b : Int)] _ M, ?_, by simp [h2, g2]⟩
  rw [num_append, h2, h3, g3]
  omega
theorem of3_f (k : Nat) (a b c : Nat) (ha : a < 18446744073709551616) (hb : b < 18446744073709551616) (hc : c < 18446744073709551616) (hk : 300 ≤ k) :
    ∃ r, flyballref01_Of.f k ([(a : Int), (b : Int), (c : Int)] : List Int) = some r ∧ num r = (c * 18446744073709551616 + b) * 18446744073709551616 + a ∧ r.length = 192 := by
  obtain ⟨M, rfl⟩ : ∃ M, k = M + 1 + 66 + 66 + 66 := ⟨k - 199, by omega⟩
  unfold flyballref01_Of.f
  obtain ⟨t, h1, h2, h3⟩ := of_l0_step [(a : Int), (b : Int), (c : Int)] 0 (by simp) (by simp) a (by rfl) ha (M + 1 + 66 + 66) [] (by simp)
  obtain ⟨s, g1, g2, g3⟩ := of_l0_step [(a : Int), (b : Int), (c : Int)] 1 (by simp) (by simp) b (by rfl) hb (M + 1 + 66) ([] ++ t) (by simp [h2])
  obtain ⟨u, e1, e2, e3⟩ := of_l0_step [(a : Int), (b : Int), (c : Int)] 2 (by simp) (by simp) c (by rfl) hc (M + 1) ([] ++ t ++ s) (by simp [h2, g2])
  rw [show ((0 : Int)) = ((0 : Nat) : Int) by rfl, h1, g1, e1]
  refine ⟨t ++ s ++ u, of_l0_end [(a : Int), (b : Int), (c : Int)] _ M, ?_, by simp [h2, g2, e2]⟩
  rw [num_append, num_append, List.length_append, h2, g2, h3, g3, e3]
  omega
end Go.Proofs.Ytdchdapllehppaa.Ev
end
section
set_option linter.unusedVariables false
set_option linter.unusedSimpArgs false
namespace Go.Proofs.Ytdchdapllehppaa.Ev
open Go.RowKit Go.Proofs.Ytdchdapllehppaa.PAll Go.Proofs.YtdchdapllehppaaW.PrintWords Go.Proofs.YtdchdapllehppaaW.PrintLast Go.Proofs.YtdchdapllehppaaW.PrintMore Go.Proofs.Ytdchdapllehppaa.Spec
theorem half (a : Nat) : (a : Int) / 4294967296 = ((a / 4294967296 : Nat) : Int) := by omega
end Go.Proofs.Ytdchdapllehppaa.Ev
end
section
set_option linter.unusedVariables false
set_option linter.unusedSimpArgs false
namespace Go.Proofs.Ytdchdapllehppaa.Ev
open Go.RowKit Go.Proofs.Ytdchdapllehppaa.PAll Go.Proofs.YtdchdapllehppaaW.PrintWords Go.Proofs.YtdchdapllehppaaW.PrintLast Go.Proofs.YtdchdapllehppaaW.PrintMore Go.Proofs.Ytdchdapllehppaa.Spec
/-- A digit of a quotient. -/
def dg (u w v1 v0 : Nat) : Nat := (u * 4294967296 + w) / (v1 * 4294967296 + v0)
theorem plain_lt (a b rh w u l : Nat) (h : a + rh = u) (g : rh * l + w < b) : u * l + w < a * l + b := by
  subst h
  rw [Nat.add_mul]
  omega
/-- A digit being guessed: d = v1 * 2^32 + v0 (its top bit is one), u < d, w a digit; q the guess, at least the quotient of u * 2^32 + w; rh = u - q * v1. -/
structure Guess (v1 v0 u w q rh : Nat) : Prop where
  v1b : 2147483648 ≤ v1
  v1t : v1 < 4294967296
  v0t : v0 < 4294967296
  wt : w < 4294967296
  ud : u < v1 * 4294967296 + v0
  eq : q * v1 + rh = u
  ge : dg u w v1 v0 ≤ q
theorem Guess.mulD (v1 v0 q : Nat) : q * (v1 * 4294967296 + v0) = q * v1 * 4294967296 + q * v0 := by rw [Nat.mul_add, Nat.mul_assoc]
/-- The guess is too great, seen at the second digit. -/
theorem Guess.over {v1 v0 u w q rh : Nat} (h : Guess v1 v0 u w q rh) (g : rh * 4294967296 + w < q * v0) : dg u w v1 v0 + 1 ≤ q := by
  have := h.v1b; have e := h.eq
  have : dg u w v1 v0 < q := by
    refine (Nat.div_lt_iff_lt_mul (k := v1 * 4294967296 + v0) (by omega)).2 ?_
    rw [Guess.mulD]
    exact plain_lt _ _ _ _ _ _ e g
  omega
/-- The guess is not too great. -/
theorem Guess.right {v1 v0 u w q rh : Nat} (h : Guess v1 v0 u w q rh) (g : q * v0 ≤ rh * 4294967296 + w) : dg u w v1 v0 = q := by
  have := h.v1b; have e := h.eq
  have g1 := h.ge
  have : q ≤ dg u w v1 v0 := by
    refine (Nat.le_div_iff_mul_le (k := v1 * 4294967296 + v0) (by omega)).2 ?_
    rw [Guess.mulD]
    omega
  omega
theorem Guess.first (v1 v0 u w : Nat) (b : 2147483648 ≤ v1) (t : v1 < 4294967296) (t0 : v0 < 4294967296) (tw : w < 4294967296) (ud : u < v1 * 4294967296 + v0) : Guess v1 v0 u w (u / v1) (u % v1) where
  v1b := b
  v1t := t
  v0t := t0
  wt := tw
  ud := ud
  eq := by rw [Nat.mul_comm]; exact Nat.div_add_mod u v1
  ge := by
    rw [Nat.le_div_iff_mul_le (by omega)]
    have h : dg u w v1 v0 * (v1 * 4294967296 + v0) ≤ u * 4294967296 + w := Nat.div_mul_le_self _ _
    rw [Guess.mulD] at h
    have : dg u w v1 v0 * v1 * 4294967296 < (u + 1) * 4294967296 := by omega
    have := Nat.lt_of_mul_lt_mul_right this
    omega
theorem Guess.u64 {v1 v0 u w q rh : Nat} (h : Guess v1 v0 u w q rh) : q < 18446744073709551616 ∧ u < 18446744073709551616 := by
  have := h.v1t; have := h.v0t; have := h.v1b; have := h.ud; have e := h.eq
  refine ⟨?_, by omega⟩
  have : q * 1 ≤ q * v1 := Nat.mul_le_mul_left q (by omega)
  omega
end Go.Proofs.Ytdchdapllehppaa.Ev
end
section
set_option linter.unusedVariables false
set_option linter.unusedSimpArgs false
namespace Go.Proofs.Ytdchdapllehppaa.Ev
open Go.RowKit Go.Proofs.Ytdchdapllehppaa.PAll Go.Proofs.YtdchdapllehppaaW.PrintWords Go.Proofs.YtdchdapllehppaaW.PrintLast Go.Proofs.YtdchdapllehppaaW.PrintMore Go.Proofs.Ytdchdapllehppaa.Spec
theorem pow_split (s : Nat) (hs : s ≤ 64) : 2 ^ s * 2 ^ (64 - s) = 18446744073709551616 := by rw [← Nat.pow_add, show s + (64 - s) = 64 by omega]
theorem shl_plain (hi lo p q b : Nat) (e : p * q = b) : (hi * p + lo / q) * b + lo * p % b = (hi * b + lo) * p := by
  have e2 : lo * p % b = lo % q * p := by rw [← e, Nat.mul_comm p q, Nat.mul_mod_mul_right]
  have e3 := Nat.div_add_mod lo q
  have e4 : lo / q * b = q * (lo / q) * p := by rw [← e, Nat.mul_comm p q, ← Nat.mul_assoc, Nat.mul_comm (lo / q) q]
  have e5 : lo * p = q * (lo / q) * p + lo % q * p := by rw [← Nat.add_mul, e3]
  have e6 : hi * p * b = hi * b * p := Nat.mul_right_comm _ _ _
  rw [e2, Nat.add_mul, e4, Nat.add_mul, e5, e6, Nat.add_assoc]
/-- Two words shifted up. -/
theorem shl_two (hi lo s : Nat) (hs : s ≤ 64) :
    (hi * 2 ^ s + lo / 2 ^ (64 - s)) * 18446744073709551616 + lo * 2 ^ s % 18446744073709551616 = (hi * 18446744073709551616 + lo) * 2 ^ s := shl_plain hi lo _ _ _ (pow_split s hs)
end Go.Proofs.Ytdchdapllehppaa.Ev
end
section
set_option linter.unusedVariables false
set_option linter.unusedSimpArgs false
namespace Go.Proofs.Ytdchdapllehppaa.Ev
open Go.RowKit Go.Proofs.Ytdchdapllehppaa.PAll Go.Proofs.YtdchdapllehppaaW.PrintWords Go.Proofs.YtdchdapllehppaaW.PrintLast Go.Proofs.YtdchdapllehppaaW.PrintMore Go.Proofs.Ytdchdapllehppaa.Spec
theorem beq0 (a : Nat) : ((a : Int) == 0) = decide (a = 0) := by
  by_cases h : a = 0
  · subst h; rfl
  · rw [decide_eq_false h]; simp; omega
theorem bne0 (a : Nat) : ((a : Int) != 0) = decide (a ≠ 0) := by
  unfold bne
  rw [beq0]
  by_cases h : a = 0 <;> simp [h]
theorem shr_plain (t c p q b : Nat) (e : p * q = b) (hp : 0 < p) (hq : 0 < q) (hc : c < b) : (t * b + c) / p = t / p * b + (t % p * q + c / p) ∧ t % p * q + c / p < b ∧ (t * b + c) % p = c % p := by
  have e1 := Nat.div_add_mod t p
  have h1 : t * b = p * (t * q) := by rw [← e, Nat.mul_left_comm]
  have h2 : t * q = t / p * b + t % p * q := by
    have : t * q = (p * (t / p) + t % p) * q := by rw [e1]
    rw [this, Nat.add_mul, ← e, Nat.mul_comm p (t / p), Nat.mul_assoc]
  refine ⟨?_, ?_, ?_⟩
  · rw [h1, Nat.mul_add_div hp, h2, Nat.add_assoc]
  · have h3 : c / p < q := by rw [Nat.div_lt_iff_lt_mul hp, Nat.mul_comm, e]; exact hc
    have h4 : (t % p + 1) * q ≤ p * q := Nat.mul_le_mul_right _ (Nat.mod_lt t hp)
    rw [Nat.add_mul, Nat.one_mul, e] at h4
    omega
  · rw [h1, Nat.mul_add_mod]
/-- A word's low part, shifted up, is the other half of a shift. -/
theorem low_up (x n : Nat) (hn : n ≤ 64) : x * 2 ^ (64 - n) % 18446744073709551616 = x % 2 ^ n * 2 ^ (64 - n) := by
  rw [← pow_split n hn, Nat.mul_mod_mul_right]
theorem lost_low (x n : Nat) (hn : n ≤ 64) (lost : Bool) : (if lost = true then true else (((x * 2 ^ (64 - n) % 18446744073709551616 : Nat) : Int) != 0)) = (lost || decide (x % 2 ^ n ≠ 0)) := by
  rw [low_up x n hn]
  have hq := Nat.two_pow_pos (64 - n)
  cases lost with
  | true => rfl
  | false =>
    rw [if_neg (by decide), Bool.false_or, bne0]
    by_cases h : x % 2 ^ n = 0
    · rw [h]; simp
    · have : x % 2 ^ n * 2 ^ (64 - n) ≠ 0 := Nat.mul_ne_zero h (by omega)
      rw [decide_eq_true this, decide_eq_true h]
theorem word_shr (hi lo n : Nat) (h0 : 0 < n) (hn : n < 64) (hl : lo < 18446744073709551616) :
    Go.bits .or .u64 (shr .u64 (lo : Int) (n : Int)) (shl .u64 (hi : Int) ((64 - n : Nat) : Int)) = ((hi % 2 ^ n * 2 ^ (64 - n) + lo / 2 ^ n : Nat) : Int) := by
  rw [shr_nat lo n (by omega), shl_nat hi (64 - n) (by omega), low_up hi n (by omega)]
  have ps := pow_split n (by omega)
  have hp := Nat.two_pow_pos n
  have hq := Nat.two_pow_pos (64 - n)
  obtain ⟨s1, s2, s3⟩ := shr_plain hi lo (2 ^ n) (2 ^ (64 - n)) _ ps hp hq hl
  have l1 : lo / 2 ^ n < 2 ^ (64 - n) := by rw [Nat.div_lt_iff_lt_mul hp, Nat.mul_comm, ps]; exact hl
  have hlo : lo / 2 ^ n ≤ lo := Nat.div_le_self _ _
  have hl0 : 0 ≤ lo / 2 ^ n := Nat.zero_le _
  rw [Nat.mul_comm (hi % 2 ^ n)] at s2 ⊢
  rw [or_plus' (64 - n) (hi % 2 ^ n) _ l1 (by omega) (by omega)]
theorem shr128_small (k a b n : Nat) (lost : Bool) (hn : n < 64) (ha : a < 18446744073709551616) (hb : b < 18446744073709551616) :
    ∃ r s : Nat, wide_U128_Shr.l0 (k + 1) (n : Int) lost (a : Int) (b : Int) = some ((r : Int), (s : Int), lost || decide ((a * 18446744073709551616 + b) % 2 ^ n ≠ 0)) ∧ r < 18446744073709551616 ∧ s < 18446744073709551616 ∧ r * 18446744073709551616 + s = (a * 18446744073709551616 + b) / 2 ^ n := by
  rw [wide_U128_Shr.l0, if_neg (by omega)]
  by_cases h : n = 0
  · subst h
    rw [if_pos (by omega)]
    exact ⟨a, b, by simp [Nat.mod_one], ha, hb, by simp⟩
  · have hp := Nat.two_pow_pos n
    have hq := Nat.two_pow_pos (64 - n)
    obtain ⟨s1, s2, s3⟩ := shr_plain a b (2 ^ n) (2 ^ (64 - n)) _ (pow_split n (by omega)) hp hq hb
    have ha2 : a / 2 ^ n ≤ a := Nat.div_le_self _ _
    rw [if_neg (by omega), if_pos (by omega), wrap_id (by omega) (by omega), if_pos (by omega), show (64 - (n : Int)) = ((64 - n : Nat) : Int) by omega, word_shr a b n (by omega) hn hb, shr_nat a n (by omega), shl_nat b (64 - n) (by omega)]
    refine ⟨a / 2 ^ n, a % 2 ^ n * 2 ^ (64 - n) + b / 2 ^ n, ?_, by omega, s2, s1.symm⟩
    rw [s3, ← lost_low b n (by omega) lost]
    cases lost <;> rfl
theorem pow_more (n : Nat) (h : 64 ≤ n) : 2 ^ n = 18446744073709551616 * 2 ^ (n - 64) := by
  rw [show (18446744073709551616 : Nat) = 2 ^ 64 by decide, ← Nat.pow_add, show 64 + (n - 64) = n by omega]
theorem shr_word (t c n : Nat) (h : 64 ≤ n) (hc : c < 18446744073709551616) (lost : Bool) : (t * 18446744073709551616 + c) / 2 ^ n = t / 2 ^ (n - 64) ∧ (lost || decide ((t * 18446744073709551616 + c) % 2 ^ n ≠ 0)) = ((lost || decide (c ≠ 0)) || decide (t % 2 ^ (n - 64) ≠ 0)) := by
  rw [pow_more n h, ← Nat.div_div_eq_div_mul, Nat.mod_mul]
  rw [show (t * 18446744073709551616 + c) / 18446744073709551616 = t by omega, show (t * 18446744073709551616 + c) % 18446744073709551616 = c by omega]
  refine ⟨rfl, ?_⟩
  rw [Bool.or_assoc]
  congr 1
  by_cases h1 : c = 0
  · subst h1
    by_cases h2 : t % 2 ^ (n - 64) = 0
    · simp [h2]
    · rw [decide_eq_true (p := t % 2 ^ (n - 64) ≠ 0) h2, decide_eq_true (by omega), Bool.or_true]
  · rw [decide_eq_true (by omega), decide_eq_true (p := c ≠ 0) h1, Bool.true_or]
theorem shr128_l0 (a b : Nat) (ha : a < 18446744073709551616) (hb : b < 18446744073709551616) (k n : Nat) (hn : n ≤ 9223372036854775807) (lost : Bool) :
    ∃ r s : Nat, wide_U128_Shr.l0 (k + 3) (n : Int) lost (a : Int) (b : Int) = some ((r : Int), (s : Int), lost || decide ((a * 18446744073709551616 + b) % 2 ^ n ≠ 0)) ∧ r < 18446744073709551616 ∧ s < 18446744073709551616 ∧ r * 18446744073709551616 + s = (a * 18446744073709551616 + b) / 2 ^ n := by
  by_cases h1 : n < 64
  · exact shr128_small (k + 2) a b n lost h1 ha hb
  · have ls : ∀ b : Nat, (if lost = true then true else ((b : Int) != 0)) = (lost || decide (b ≠ 0)) := fun b => by
      rw [bne0]; cases lost <;> simp
    obtain ⟨w1, w2⟩ := shr_word a b n (by omega) hb lost
    have step : wide_U128_Shr.l0 (k + 3) (n : Int) lost (a : Int) (b : Int) = if a = 0 then some (0, (a : Int), (lost || decide (b ≠ 0))) else wide_U128_Shr.l0 (k + 2) ((n - 64 : Nat) : Int) (lost || decide (b ≠ 0)) ((0 : Nat) : Int) (a : Int) := by
      rw [wide_U128_Shr.l0, if_pos (by omega), wrap_id (x := (n : Int) - 64) (by omega) (by omega), show ((n : Int) - 64) = ((n - 64 : Nat) : Int) by omega, beq0, ← ls b]
      by_cases g : a = 0
      · subst g; cases lost <;> simp
      · rw [if_neg g]; cases lost <;> simp [g]
    rw [step, w1, w2]
    by_cases g : a = 0
    · subst g
      rw [if_pos rfl]
      exact ⟨0, 0, by simp, by omega, by omega, by simp⟩
    · rw [if_neg g]
      by_cases h2 : n - 64 < 64
      · have := shr128_small (k + 1) 0 a (n - 64) (lost || decide (b ≠ 0)) h2 (by omega) ha
        rw [Nat.zero_mul, Nat.zero_add] at this
        exact this
      · have hl : a < 2 ^ (n - 64) := Nat.lt_of_lt_of_le ha (by rw [show (18446744073709551616 : Nat) = 2 ^ 64 by decide]; exact Nat.pow_le_pow_right (by omega) (by omega))
        rw [wide_U128_Shr.l0, if_pos (by omega)]
        refine ⟨0, 0, ?_, by omega, by omega, by rw [Nat.div_eq_of_lt hl]⟩
        rw [Nat.mod_eq_of_lt hl, decide_eq_true (p := a ≠ 0) g, Bool.or_true]
        have : ((a : Int) != 0) = true := by simp; omega
        rw [this]
        cases (lost || decide (b ≠ 0)) <;> simp
/-- A shift to the right, and whether something is lost. -/
theorem shr128_f (k a b : Nat) (n : Int) (ha : a < 18446744073709551616) (hb : b < 18446744073709551616) (hn : -9223372036854775808 ≤ n) (hn2 : n ≤ 9223372036854775807) (hk : 3 ≤ k) :
    ∃ r s : Nat, wide_U128_Shr.f k (a : Int) (b : Int) n = some ((r : Int), (s : Int), decide ((a * 18446744073709551616 + b) % 2 ^ n.toNat ≠ 0)) ∧ r < 18446744073709551616 ∧ s < 18446744073709551616 ∧ r * 18446744073709551616 + s = (a * 18446744073709551616 + b) / 2 ^ n.toNat := by
  unfold wide_U128_Shr.f
  obtain ⟨k, rfl⟩ : ∃ m, k = m + 3 := ⟨k - 3, by omega⟩
  by_cases h : 0 ≤ n
  · obtain ⟨m, rfl⟩ := Int.eq_ofNat_of_zero_le h
    have := shr128_l0 a b ha hb k m (by omega) false
    simpa using this
  · rw [show n.toNat = 0 by omega, wide_U128_Shr.l0, if_neg (by omega), if_pos (by omega)]
    exact ⟨a, b, by simp [Nat.mod_one], ha, hb, by simp⟩
theorem shr192_small (k a b c n : Nat) (lost : Bool) (hn : n < 64) (ha : a < 18446744073709551616) (hb : b < 18446744073709551616) (hc : c < 18446744073709551616) :
    ∃ r s t : Nat, wide_U192_Shr.l0 (k + 4) (n : Int) lost (a : Int) (b : Int) (c : Int) = some ((r : Int), (s : Int), (t : Int), lost || decide (((a * 18446744073709551616 + b) * 18446744073709551616 + c) % 2 ^ n ≠ 0)) ∧ r < 18446744073709551616 ∧ s < 18446744073709551616 ∧ t < 18446744073709551616 ∧
      (r * 18446744073709551616 + s) * 18446744073709551616 + t = ((a * 18446744073709551616 + b) * 18446744073709551616 + c) / 2 ^ n := by
  rw [wide_U192_Shr.l0, if_neg (by omega)]
  by_cases h : n = 0
  · subst h
    rw [if_pos (by omega)]
    exact ⟨a, b, c, by simp [Nat.mod_one], ha, hb, hc, by simp⟩
  · have hp := Nat.two_pow_pos n
    have hq := Nat.two_pow_pos (64 - n)
    have ps := pow_split n (by omega)
    obtain ⟨s1, s2, s3⟩ := shr_plain (a * 18446744073709551616 + b) c (2 ^ n) (2 ^ (64 - n)) _ ps hp hq hc
    obtain ⟨t1, t2, t3⟩ := shr_plain a b (2 ^ n) (2 ^ (64 - n)) _ ps hp hq hb
    obtain ⟨r, s, e1, e2, e3, e4⟩ := shr128_f (k + 3) a b (n : Int) ha hb (by omega) (by omega) (by omega)
    rw [t3] at s1 s2
    rw [if_neg (by omega)]
    unfold wide_U192_top.f
    rw [Option.bind_some]
    dsimp only
    rw [e1, Option.bind_some, if_pos (by omega), wrap_id (by omega) (by omega), if_pos (by omega), show (64 - (n : Int)) = ((64 - n : Nat) : Int) by omega, word_shr b c n (by omega) hn hc, shl_nat c (64 - n) (by omega)]
    refine ⟨r, s, b % 2 ^ n * 2 ^ (64 - n) + c / 2 ^ n, ?_, e2, e3, s2, ?_⟩
    · rw [s3, ← lost_low c n (by omega) lost]
      cases lost <;> rfl
    · rw [e4, s1]; rfl
theorem shr192_l0 (a b c : Nat) (ha : a < 18446744073709551616) (hb : b < 18446744073709551616) (hc : c < 18446744073709551616) (k n : Nat) (hn : n ≤ 9223372036854775807) (lost : Bool) :
    ∃ r s t : Nat, wide_U192_Shr.l0 (k + 7) (n : Int) lost (a : Int) (b : Int) (c : Int) = some ((r : Int), (s : Int), (t : Int), lost || decide (((a * 18446744073709551616 + b) * 18446744073709551616 + c) % 2 ^ n ≠ 0)) ∧ r < 18446744073709551616 ∧ s < 18446744073709551616 ∧ t < 18446744073709551616 ∧
      (r * 18446744073709551616 + s) * 18446744073709551616 + t = ((a * 18446744073709551616 + b) * 18446744073709551616 + c) / 2 ^ n := by
  have step : ∀ (k a b c n : Nat) (lost : Bool), 64 ≤ n → n ≤ 9223372036854775807 → wide_U192_Shr.l0 (k + 1) (n : Int) lost (a : Int) (b : Int) (c : Int) = if a = 0 ∧ b = 0 then some (((0 : Nat) : Int), (a : Int), (b : Int), (lost || decide (c ≠ 0))) else wide_U192_Shr.l0 k ((n - 64 : Nat) : Int) (lost || decide (c ≠ 0)) ((0 : Nat) : Int) (a : Int) (b : Int) := by
    intro k a b c n lost h64 hn
    have ls : (if lost = true then true else ((c : Int) != 0)) = (lost || decide (c ≠ 0)) := by
      rw [bne0]; cases lost <;> simp
    rw [wide_U192_Shr.l0, if_pos (by omega), wrap_id (x := (n : Int) - 64) (by omega) (by omega), show ((n : Int) - 64) = ((n - 64 : Nat) : Int) by omega, beq0, beq0, ← ls]
    by_cases g : a = 0 ∧ b = 0
    · obtain ⟨rfl, rfl⟩ := g; cases lost <;> simp
    · rw [if_neg g]; cases lost <;> simp [g]
  by_cases h1 : n < 64
  · exact shr192_small (k + 3) a b c n lost h1 ha hb hc
  · obtain ⟨w1, w2⟩ := shr_word (a * 18446744073709551616 + b) c n (by omega) hc lost
    rw [step (k + 6) a b c n lost (by omega) hn, w1, w2]
    by_cases g : a = 0 ∧ b = 0
    · obtain ⟨rfl, rfl⟩ := g
      rw [if_pos ⟨rfl, rfl⟩]
      exact ⟨0, 0, 0, by simp, by omega, by omega, by omega, by simp⟩
    · rw [if_neg g]
      by_cases h2 : n - 64 < 64
      · have := shr192_small (k + 2) 0 a b (n - 64) (lost || decide (c ≠ 0)) h2 (by omega) ha hb
        rw [Nat.zero_mul, Nat.zero_add] at this
        exact this
      · obtain ⟨x1, x2⟩ := shr_word a b (n - 64) (by omega) hb (lost || decide (c ≠ 0))
        rw [step (k + 5) 0 a b (n - 64) _ (by omega) (by omega), x1, x2]
        by_cases g2 : a = 0
        · subst g2
          rw [if_pos ⟨rfl, rfl⟩]
          exact ⟨0, 0, 0, by simp, by omega, by omega, by omega, by simp⟩
        · rw [if_neg (by omega)]
          by_cases h3 : n - 64 - 64 < 64
          · have := shr192_small (k + 1) 0 0 a (n - 64 - 64) ((lost || decide (c ≠ 0)) || decide (b ≠ 0)) h3 (by omega) (by omega) ha
            rw [Nat.zero_mul, Nat.zero_add] at this
            exact this
          · have hl : a < 2 ^ (n - 64 - 64) := Nat.lt_of_lt_of_le ha (by rw [show (18446744073709551616 : Nat) = 2 ^ 64 by decide]; exact Nat.pow_le_pow_right (by omega) (by omega))
            rw [step (k + 4) 0 0 a (n - 64 - 64) _ (by omega) (by omega), if_pos ⟨rfl, rfl⟩]
            refine ⟨0, 0, 0, ?_, by omega, by omega, by omega, by rw [Nat.div_eq_of_lt hl]⟩
            rw [Nat.mod_eq_of_lt hl]
/-- A shift to the right, and whether something is lost. -/
theorem shr192_f (k a b c : Nat) (n : Int) (ha : a < 18446744073709551616) (hb : b < 18446744073709551616) (hc : c < 18446744073709551616) (hn : -9223372036854775808 ≤ n) (hn2 : n ≤ 9223372036854775807) (hk : 7 ≤ k) :
    ∃ r s t : Nat, wide_U192_Shr.f k (a : Int) (b : Int) (c : Int) n = some ((r : Int), (s : Int), (t : Int), decide (((a * 18446744073709551616 + b) * 18446744073709551616 + c) % 2 ^ n.toNat ≠ 0)) ∧ r < 18446744073709551616 ∧ s < 18446744073709551616 ∧ t < 18446744073709551616 ∧
      (r * 18446744073709551616 + s) * 18446744073709551616 + t = ((a * 18446744073709551616 + b) * 18446744073709551616 + c) / 2 ^ n.toNat := by
  unfold wide_U192_Shr.f
  obtain ⟨k, rfl⟩ : ∃ m, k = m + 7 := ⟨k - 7, by omega⟩
  by_cases h : 0 ≤ n
  · obtain ⟨m, rfl⟩ := Int.eq_ofNat_of_zero_le h
    have := shr192_l0 a b c ha hb hc k m (by omega) false
    simpa using this
  · rw [show n.toNat = 0 by omega, wide_U192_Shr.l0, if_neg (by omega), if_pos (by omega)]
    exact ⟨a, b, c, by simp [Nat.mod_one], ha, hb, hc, by simp⟩
end Go.Proofs.Ytdchdapllehppaa.Ev
end
section
set_option linter.unusedVariables false
set_option linter.unusedSimpArgs false
namespace Go.Proofs.Ytdchdapllehppaa.Ev
open Go.RowKit Go.Proofs.Ytdchdapllehppaa.PAll Go.Proofs.YtdchdapllehppaaW.PrintWords Go.Proofs.YtdchdapllehppaaW.PrintLast Go.Proofs.YtdchdapllehppaaW.PrintMore Go.Proofs.Ytdchdapllehppaa.Spec
theorem mod_add_small (x y b : Nat) (h : x % b + y < b) : (x + y) % b = x % b + y := by rw [Nat.add_mod, Nat.mod_eq_of_lt (a := y) (by omega), Nat.mod_eq_of_lt h]
theorem over_plain (a b l : Nat) : (a * l + b) * l % (l * l) = b * l % (l * l) := by
  rw [Nat.add_mul, Nat.mul_assoc, Nat.mul_comm a, Nat.mul_add_mod]
theorem over_plain3 (a b c l : Nat) : ((a * l + b) * l + c) * l % (l * l * l) = (b * l + c) * l % (l * l * l) := by
  have e : ((a * l + b) * l + c) * l = (l * l * l) * a + (b * l + c) * l := by
    rw [Nat.add_mul (a * l) b, Nat.add_assoc, Nat.add_mul (a * l * l), Nat.mul_comm (l * l * l), ← Nat.mul_assoc, ← Nat.mul_assoc]
  rw [e, Nat.mul_add_mod]
/-- A word shifted up, and what comes in from the word below. -/
theorem word_shl (hi lo n : Nat) (h0 : 0 < n) (hn : n < 64) (hl : lo < 18446744073709551616) :
    Go.bits .or .u64 ((hi * 2 ^ n % 18446744073709551616 : Nat) : Int) (shr .u64 (lo : Int) ((64 - n : Nat) : Int)) = (((hi * 2 ^ n + lo / 2 ^ (64 - n)) % 18446744073709551616 : Nat) : Int) := by
  rw [shr_nat lo (64 - n) (by omega)]
  have ps := pow_split n (by omega)
  have hp := Nat.two_pow_pos n
  have hq := Nat.two_pow_pos (64 - n)
  have l1 : lo / 2 ^ (64 - n) < 2 ^ n := by rw [Nat.div_lt_iff_lt_mul hq, ps]; exact hl
  have up : hi * 2 ^ n % 18446744073709551616 = 2 ^ n * (hi % 2 ^ (64 - n)) := by rw [← ps, Nat.mul_comm (2 ^ n) (2 ^ (64 - n)), Nat.mul_mod_mul_right, Nat.mul_comm]
  have l2 : (hi % 2 ^ (64 - n) + 1) * 2 ^ n ≤ 2 ^ (64 - n) * 2 ^ n := Nat.mul_le_mul_right _ (Nat.mod_lt hi hq)
  rw [Nat.add_mul, Nat.one_mul, Nat.mul_comm (2 ^ (64 - n)), ps, Nat.mul_comm] at l2
  have hlo : lo / 2 ^ (64 - n) ≤ lo := Nat.div_le_self _ _
  have l3 : 0 ≤ lo / 2 ^ (64 - n) := Nat.zero_le _
  rw [mod_add_small (hi * 2 ^ n) _ _ (by rw [up]; omega), up, or_plus n (hi % 2 ^ (64 - n)) _ l1 (by omega) (by omega)]
theorem mod_mul_pow (x b m n : Nat) : x % b * 2 ^ n % b = x * 2 ^ n % b := by rw [Nat.mod_mul_mod]
theorem shl_join (t lo n : Nat) (hn : n ≤ 64) (b : Nat) : (t * 18446744073709551616 + lo) * 2 ^ n % (b * 18446744073709551616) = (t * 2 ^ n + lo / 2 ^ (64 - n)) % b * 18446744073709551616 + lo * 2 ^ n % 18446744073709551616 := by
  rw [← shl_two t lo n hn, Nat.mul_comm b, Nat.mod_mul, Nat.mul_comm _ 18446744073709551616, Nat.mul_add_div (by omega), Nat.div_eq_of_lt (Nat.mod_lt _ (by omega)), Nat.add_zero, Nat.mul_add_mod, Nat.mod_mod]
  omega
theorem shl128_small (k a b n : Nat) (hn : n < 64) (ha : a < 18446744073709551616) (hb : b < 18446744073709551616) :
    ∃ r s : Nat, wide_U128_Shl.l0 (k + 1) (n : Int) (a : Int) (b : Int) = some ((r : Int), (s : Int)) ∧ r < 18446744073709551616 ∧ s < 18446744073709551616 ∧ r * 18446744073709551616 + s = (a * 18446744073709551616 + b) * 2 ^ n % 340282366920938463463374607431768211456 := by
  rw [wide_U128_Shl.l0, if_neg (by omega)]
  by_cases h : n = 0
  · subst h
    rw [if_pos (by omega)]
    exact ⟨a, b, rfl, ha, hb, by omega⟩
  · rw [if_neg (by omega), if_pos (by omega), wrap_id (by omega) (by omega), if_pos (by omega), show (64 - (n : Int)) = ((64 - n : Nat) : Int) by omega, shl_nat a n (by omega), shl_nat b n (by omega), word_shl a b n (by omega) hn hb]
    refine ⟨_, _, rfl, Nat.mod_lt _ (by omega), Nat.mod_lt _ (by omega), ?_⟩
    exact (shl_join a b n (by omega) 18446744073709551616).symm
theorem shl_word (x n : Nat) (h : 64 ≤ n) : x * 2 ^ n = x * 18446744073709551616 * 2 ^ (n - 64) := by rw [pow_more n h, Nat.mul_assoc]
theorem shl128_l0 (k a b n : Nat) (hn : n ≤ 9223372036854775807) (ha : a < 18446744073709551616) (hb : b < 18446744073709551616) :
    ∃ r s : Nat, wide_U128_Shl.l0 (k + 3) (n : Int) (a : Int) (b : Int) = some ((r : Int), (s : Int)) ∧ r < 18446744073709551616 ∧ s < 18446744073709551616 ∧ r * 18446744073709551616 + s = (a * 18446744073709551616 + b) * 2 ^ n % 340282366920938463463374607431768211456 := by
  have step : ∀ (k a b n : Nat), 64 ≤ n → n ≤ 9223372036854775807 → wide_U128_Shl.l0 (k + 1) (n : Int) (a : Int) (b : Int) = if b = 0 then some (((0 : Nat) : Int), ((0 : Nat) : Int)) else wide_U128_Shl.l0 k ((n - 64 : Nat) : Int) (b : Int) ((0 : Nat) : Int) := by
    intro k a b n h64 hn
    rw [wide_U128_Shl.l0, if_pos (by omega), wrap_id (x := (n : Int) - 64) (by omega) (by omega), show ((n : Int) - 64) = ((n - 64 : Nat) : Int) by omega, beq0]
    by_cases g : b = 0
    · subst g; simp
    · rw [if_neg g]; simp [g]
  have over : ∀ a b n : Nat, 64 ≤ n → (a * 18446744073709551616 + b) * 2 ^ n % 340282366920938463463374607431768211456 = (b * 18446744073709551616 + 0) * 2 ^ (n - 64) % 340282366920938463463374607431768211456 := by
    intro a b n h
    rw [shl_word _ n h, ← mod_mul_pow ((a * 18446744073709551616 + b) * 18446744073709551616) _ 0, ← mod_mul_pow (b * 18446744073709551616 + 0) _ 0, show (340282366920938463463374607431768211456 : Nat) = 18446744073709551616 * 18446744073709551616 by decide, over_plain, Nat.add_zero]
  by_cases h1 : n < 64
  · exact shl128_small (k + 2) a b n h1 ha hb
  · rw [step (k + 2) a b n (by omega) hn, over a b n (by omega)]
    by_cases g : b = 0
    · subst g
      rw [if_pos rfl]
      exact ⟨0, 0, rfl, by omega, by omega, by simp⟩
    · rw [if_neg g]
      by_cases h2 : n - 64 < 64
      · exact shl128_small (k + 1) b 0 (n - 64) h2 hb (by omega)
      · rw [step (k + 1) b 0 (n - 64) (by omega) (by omega), over b 0 (n - 64) (by omega), if_pos rfl]
        exact ⟨0, 0, rfl, by omega, by omega, by simp⟩
/-- A shift to the left. -/
theorem shl128_f (k a b : Nat) (n : Int) (ha : a < 18446744073709551616) (hb : b < 18446744073709551616) (hn : -9223372036854775808 ≤ n) (hn2 : n ≤ 9223372036854775807) (hk : 3 ≤ k) :
    ∃ r s : Nat, wide_U128_Shl.f k (a : Int) (b : Int) n = some ((r : Int), (s : Int)) ∧ r < 18446744073709551616 ∧ s < 18446744073709551616 ∧ r * 18446744073709551616 + s = (a * 18446744073709551616 + b) * 2 ^ n.toNat % 340282366920938463463374607431768211456 := by
  unfold wide_U128_Shl.f
  obtain ⟨k, rfl⟩ : ∃ m, k = m + 3 := ⟨k - 3, by omega⟩
  by_cases h : 0 ≤ n
  · obtain ⟨m, rfl⟩ := Int.eq_ofNat_of_zero_le h
    exact shl128_l0 k a b m (by omega) ha hb
  · rw [show n.toNat = 0 by omega, wide_U128_Shl.l0, if_neg (by omega), if_pos (by omega)]
    exact ⟨a, b, rfl, ha, hb, by omega⟩
theorem shl192_small (k a b c n : Nat) (hn : n < 64) (ha : a < 18446744073709551616) (hb : b < 18446744073709551616) (hc : c < 18446744073709551616) :
    ∃ r s t : Nat, wide_U192_Shl.l0 (k + 4) (n : Int) (a : Int) (b : Int) (c : Int) = some ((r : Int), (s : Int), (t : Int)) ∧ r < 18446744073709551616 ∧ s < 18446744073709551616 ∧ t < 18446744073709551616 ∧
      (r * 18446744073709551616 + s) * 18446744073709551616 + t = ((a * 18446744073709551616 + b) * 18446744073709551616 + c) * 2 ^ n % 6277101735386680763835789423207666416102355444464034512896 := by
  rw [wide_U192_Shl.l0, if_neg (by omega)]
  by_cases h : n = 0
  · subst h
    rw [if_pos (by omega)]
    exact ⟨a, b, c, rfl, ha, hb, hc, by omega⟩
  · rw [if_neg (by omega)]
    unfold wide_U192_top.f
    rw [Option.bind_some]
    dsimp only
    have sm := shl128_small (k + 2) a b n hn ha hb
    have e0 : wide_U128_Shl.f (k + 3) (a : Int) (b : Int) (n : Int) = some ((((a * 2 ^ n + b / 2 ^ (64 - n)) % 18446744073709551616 : Nat) : Int), ((b * 2 ^ n % 18446744073709551616 : Nat) : Int)) := by
      unfold wide_U128_Shl.f
      rw [wide_U128_Shl.l0, if_neg (by omega), if_neg (by omega), if_pos (by omega), wrap_id (by omega) (by omega), if_pos (by omega), show (64 - (n : Int)) = ((64 - n : Nat) : Int) by omega, shl_nat a n (by omega), shl_nat b n (by omega), word_shl a b n (by omega) hn hb]
    rw [e0, Option.bind_some, wrap_id (by omega) (by omega), if_pos (by omega), if_pos (by omega), show (64 - (n : Int)) = ((64 - n : Nat) : Int) by omega]
    dsimp only
    rw [word_shl b c n (by omega) hn hc, shl_nat c n (by omega)]
    refine ⟨_, _, _, rfl, Nat.mod_lt _ (by omega), Nat.mod_lt _ (by omega), Nat.mod_lt _ (by omega), ?_⟩
    rw [show (6277101735386680763835789423207666416102355444464034512896 : Nat) = 340282366920938463463374607431768211456 * 18446744073709551616 by decide, shl_join (a * 18446744073709551616 + b) c n (by omega)]
    congr 2
    rw [← shl_two a b n (by omega)]
    generalize a * 2 ^ n + b / 2 ^ (64 - n) = x
    have up : b * 2 ^ n % 18446744073709551616 = 2 ^ n * (b % 2 ^ (64 - n)) := by rw [← pow_split n (by omega), Nat.mul_comm (2 ^ n) (2 ^ (64 - n)), Nat.mul_mod_mul_right, Nat.mul_comm]
    have ps := pow_split n (by omega)
    have hq := Nat.two_pow_pos (64 - n)
    have l1 : c / 2 ^ (64 - n) < 2 ^ n := by rw [Nat.div_lt_iff_lt_mul hq, ps]; exact hc
    have l2 : (b % 2 ^ (64 - n) + 1) * 2 ^ n ≤ 2 ^ (64 - n) * 2 ^ n := Nat.mul_le_mul_right _ (Nat.mod_lt b hq)
    rw [Nat.add_mul, Nat.one_mul, Nat.mul_comm (2 ^ (64 - n)), ps, Nat.mul_comm] at l2
    generalize c / 2 ^ (64 - n) = y at *
    have l4 : b * 2 ^ n % 18446744073709551616 + y < 18446744073709551616 := by omega
    generalize b * 2 ^ n = z at *
    omega
theorem shl192_l0 (k a b c n : Nat) (hn : n ≤ 9223372036854775807) (ha : a < 18446744073709551616) (hb : b < 18446744073709551616) (hc : c < 18446744073709551616) :
    ∃ r s t : Nat, wide_U192_Shl.l0 (k + 7) (n : Int) (a : Int) (b : Int) (c : Int) = some ((r : Int), (s : Int), (t : Int)) ∧ r < 18446744073709551616 ∧ s < 18446744073709551616 ∧ t < 18446744073709551616 ∧
      (r * 18446744073709551616 + s) * 18446744073709551616 + t = ((a * 18446744073709551616 + b) * 18446744073709551616 + c) * 2 ^ n % 6277101735386680763835789423207666416102355444464034512896 := by
  have step : ∀ (k a b c n : Nat), 64 ≤ n → n ≤ 9223372036854775807 → wide_U192_Shl.l0 (k + 1) (n : Int) (a : Int) (b : Int) (c : Int) = if b = 0 ∧ c = 0 then some (((0 : Nat) : Int), ((0 : Nat) : Int), ((0 : Nat) : Int)) else wide_U192_Shl.l0 k ((n - 64 : Nat) : Int) (b : Int) (c : Int) ((0 : Nat) : Int) := by
    intro k a b c n h64 hn
    rw [wide_U192_Shl.l0, if_pos (by omega), wrap_id (x := (n : Int) - 64) (by omega) (by omega), show ((n : Int) - 64) = ((n - 64 : Nat) : Int) by omega, beq0, beq0]
    by_cases g : b = 0 ∧ c = 0
    · obtain ⟨rfl, rfl⟩ := g; simp
    · rw [if_neg g]; simp [g]
  have over : ∀ a b c n : Nat, 64 ≤ n → ((a * 18446744073709551616 + b) * 18446744073709551616 + c) * 2 ^ n % 6277101735386680763835789423207666416102355444464034512896 = ((b * 18446744073709551616 + c) * 18446744073709551616 + 0) * 2 ^ (n - 64) % 6277101735386680763835789423207666416102355444464034512896 := by
    intro a b c n h
    rw [shl_word _ n h, ← mod_mul_pow (((a * 18446744073709551616 + b) * 18446744073709551616 + c) * 18446744073709551616) _ 0, ← mod_mul_pow ((b * 18446744073709551616 + c) * 18446744073709551616 + 0) _ 0, show (6277101735386680763835789423207666416102355444464034512896 : Nat) = 18446744073709551616 * 18446744073709551616 * 18446744073709551616 by decide, over_plain3, Nat.add_zero]
  by_cases h1 : n < 64
  · exact shl192_small (k + 3) a b c n h1 ha hb hc
  · rw [step (k + 6) a b c n (by omega) hn, over a b c n (by omega)]
    by_cases g : b = 0 ∧ c = 0
    · obtain ⟨rfl, rfl⟩ := g
      rw [if_pos ⟨rfl, rfl⟩]
      exact ⟨0, 0, 0, rfl, by omega, by omega, by omega, by simp⟩
    · rw [if_neg g]
      by_cases h2 : n - 64 < 64
      · exact shl192_small (k + 2) b c 0 (n - 64) h2 hb hc (by omega)
      · rw [step (k + 5) b c 0 (n - 64) (by omega) (by omega), over b c 0 (n - 64) (by omega)]
        by_cases g2 : c = 0
        · subst g2
          rw [if_pos ⟨rfl, rfl⟩]
          exact ⟨0, 0, 0, rfl, by omega, by omega, by omega, by simp⟩
        · rw [if_neg (by omega)]
          by_cases h3 : n - 64 - 64 < 64
          · exact shl192_small (k + 1) c 0 0 (n - 64 - 64) h3 hc (by omega) (by omega)
          · rw [step (k + 4) c 0 0 (n - 64 - 64) (by omega) (by omega), over c 0 0 (n - 64 - 64) (by omega), if_pos ⟨rfl, rfl⟩]
            exact ⟨0, 0, 0, rfl, by omega, by omega, by omega, by simp⟩
/-- A shift to the left. -/
theorem shl192_f (k a b c : Nat) (n : Int) (ha : a < 18446744073709551616) (hb : b < 18446744073709551616) (hc : c < 18446744073709551616) (hn : -9223372036854775808 ≤ n) (hn2 : n ≤ 9223372036854775807) (hk : 7 ≤ k) :
    ∃ r s t : Nat, wide_U192_Shl.f k (a : Int) (b : Int) (c : Int) n = some ((r : Int), (s : Int), (t : Int)) ∧ r < 18446744073709551616 ∧ s < 18446744073709551616 ∧ t < 18446744073709551616 ∧
      (r * 18446744073709551616 + s) * 18446744073709551616 + t = ((a * 18446744073709551616 + b) * 18446744073709551616 + c) * 2 ^ n.toNat % 6277101735386680763835789423207666416102355444464034512896 := by
  unfold wide_U192_Shl.f
  obtain ⟨k, rfl⟩ : ∃ m, k = m + 7 := ⟨k - 7, by omega⟩
  by_cases h : 0 ≤ n
  · obtain ⟨m, rfl⟩ := Int.eq_ofNat_of_zero_le h
    exact shl192_l0 k a b c m (by omega) ha hb hc
  · rw [show n.toNat = 0 by omega, wide_U192_Shl.l0, if_neg (by omega), if_pos (by omega)]
    exact ⟨a, b, c, rfl, ha, hb, hc, by omega⟩
end Go.Proofs.Ytdchdapllehppaa.Ev
end
section
set_option linter.unusedVariables false
set_option linter.unusedSimpArgs false
namespace Go.Proofs.Ytdchdapllehppaa.Ev
open Go.RowKit Go.Proofs.Ytdchdapllehppaa.PAll Go.Proofs.YtdchdapllehppaaW.PrintWords Go.Proofs.YtdchdapllehppaaW.PrintLast Go.Proofs.YtdchdapllehppaaW.PrintMore Go.Proofs.Ytdchdapllehppaa.Spec
theorem works_at : flyballlaw01_works.f 200 = some true := by kernel_rfl
theorem works_f (k : Nat) (hk : 200 ≤ k) : flyballlaw01_works.f k = some true := at_rounds flyballlaw01_works.mono hk works_at
theorem nat64 {x : Int} (h : (Lit.int .u64 x).wf = true) : ∃ n : Nat, x = (n : Int) ∧ n < 18446744073709551616 := by
  have : 0 ≤ x ∧ x < 18446744073709551616 := by
    have e := h
    simp [Lit.wf, Go.IntKind.min, Go.IntKind.max, Go.IntKind.signed, Go.IntKind.bits] at e
    omega
  exact ⟨x.toNat, by omega, by omega⟩
theorem cmpN_zero (a b : Nat) : (cmpN a b == 0) = decide (a = b) := by
  unfold cmpN
  by_cases h : a < b
  · rw [if_pos h, decide_eq_false (by omega)]; rfl
  · rw [if_neg h]
    by_cases g : b < a
    · rw [if_pos g, decide_eq_false (by omega)]; rfl
    · rw [if_neg g, decide_eq_true (by omega)]; rfl
theorem of_f (k a b : Nat) (ha : a < 18446744073709551616) (hb : b < 18446744073709551616) (hk : 300 ≤ k) : ∃ r, flyballlaw01_of.f k (a : Int) (b : Int) = some r ∧ num r = a * 18446744073709551616 + b ∧ r.length = 128 := by
  obtain ⟨r, h1, h2, h3⟩ := of2_f k b a hb ha hk
  unfold flyballlaw01_of.f
  rw [h1, Option.bind_some]
  exact ⟨r, rfl, h2, h3⟩
theorem of3w_f (k a b c : Nat) (ha : a < 18446744073709551616) (hb : b < 18446744073709551616) (hc : c < 18446744073709551616) (hk : 300 ≤ k) : ∃ r, flyballlaw01_of3.f k (a : Int) (b : Int) (c : Int) = some r ∧ num r = (a * 18446744073709551616 + b) * 18446744073709551616 + c ∧ r.length = 192 := by
  obtain ⟨r, h1, h2, h3⟩ := of3_f k c b a hc hb ha hk
  unfold flyballlaw01_of3.f
  rw [h1, Option.bind_some]
  exact ⟨r, rfl, h2, h3⟩
theorem is_f (k a b : Nat) (l : List Bool) (ha : a < 18446744073709551616) (hb : b < 18446744073709551616) (hl : l.length ≤ 1000) (hk : 1002 ≤ k) : flyballlaw01_is.f k (a : Int) (b : Int) l = some (decide (a * 18446744073709551616 + b = num l)) := by
  obtain ⟨r, h1, h2, h3⟩ := of_f k a b ha hb (by omega)
  unfold flyballlaw01_is.f
  rw [h1, Option.bind_some, cmp_f k r l (by omega) hl hk, Option.bind_some, cmpN_zero, h2]
theorem is3_f (k a b c : Nat) (l : List Bool) (ha : a < 18446744073709551616) (hb : b < 18446744073709551616) (hc : c < 18446744073709551616) (hl : l.length ≤ 1000) (hk : 1002 ≤ k) : flyballlaw01_is3.f k (a : Int) (b : Int) (c : Int) l = some (decide ((a * 18446744073709551616 + b) * 18446744073709551616 + c = num l)) := by
  obtain ⟨r, h1, h2, h3⟩ := of3w_f k a b c ha hb hc (by omega)
  unfold flyballlaw01_is3.f
  rw [h1, Option.bind_some, cmp_f k r l (by omega) hl hk, Option.bind_some, cmpN_zero, h2]
end Go.Proofs.Ytdchdapllehppaa.Ev
end
section
set_option linter.unusedVariables false
set_option linter.unusedSimpArgs false
namespace Go.Proofs.Ytdchdapllehppaa.Pure
open Go.RowKit Go.Proofs.Ytdchdapllehppaa.PAll Go.Proofs.YtdchdapllehppaaW.PrintWords Go.Proofs.YtdchdapllehppaaW.PrintLast Go.Proofs.YtdchdapllehppaaW.PrintMore Go.Proofs.Ytdchdapllehppaa.Spec Go.Proofs.Ytdchdapllehppaa.Ev
theorem nat_i64' {x : Int} (h : (Lit.int .i64 x).wf = true) : -9223372036854775808 ≤ x ∧ x ≤ 9223372036854775807 := by
  have e := h
  simp [Lit.wf, Go.IntKind.min, Go.IntKind.max, Go.IntKind.signed, Go.IntKind.bits] at e
  omega
theorem kk_eq (n : Int) (len : Nat) : mn (mx n 0) (len : Int) = ((min n.toNat len : Nat) : Int) := by
  rw [mn_eq, mx_eq]; omega
theorem drop_num (l : List Bool) (n : Nat) : num (l.drop (min n l.length)) = num l / 2 ^ n := by
  rw [← num_div]
  by_cases h : n ≤ l.length
  · rw [Nat.min_eq_left h]
  · rw [Nat.min_eq_right (by omega), List.drop_length, List.drop_eq_nil_of_le (by omega)]
theorem take_num (l : List Bool) (n : Nat) : num (l.take (min n l.length)) = num l % 2 ^ n := by
  rw [← num_mod]
  by_cases h : n ≤ l.length
  · rw [Nat.min_eq_left h]
  · rw [Nat.min_eq_right (by omega), List.take_length, List.take_of_length_le (by omega)]
theorem bl_decide (x : Nat) : decide (((bl x : Nat) : Int) > 0) = decide (x ≠ 0) := by
  by_cases h : x = 0
  · subst h; rfl
  · have := bl_pos x (by omega)
    rw [decide_eq_true (p := x ≠ 0) h, decide_eq_true (by omega)]
/-- The document's shift to the right. -/
theorem shrD_f (k : Nat) (l : List Bool) (n : Int) (hl : l.length ≤ 1000) (hk : 1001 ≤ k) : ∃ r, flyballlaw01_shr.f k l n = some (r, decide (num l % 2 ^ n.toNat ≠ 0)) ∧ num r = num l / 2 ^ n.toNat ∧ r.length ≤ l.length := by
  refine ⟨l.drop (min n.toNat l.length), ?_, drop_num l n.toNat, by simp⟩
  unfold flyballlaw01_shr.f
  rw [kk_eq, if_pos (by omega), if_pos (by omega), Option.bind_some, Int.toNat_natCast, len_f k _ (by rw [List.length_take]; omega) hk, Option.bind_some, bl_decide, take_num]
theorem shl_num (l : List Bool) (n : Nat) : num (List.replicate (min n l.length) false ++ l.take (l.length - min n l.length)) = num l * 2 ^ n % 2 ^ l.length := by
  rw [num_shl, num_mod]
  by_cases h : n ≤ l.length
  · rw [Nat.min_eq_left h, ← Nat.mul_mod_mul_left, ← Nat.pow_add, show n + (l.length - n) = l.length by omega, Nat.mul_comm]
  · rw [Nat.min_eq_right (by omega), Nat.sub_self, Nat.pow_zero, Nat.mod_one, Nat.mul_zero]
    have : num l * 2 ^ n = 2 ^ l.length * (num l * 2 ^ (n - l.length)) := by rw [Nat.mul_left_comm, ← Nat.pow_add, show l.length + (n - l.length) = n by omega]
    rw [this, Nat.mul_mod_right]
/-- The document's shift to the left. -/
theorem shlD_f (k : Nat) (l : List Bool) (n : Int) (hl : l.length ≤ 1000) (hk : 1001 ≤ k) : ∃ r, flyballlaw01_shl.f k l n = some r ∧ num r = num l * 2 ^ n.toNat % 2 ^ l.length ∧ r.length ≤ l.length := by
  refine ⟨List.replicate (min n.toNat l.length) false ++ l.take (l.length - min n.toNat l.length), ?_, shl_num l n.toNat, by simp; omega⟩
  unfold flyballlaw01_shl.f
  rw [kk_eq, wrap_id (by omega) (by omega), show ((l.length : Int) - ((min n.toNat l.length : Nat) : Int)) = ((l.length - min n.toNat l.length : Nat) : Int) by omega, if_pos (by omega), if_pos (by omega), Int.toNat_natCast, shl_f k _ _ (by omega) (by rw [List.length_take]; omega) (by omega), Option.bind_some]
theorem p128 : (2 : Nat) ^ 128 = 340282366920938463463374607431768211456 := by decide
theorem p192 : (2 : Nat) ^ 192 = 6277101735386680763835789423207666416102355444464034512896 := by decide
theorem WideShifts (a0_0 a0_1 a1_0 a1_1 a1_2 a2 : Int) (w0 : (Lit.int .u64 a0_0).wf = true) (w1 : (Lit.int .u64 a0_1).wf = true) (w2 : (Lit.int .u64 a1_0).wf = true) (w3 : (Lit.int .u64 a1_1).wf = true) (w4 : (Lit.int .u64 a1_2).wf = true) (w5 : (Lit.int .i64 a2).wf = true) : ∃ k, flyballlaw01_WideShifts.f k a0_0 a0_1 a1_0 a1_1 a1_2 a2 = some true := by
  obtain ⟨a, rfl, ha⟩ := nat64 w0
  obtain ⟨b, rfl, hb⟩ := nat64 w1
  obtain ⟨c, rfl, hc⟩ := nat64 w2
  obtain ⟨d, rfl, hd⟩ := nat64 w3
  obtain ⟨e, rfl, he⟩ := nat64 w4
  obtain ⟨n1, n2⟩ := nat_i64' w5
  refine ⟨5000, ?_⟩
  obtain ⟨r0, r1, r2, r3, r4, r5⟩ := shr128_f 5000 a b a2 ha hb n1 n2 (by omega)
  obtain ⟨s0, s1, s2, s3, s4, s5, s6, s7⟩ := shr192_f 5000 c d e a2 hc hd he n1 n2 (by omega)
  obtain ⟨t0, t1, t2, t3, t4, t5⟩ := shl128_f 5000 a b a2 ha hb n1 n2 (by omega)
  obtain ⟨u0, u1, u2, u3, u4, u5, u6, u7⟩ := shl192_f 5000 c d e a2 hc hd he n1 n2 (by omega)
  obtain ⟨x, x1, x2, x3⟩ := of_f 5000 a b ha hb (by omega)
  obtain ⟨y, y1, y2, y3⟩ := of3w_f 5000 c d e hc hd he (by omega)
  obtain ⟨p, p1, p2, p3⟩ := shrD_f 5000 x a2 (by omega) (by omega)
  obtain ⟨q, q1, q2, q3⟩ := shrD_f 5000 y a2 (by omega) (by omega)
  obtain ⟨v, v1, v2, v3⟩ := shlD_f 5000 x a2 (by omega) (by omega)
  obtain ⟨w, g1, g2, g3⟩ := shlD_f 5000 y a2 (by omega) (by omega)
  have i1 := is_f 5000 r0 r1 p r3 r4 (by omega) (by omega)
  have i2 := is3_f 5000 s0 s1 s2 q s4 s5 s6 (by omega) (by omega)
  have i3 := is_f 5000 t0 t1 v t3 t4 (by omega) (by omega)
  have i4 := is3_f 5000 u0 u1 u2 w u4 u5 u6 (by omega) (by omega)
  rw [p2, x2, ← r5, decide_eq_true rfl] at i1
  rw [q2, y2, ← s7, decide_eq_true rfl] at i2
  rw [v2, x2, x3, p128, ← t5, decide_eq_true rfl] at i3
  rw [g2, y2, y3, p192, ← u7, decide_eq_true rfl] at i4
  rw [x2] at p1
  rw [y2] at q1
  unfold flyballlaw01_WideShifts.f
  rw [works_f _ (by omega), Option.bind_some, if_pos rfl, r2, Option.bind_some, s3, Option.bind_some, x1, Option.bind_some, p1, Option.bind_some, y1, Option.bind_some, q1, Option.bind_some]
  dsimp only
  rw [i1, Option.bind_some, i2, Option.bind_some, t2, Option.bind_some, Option.bind_some, v1, Option.bind_some]
  dsimp only
  rw [i3, Option.bind_some, u3, Option.bind_some, Option.bind_some, g1, Option.bind_some]
  dsimp only
  rw [i4, Option.bind_some, if_pos rfl, if_pos rfl, if_pos rfl, if_pos rfl, if_pos (by simp)]
  simp
end Go.Proofs.Ytdchdapllehppaa.Pure
end
section
set_option linter.unusedVariables false
set_option linter.unusedSimpArgs false
namespace Go.Proofs.YtdchdapllehppaaAid
open Go.Deep Go.Joins Go.ChangeShapes Go.WideShapes Go.RowKit
section
variable {H : Type} {enc : TypeId × Value → H} {P : Program} {w : World} {base : Nat} {spare : Nat → Bool} {held : Bool}
theorem trod_uu {t : TypeId} {f0 f1 : Field} {n : Nat} {cs : List Value} {y : DataW H × List MemPlace} (hs : P.underlying t = some (.struct #[f0, f1])) (hone : oneCellFields P #[f0, f1] = true)
    (h0 : P.underlying f0.type = some (.int .u64)) (h1 : P.underlying f1.type = some (.int .u64)) (hl : cs.length = 2) (h : DataW.trod enc P w base spare held n t cs = some y) :
    ∃ (x0 x1 : Int), cs = [.int .u64 x0, .int .u64 x1] ∧ y = (.agg [.lit (.int .u64 x0), .lit (.int .u64 x1)], []) ∧ (Lit.int .u64 x0).wf = true ∧ (Lit.int .u64 x1).wf = true := by
  obtain ⟨xs, m, _, hx, _, hlen, hg⟩ := DataW.trod_struct hs h
  obtain ⟨o0, k0⟩ := hone_of hone 0 f0 rfl
  obtain ⟨o1, k1⟩ := hone_of hone 1 f1 rfl
  match cs, hl with
  | [c0, c1], _ =>
    match xs, hlen with
    | [y0, y1], _ =>
      have g0 : DataW.trod enc P w base spare held m f0.type [c0] = some y0 := by simpa [o0, k0] using hg 0 f0 rfl
      have g1 : DataW.trod enc P w base spare held m f1.type [c1] = some y1 := by simpa [o1, k1] using hg 1 f1 rfl
      obtain ⟨x0, e0, rfl, w0⟩ := DataW.trod_int h0 g0
      obtain ⟨x1, e1, rfl, w1⟩ := DataW.trod_int h1 g1
      simp only [List.cons.injEq, and_true] at e0 e1
      subst e0 e1
      exact ⟨x0, x1, rfl, by simpa using hx, w0, w1⟩
theorem trod_uu_mk {t : TypeId} {f0 f1 : Field} {x0 x1 : Int} (hs : P.underlying t = some (.struct #[f0, f1])) (hone : oneCellFields P #[f0, f1] = true) (hC : P.cellsOf t = 2)
    (h0 : P.underlying f0.type = some (.int .u64)) (h1 : P.underlying f1.type = some (.int .u64)) (w0 : (Lit.int .u64 x0).wf = true) (w1 : (Lit.int .u64 x1).wf = true) :
    DataW.trod enc P w base spare held 2 t [.int .u64 x0, .int .u64 x1] = some (.agg [.lit (.int .u64 x0), .lit (.int .u64 x1)], []) := by
  obtain ⟨o0, k0⟩ := hone_of hone 0 f0 rfl
  obtain ⟨o1, k1⟩ := hone_of hone 1 f1 rfl
  have := trod_struct2_mk (enc := enc) (w := w) (base := base) (spare := spare) (held := held) (n := 1) (cs := [.int .u64 x0, .int .u64 x1]) hs (by simp [hC])
    (by simpa [o0, k0] using trod_int_mk (enc := enc) (w := w) (base := base) (spare := spare) (held := held) 0 h0 w0) (by simpa [o1, k1] using trod_int_mk (enc := enc) (w := w) (base := base) (spare := spare) (held := held) 0 h1 w1)
  simpa using this
theorem open_uu {r : Reach} {b0 : Nat} {t : TypeId} {f0 f1 : Field} {v : Value} {d : DataW H} {p : List MemPlace} (hs : P.underlying t = some (.struct #[f0, f1])) (hone : oneCellFields P #[f0, f1] = true) (hC : P.cellsOf t = 2)
    (h0 : P.underlying f0.type = some (.int .u64)) (h1 : P.underlying f1.type = some (.int .u64))
    (hv : Value.okWide P w r b0 t v) (h : DataW.Trod enc P w base spare held t v d p) :
    ∃ (x0 x1 : Int), v = .agg #[.int .u64 x0, .int .u64 x1] ∧ d = .agg [.lit (.int .u64 x0), .lit (.int .u64 x1)] ∧ p = [] ∧ (Lit.int .u64 x0).wf = true ∧ (Lit.int .u64 x1).wf = true := by
  obtain ⟨cs, rfl, hsz⟩ := okWide_struct hs hv
  obtain ⟨l⟩ := cs
  obtain ⟨fuel, hf⟩ := h
  obtain ⟨x0, x1, e, ey, w0, w1⟩ := trod_uu hs hone h0 h1 (hsz.trans hC) hf
  simp only [Prod.mk.injEq] at ey
  have e' : l = [.int .u64 x0, .int .u64 x1] := by simpa [Value.cells] using e
  subst e'
  exact ⟨x0, x1, rfl, ey.1, ey.2, w0, w1⟩
theorem shut_uu {t : TypeId} {f0 f1 : Field} {x0 x1 : Int} (hs : P.underlying t = some (.struct #[f0, f1])) (hone : oneCellFields P #[f0, f1] = true) (hC : P.cellsOf t = 2)
    (h0 : P.underlying f0.type = some (.int .u64)) (h1 : P.underlying f1.type = some (.int .u64)) (w0 : (Lit.int .u64 x0).wf = true) (w1 : (Lit.int .u64 x1).wf = true) :
    DataW.Trod enc P w base spare held t (.agg #[.int .u64 x0, .int .u64 x1]) (.agg [.lit (.int .u64 x0), .lit (.int .u64 x1)]) [] :=
  ⟨2, by simpa [Value.cells] using trod_uu_mk (enc := enc) (w := w) (base := base) (spare := spare) (held := held) hs hone hC h0 h1 w0 w1⟩
theorem trod_uuu {t : TypeId} {f0 f1 f2 : Field} {n : Nat} {cs : List Value} {y : DataW H × List MemPlace} (hs : P.underlying t = some (.struct #[f0, f1, f2])) (hone : oneCellFields P #[f0, f1, f2] = true)
    (h0 : P.underlying f0.type = some (.int .u64)) (h1 : P.underlying f1.type = some (.int .u64)) (h2 : P.underlying f2.type = some (.int .u64)) (hl : cs.length = 3) (h : DataW.trod enc P w base spare held n t cs = some y) :
    ∃ (x0 x1 x2 : Int), cs = [.int .u64 x0, .int .u64 x1, .int .u64 x2] ∧ y = (.agg [.lit (.int .u64 x0), .lit (.int .u64 x1), .lit (.int .u64 x2)], []) ∧ (Lit.int .u64 x0).wf = true ∧ (Lit.int .u64 x1).wf = true ∧ (Lit.int .u64 x2).wf = true := by
  obtain ⟨xs, m, _, hx, _, hlen, hg⟩ := DataW.trod_struct hs h
  obtain ⟨o0, k0⟩ := hone_of hone 0 f0 rfl
  obtain ⟨o1, k1⟩ := hone_of hone 1 f1 rfl
  obtain ⟨o2, k2⟩ := hone_of hone 2 f2 rfl
  match cs, hl with
  | [c0, c1, c2], _ =>
    match xs, hlen with
    | [y0, y1, y2], _ =>
      have g0 : DataW.trod enc P w base spare held m f0.type [c0] = some y0 := by simpa [o0, k0] using hg 0 f0 rfl
      have g1 : DataW.trod enc P w base spare held m f1.type [c1] = some y1 := by simpa [o1, k1] using hg 1 f1 rfl
      have g2 : DataW.trod enc P w base spare held m f2.type [c2] = some y2 := by simpa [o2, k2] using hg 2 f2 rfl
      obtain ⟨x0, e0, rfl, w0⟩ := DataW.trod_int h0 g0
      obtain ⟨x1, e1, rfl, w1⟩ := DataW.trod_int h1 g1
      obtain ⟨x2, e2, rfl, w2⟩ := DataW.trod_int h2 g2
      simp only [List.cons.injEq, and_true] at e0 e1 e2
      subst e0 e1 e2
      exact ⟨x0, x1, x2, rfl, by simpa using hx, w0, w1, w2⟩
theorem trod_uuu_mk {t : TypeId} {f0 f1 f2 : Field} {x0 x1 x2 : Int} (hs : P.underlying t = some (.struct #[f0, f1, f2])) (hone : oneCellFields P #[f0, f1, f2] = true) (hC : P.cellsOf t = 3)
    (h0 : P.underlying f0.type = some (.int .u64)) (h1 : P.underlying f1.type = some (.int .u64)) (h2 : P.underlying f2.type = some (.int .u64)) (w0 : (Lit.int .u64 x0).wf = true) (w1 : (Lit.int .u64 x1).wf = true) (w2 : (Lit.int .u64 x2).wf = true) :
    DataW.trod enc P w base spare held 2 t [.int .u64 x0, .int .u64 x1, .int .u64 x2] = some (.agg [.lit (.int .u64 x0), .lit (.int .u64 x1), .lit (.int .u64 x2)], []) := by
  obtain ⟨o0, k0⟩ := hone_of hone 0 f0 rfl
  obtain ⟨o1, k1⟩ := hone_of hone 1 f1 rfl
  obtain ⟨o2, k2⟩ := hone_of hone 2 f2 rfl
  have := trod_struct3_mk (enc := enc) (w := w) (base := base) (spare := spare) (held := held) (n := 1) (cs := [.int .u64 x0, .int .u64 x1, .int .u64 x2]) hs (by simp [hC])
    (by simpa [o0, k0] using trod_int_mk (enc := enc) (w := w) (base := base) (spare := spare) (held := held) 0 h0 w0) (by simpa [o1, k1] using trod_int_mk (enc := enc) (w := w) (base := base) (spare := spare) (held := held) 0 h1 w1) (by simpa [o2, k2] using trod_int_mk (enc := enc) (w := w) (base := base) (spare := spare) (held := held) 0 h2 w2)
  simpa using this
theorem open_uuu {r : Reach} {b0 : Nat} {t : TypeId} {f0 f1 f2 : Field} {v : Value} {d : DataW H} {p : List MemPlace} (hs : P.underlying t = some (.struct #[f0, f1, f2])) (hone : oneCellFields P #[f0, f1, f2] = true) (hC : P.cellsOf t = 3)
    (h0 : P.underlying f0.type = some (.int .u64)) (h1 : P.underlying f1.type = some (.int .u64)) (h2 : P.underlying f2.type = some (.int .u64))
    (hv : Value.okWide P w r b0 t v) (h : DataW.Trod enc P w base spare held t v d p) :
    ∃ (x0 x1 x2 : Int), v = .agg #[.int .u64 x0, .int .u64 x1, .int .u64 x2] ∧ d = .agg [.lit (.int .u64 x0), .lit (.int .u64 x1), .lit (.int .u64 x2)] ∧ p = [] ∧ (Lit.int .u64 x0).wf = true ∧ (Lit.int .u64 x1).wf = true ∧ (Lit.int .u64 x2).wf = true := by
  obtain ⟨cs, rfl, hsz⟩ := okWide_struct hs hv
  obtain ⟨l⟩ := cs
  obtain ⟨fuel, hf⟩ := h
  obtain ⟨x0, x1, x2, e, ey, w0, w1, w2⟩ := trod_uuu hs hone h0 h1 h2 (hsz.trans hC) hf
  simp only [Prod.mk.injEq] at ey
  have e' : l = [.int .u64 x0, .int .u64 x1, .int .u64 x2] := by simpa [Value.cells] using e
  subst e'
  exact ⟨x0, x1, x2, rfl, ey.1, ey.2, w0, w1, w2⟩
theorem shut_uuu {t : TypeId} {f0 f1 f2 : Field} {x0 x1 x2 : Int} (hs : P.underlying t = some (.struct #[f0, f1, f2])) (hone : oneCellFields P #[f0, f1, f2] = true) (hC : P.cellsOf t = 3)
    (h0 : P.underlying f0.type = some (.int .u64)) (h1 : P.underlying f1.type = some (.int .u64)) (h2 : P.underlying f2.type = some (.int .u64)) (w0 : (Lit.int .u64 x0).wf = true) (w1 : (Lit.int .u64 x1).wf = true) (w2 : (Lit.int .u64 x2).wf = true) :
    DataW.Trod enc P w base spare held t (.agg #[.int .u64 x0, .int .u64 x1, .int .u64 x2]) (.agg [.lit (.int .u64 x0), .lit (.int .u64 x1), .lit (.int .u64 x2)]) [] :=
  ⟨2, by simpa [Value.cells] using trod_uuu_mk (enc := enc) (w := w) (base := base) (spare := spare) (held := held) hs hone hC h0 h1 h2 w0 w1 w2⟩
end
end Go.Proofs.YtdchdapllehppaaAid
end
