/- What the claim needs of several texts, in one. -/
import Derived.Laws.BitsLemmas
import Derived.KernelRfl
import Derived.WalkKit
import Derived.ProofKit
import Derived.OpenShut
import Derived.ShutString
import Derived.ChangeOld
import Derived.Below
import Derived.SizedLaws
import Derived.Lib.SmallJoins
import Derived.Test.YtdchdapllehppaaZVW
import Derived.Test.YtdchdapllehppaaZVx0
import Derived.Test.YtdchdapllehppaaZVx3
import Derived.Test.YtdchdapllehppaaZVx4
import Derived.Test.YtdchdapllehppaaZVx5
import Derived.Test.YtdchdapllehppaaZVx6
import Derived.Test.YtdchdapllehppaaZVx7
import Derived.Test.YtdchdapllehppaaZVx8
import Derived.Test.YtdchdapllehppaaZVx9
import Derived.Test.YtdchdapllehppaaZVx10
import Derived.Test.YtdchdapllehppaaZVx11
import Derived.Test.YtdchdapllehppaaZVx12
import Derived.Test.YtdchdapllehppaaZVx17
import Derived.Test.YtdchdapllehppaaZVx18
namespace Go.Proofs.Ytdchdapllehppaa.Ev
end Go.Proofs.Ytdchdapllehppaa.Ev
namespace Go.Proofs.Ytdchdapllehppaa.PAll
end Go.Proofs.Ytdchdapllehppaa.PAll
namespace Go.Proofs.Ytdchdapllehppaa.Spec
end Go.Proofs.Ytdchdapllehppaa.Spec
section
set_option linter.unusedVariables false
set_option linter.unusedSimpArgs false
namespace Go.Proofs.Ytdchdapllehppaa.Spec
/-- How many bits a number has. -/
def bl (n : Nat) : Nat := if n = 0 then 0 else n.log2 + 1
theorem bl_lt (n : Nat) : n < 2 ^ bl n := by
  unfold bl
  split
  · omega
  · exact Nat.lt_log2_self
theorem bl_eq (n m : Nat) (h1 : n < 2 ^ m) (h2 : m = 0 ∨ 2 ^ (m - 1) ≤ n) : bl n = m := by
  unfold bl
  rcases h2 with rfl | h2
  · rw [if_pos (by omega)]
  · have hp : 0 < 2 ^ (m - 1) := Nat.two_pow_pos _
    rw [if_neg (by omega)]
    have h3 : m - 1 ≤ n.log2 := (Nat.le_log2 (by omega)).2 h2
    have h4 : n.log2 < m := (Nat.log2_lt (by omega)).2 h1
    omega
theorem bl_le (n : Nat) (h : 0 < n) : 2 ^ (bl n - 1) ≤ n := by
  unfold bl
  rw [if_neg (by omega)]
  exact Nat.log2_self_le (by omega)
theorem bl_zero : bl 0 = 0 := rfl
theorem bl_pos (n : Nat) (h : 0 < n) : 0 < bl n := by unfold bl; rw [if_neg (by omega)]; omega
theorem bl_le_of_lt (n m : Nat) (h : n < 2 ^ m) : bl n ≤ m := by
  unfold bl
  split
  · omega
  · have := (Nat.log2_lt (n := n) (k := m) (by omega)).2 h
    omega
end Go.Proofs.Ytdchdapllehppaa.Spec
end
section
set_option linter.unusedVariables false
set_option linter.unusedSimpArgs false
namespace Go.Proofs.Ytdchdapllehppaa.Ev
open Go.RowKit Go.Proofs.Ytdchdapllehppaa.PAll Go.Proofs.YtdchdapllehppaaW.PrintWords Go.Proofs.YtdchdapllehppaaW.PrintLast Go.Proofs.YtdchdapllehppaaW.PrintMore Go.Proofs.Ytdchdapllehppaa.Spec
theorem wrap_id {x : Int} (h : -9223372036854775808 ≤ x) (h' : x ≤ 9223372036854775807) : wrap64 x = x := by unfold wrap64; omega
theorem wrap_succ (i : Nat) (h : i ≤ 100000) : wrap64 ((i : Int) + 1) = ((i + 1 : Nat) : Int) := by rw [wrap_id (by omega) (by omega)]; omega
theorem mx_eq (a b : Int) : mx a b = max a b := by unfold mx; split <;> omega
theorem mn_eq (a b : Int) : mn a b = min a b := by unfold mn; split <;> omega
def cmpN (a b : Nat) : Int := if a < b then -1 else if b < a then 1 else 0
end Go.Proofs.Ytdchdapllehppaa.Ev
end
section
set_option linter.unusedVariables false
set_option linter.unusedSimpArgs false
namespace Go.Proofs.Ytdchdapllehppaa.Ev
open Go.RowKit Go.Proofs.Ytdchdapllehppaa.PAll Go.Proofs.YtdchdapllehppaaW.PrintWords Go.Proofs.YtdchdapllehppaaW.PrintLast Go.Proofs.YtdchdapllehppaaW.PrintMore Go.Proofs.Ytdchdapllehppaa.Spec
theorem wrap_u64 (n : Int) : IntKind.u64.wrap n = n % 18446744073709551616 := by simp [IntKind.wrap, IntKind.bits, IntKind.signed]
theorem wrapN (n : Nat) : IntKind.u64.wrap (n : Int) = ((n % 18446744073709551616 : Nat) : Int) := by rw [wrap_u64]; omega
theorem shr_nat (x n : Nat) (h : n ≤ 64) : shr .u64 (x : Int) (n : Int) = ((x / 2 ^ n : Nat) : Int) := by
  unfold shr
  rw [show min (n : Int).toNat (IntKind.bits .u64) = n by simp [IntKind.bits]; omega]
  simp
theorem shl_nat (x n : Nat) (h : n ≤ 64) : shl .u64 (x : Int) (n : Int) = ((x * 2 ^ n % 18446744073709551616 : Nat) : Int) := by
  unfold shl
  rw [show min (n : Int).toNat (IntKind.bits .u64) = n by simp [IntKind.bits]; omega, ← wrapN]
  simp
theorem and_nat (a b : Nat) (ha : a < 18446744073709551616) (hb : b < 18446744073709551616) : Go.bits .and .u64 (a : Int) (b : Int) = ((a &&& b : Nat) : Int) :=
  (Go.bits_nat .u64 64 (by decide) (fun n h h' => by rw [wrap_u64]; omega) a b ha hb).1
theorem or_nat (a b : Nat) (ha : a < 18446744073709551616) (hb : b < 18446744073709551616) : Go.bits .or .u64 (a : Int) (b : Int) = ((a ||| b : Nat) : Int) :=
  (Go.bits_nat .u64 64 (by decide) (fun n h h' => by rw [wrap_u64]; omega) a b ha hb).2
theorem and_one (a : Nat) (ha : a < 18446744073709551616) : Go.bits .and .u64 (a : Int) 1 = ((a % 2 : Nat) : Int) := by
  have := and_nat a 1 ha (by omega)
  rw [Nat.and_one_is_mod] at this
  exact this
theorem and_mask (a : Nat) (ha : a < 18446744073709551616) : Go.bits .and .u64 (a : Int) 4294967295 = ((a % 4294967296 : Nat) : Int) := by
  have := and_nat a 4294967295 ha (by omega)
  rw [show (4294967295 : Nat) = 2 ^ 32 - 1 by decide, Nat.and_two_pow_sub_one_eq_mod] at this
  exact this
theorem or_plus (i q b : Nat) (hb : b < 2 ^ i) (h : 2 ^ i * q < 18446744073709551616) (hb' : b < 18446744073709551616) : Go.bits .or .u64 ((2 ^ i * q : Nat) : Int) (b : Int) = ((2 ^ i * q + b : Nat) : Int) := by
  rw [or_nat _ _ h hb', Nat.two_pow_add_eq_or_of_lt hb]
theorem or_plus' (i q b : Nat) (hb : b < 2 ^ i) (h : 2 ^ i * q < 18446744073709551616) (hb' : b < 18446744073709551616) : Go.bits .or .u64 (b : Int) ((2 ^ i * q : Nat) : Int) = ((2 ^ i * q + b : Nat) : Int) := by
  rw [or_nat _ _ hb' h, Nat.or_comm, Nat.two_pow_add_eq_or_of_lt hb]
end Go.Proofs.Ytdchdapllehppaa.Ev
end
section
set_option linter.unusedVariables false
set_option linter.unusedSimpArgs false
namespace Go.Proofs.Ytdchdapllehppaa.Ev
open Go.RowKit Go.Proofs.Ytdchdapllehppaa.PAll Go.Proofs.YtdchdapllehppaaW.PrintWords Go.Proofs.YtdchdapllehppaaW.PrintLast Go.Proofs.YtdchdapllehppaaW.PrintMore Go.Proofs.Ytdchdapllehppaa.Spec
def lenTbl : ByteArray := ⟨#[0, 1, 2, 2, 3, 3, 3, 3, 4, 4, 4, 4, 4, 4, 4, 4, 5, 5, 5, 5, 5, 5, 5, 5, 5, 5, 5, 5, 5, 5, 5, 5, 6, 6, 6, 6, 6, 6, 6, 6, 6, 6, 6, 6, 6, 6, 6, 6, 6, 6, 6, 6, 6, 6, 6, 6, 6, 6, 6, 6, 6, 6, 6, 6, 7, 7, 7, 7, 7, 7, 7, 7, 7, 7, 7, 7, 7, 7, 7, 7, 7, 7, 7, 7, 7, 7, 7, 7, 7, 7, 7, 7, 7, 7, 7, 7, 7, 7, 7, 7, 7, 7, 7, 7, 7, 7, 7, 7, 7, 7, 7, 7, 7, 7, 7, 7, 7, 7, 7, 7, 7, 7, 7, 7, 7, 7, 7, 7, 8, 8, 8, 8, 8, 8, 8, 8, 8, 8, 8, 8, 8, 8, 8, 8, 8, 8, 8, 8, 8, 8, 8, 8, 8, 8, 8, 8, 8, 8, 8, 8, 8, 8, 8, 8, 8, 8, 8, 8, 8, 8, 8, 8, 8, 8, 8, 8, 8, 8, 8, 8, 8, 8, 8, 8, 8, 8, 8, 8, 8, 8, 8, 8, 8, 8, 8, 8, 8, 8, 8, 8, 8, 8, 8, 8, 8, 8, 8, 8, 8, 8, 8, 8, 8, 8, 8, 8, 8, 8, 8, 8, 8, 8, 8, 8, 8, 8, 8, 8, 8, 8, 8, 8, 8, 8, 8, 8, 8, 8, 8, 8, 8, 8, 8, 8, 8, 8, 8, 8, 8, 8, 8, 8, 8, 8, 8, 8]⟩
theorem len64_j0 (k : Nat) (x0 x2 : Int) : bits_Len64.j0 (k + 1) x0 x2 = if x0 ≥ 65536 then (if (x0 / 65536) ≥ 256 then (if 0 ≤ (((x0 / 65536) / 256) % 256) then (if (((x0 / 65536) / 256) % 256) < 256 then (some (wrap64 ((wrap64 ((wrap64 (x2 + 16)) + 8)) + (wrap64 (bt lenTbl (((x0 / 65536) / 256) % 256)))))) else (none)) else (none)) else (if 0 ≤ ((x0 / 65536) % 256) then (if ((x0 / 65536) % 256) < 256 then (some (wrap64 ((wrap64 (x2 + 16)) + (wrap64 (bt lenTbl ((x0 / 65536) % 256)))))) else (none)) else (none))) else (if x0 ≥ 256 then (if 0 ≤ ((x0 / 256) % 256) then (if ((x0 / 256) % 256) < 256 then (some (wrap64 ((wrap64 (x2 + 8)) + (wrap64 (bt lenTbl ((x0 / 256) % 256)))))) else (none)) else (none)) else (if 0 ≤ ((x0) % 256) then (if ((x0) % 256) < 256 then (some (wrap64 (x2 + (wrap64 (bt lenTbl ((x0) % 256)))))) else (none)) else (none))) := rfl
theorem lenTbl_at : ∀ i : Fin 256, bt lenTbl ((i : Nat) : Int) = ((bl i : Nat) : Int) := by decide +kernel
theorem lenTbl_nat (i : Nat) (h : i < 256) : bt lenTbl (i : Int) = ((bl i : Nat) : Int) := lenTbl_at ⟨i, h⟩
theorem bl_div (x n : Nat) (h : 2 ^ n ≤ x) : bl x = n + bl (x / 2 ^ n) := by
  have hp := Nat.two_pow_pos n
  have h1 : 0 < x / 2 ^ n := Nat.div_pos h hp
  have h2 := bl_lt (x / 2 ^ n)
  have h3 := bl_le (x / 2 ^ n) h1
  have h4 := bl_pos (x / 2 ^ n) h1
  refine bl_eq _ _ ?_ (.inr ?_)
  · rw [Nat.pow_add, Nat.mul_comm]; exact (Nat.div_lt_iff_lt_mul hp).1 h2
  · rw [show n + bl (x / 2 ^ n) - 1 = n + (bl (x / 2 ^ n) - 1) by omega, Nat.pow_add, Nat.mul_comm]; exact (Nat.le_div_iff_mul_le hp).1 h3
theorem len64_small (k : Nat) (x c : Nat) (hx : x < 4294967296) (hc : c ≤ 1000) : bits_Len64.j0 (k + 1) (x : Int) (c : Int) = some ((c + bl x : Nat) : Int) := by
  rw [len64_j0]
  have w : ∀ n : Nat, n ≤ 100000 → wrap64 (n : Int) = (n : Int) := fun n h => wrap_id (by omega) (by omega)
  have bs : ∀ n, n < 256 → bl n ≤ 8 := fun n h => bl_le_of_lt n 8 (by omega)
  by_cases h1 : 65536 ≤ x
  · rw [if_pos (by omega)]
    have e1 := bl_div x 16 (by omega)
    by_cases h2 : 256 ≤ x / 65536
    · rw [if_pos (by omega), if_pos (by omega), if_pos (by omega)]
      have e2 := bl_div (x / 2 ^ 16) 8 (by omega)
      have e3 : ((x : Int) / 65536 / 256 % 256) = ((x / 2 ^ 16 / 2 ^ 8 : Nat) : Int) := by omega
      have b := bs (x / 2 ^ 16 / 2 ^ 8) (by omega)
      rw [e3, lenTbl_nat _ (by omega), w _ (by omega), show wrap64 ((c : Int) + 16) = ((c + 16 : Nat) : Int) from w (c + 16) (by omega), show wrap64 (((c + 16 : Nat) : Int) + 8) = ((c + 24 : Nat) : Int) from w (c + 24) (by omega), ← Int.natCast_add, w _ (by omega), e1, e2]
      congr 2; omega
    · rw [if_neg (by omega), if_pos (by omega), if_pos (by omega)]
      have e3 : ((x : Int) / 65536 % 256) = ((x / 2 ^ 16 : Nat) : Int) := by omega
      have b := bs (x / 2 ^ 16) (by omega)
      rw [e3, lenTbl_nat _ (by omega), w _ (by omega), show wrap64 ((c : Int) + 16) = ((c + 16 : Nat) : Int) from w (c + 16) (by omega), ← Int.natCast_add, w _ (by omega), e1]
      congr 2; omega
  · rw [if_neg (by omega)]
    by_cases h2 : 256 ≤ x
    · rw [if_pos (by omega), if_pos (by omega), if_pos (by omega)]
      have e2 := bl_div x 8 (by omega)
      have e3 : ((x : Int) / 256 % 256) = ((x / 2 ^ 8 : Nat) : Int) := by omega
      have b := bs (x / 2 ^ 8) (by omega)
      rw [e3, lenTbl_nat _ (by omega), w _ (by omega), show wrap64 ((c : Int) + 8) = ((c + 8 : Nat) : Int) from w (c + 8) (by omega), ← Int.natCast_add, w _ (by omega), e2]
      congr 2; omega
    · rw [if_neg (by omega), if_pos (by omega), if_pos (by omega)]
      have e3 : ((x : Int) % 256) = (x : Int) := by omega
      have b := bs x (by omega)
      rw [e3, lenTbl_nat _ (by omega), w _ (by omega), ← Int.natCast_add, w _ (by omega)]
/-- How long a word is. -/
theorem len64_f (k : Nat) (x : Nat) (hx : x < 18446744073709551616) : bits_Len64.f (k + 1) (x : Int) = some ((bl x : Nat) : Int) := by
  unfold bits_Len64.f
  by_cases h : 4294967296 ≤ x
  · rw [if_pos (by omega), show (x : Int) / 4294967296 = ((x / 2 ^ 32 : Nat) : Int) by omega, bl_div x 32 (by omega)]
    exact len64_small k _ 32 (by omega) (by omega)
  · rw [if_neg (by omega)]
    have := len64_small k x 0 (by omega) (by omega)
    rw [Nat.zero_add] at this
    exact this
theorem and_mask' (a : Nat) : Go.bits .and .u64 ((a % 18446744073709551616 : Nat) : Int) 4294967295 = ((a % 4294967296 : Nat) : Int) := by rw [and_mask _ (by omega)]; omega
theorem half (a : Nat) : (a : Int) / 4294967296 = ((a / 4294967296 : Nat) : Int) := by omega
theorem mul64_plain (p q r s : Nat) (hp : p ≤ 18446744065119617025) (hq : q ≤ 18446744065119617025) (hr : r ≤ 18446744065119617025) (hs : s ≤ 18446744065119617025) :
    (((p % 18446744073709551616 + ((q % 18446744073709551616 + r % 18446744073709551616 / 4294967296) % 18446744073709551616 / 4294967296)) % 18446744073709551616 + (((q % 18446744073709551616 + r % 18446744073709551616 / 4294967296) % 4294967296 + s % 18446744073709551616) % 18446744073709551616 / 4294967296)) % 18446744073709551616) =
      (p * 18446744073709551616 + (q + s) * 4294967296 + r) / 18446744073709551616 := by omega
theorem half_le (a b : Nat) (ha : a < 4294967296) (hb : b < 4294967296) : a * b ≤ 18446744065119617025 := Nat.mul_le_mul (show a ≤ 4294967295 by omega) (show b ≤ 4294967295 by omega)
theorem split_mul (a b : Nat) : a * b = (a / 4294967296) * (b / 4294967296) * 18446744073709551616 + ((a / 4294967296) * (b % 4294967296) + (a % 4294967296) * (b / 4294967296)) * 4294967296 + (a % 4294967296) * (b % 4294967296) := by
  have ea := Nat.div_add_mod a 4294967296
  have eb := Nat.div_add_mod b 4294967296
  generalize a / 4294967296 = a1 at *
  generalize a % 4294967296 = a0 at *
  generalize b / 4294967296 = b1 at *
  generalize b % 4294967296 = b0 at *
  subst ea eb
  rw [Nat.mul_add, Nat.add_mul, Nat.add_mul]
  have e1 : 4294967296 * a1 * (4294967296 * b1) = a1 * b1 * 18446744073709551616 := by
    rw [Nat.mul_mul_mul_comm, Nat.mul_comm]
  have e2 : a0 * (4294967296 * b1) = 4294967296 * (a0 * b1) := Nat.mul_left_comm _ _ _
  have e3 : 4294967296 * a1 * b0 = 4294967296 * (a1 * b0) := Nat.mul_assoc _ _ _
  rw [e1, e2, e3]
  omega
/-- A product, whole. -/
theorem mul64_f (a b : Nat) (ha : a < 18446744073709551616) (hb : b < 18446744073709551616) : bits_Mul64.f (a : Int) (b : Int) = some (((a * b / 18446744073709551616 : Nat) : Int), ((a * b % 18446744073709551616 : Nat) : Int)) := by
  unfold bits_Mul64.f
  simp only [and_mask a ha, and_mask b hb, half, ← Int.natCast_mul, ← Int.natCast_add, wrapN, and_mask']
  have h := mul64_plain ((a / 4294967296) * (b / 4294967296)) ((a / 4294967296) * (b % 4294967296)) ((a % 4294967296) * (b % 4294967296)) ((a % 4294967296) * (b / 4294967296))
    (half_le _ _ (by omega) (by omega)) (half_le _ _ (by omega) (by omega)) (half_le _ _ (by omega) (by omega)) (half_le _ _ (by omega) (by omega))
  rw [h, ← split_mul]
theorem wmul_f (a b : Nat) (ha : a < 18446744073709551616) (hb : b < 18446744073709551616) : wide_Mul.f (a : Int) (b : Int) = some (((a * b / 18446744073709551616 : Nat) : Int), ((a * b % 18446744073709551616 : Nat) : Int)) := by
  unfold wide_Mul.f
  rw [mul64_f a b ha hb]; rfl
theorem add64_f (a b c : Nat) (hc : c ≤ 1) : bits_Add64.f (a : Int) (b : Int) (c : Int) = some ((((a + b + c) % 18446744073709551616 : Nat) : Int), (((a + b + c) / 18446744073709551616 : Nat) : Int)) := by
  unfold bits_Add64.f
  rw [if_pos (by omega)]; rfl
theorem sub64_f (a b c : Nat) (hb : b < 18446744073709551616) (hc : c ≤ 1) : bits_Sub64.f (a : Int) (b : Int) (c : Int) = some ((((a + 18446744073709551616 - b - c) % 18446744073709551616 : Nat) : Int), (((if a < b + c then 1 else 0) : Nat) : Int)) := by
  unfold bits_Sub64.f
  rw [if_pos (by omega)]
  by_cases h : a < b + c
  · rw [if_pos h, if_pos (by omega)]; congr 2; omega
  · rw [if_neg h, if_neg (by omega)]; congr 2; omega
end Go.Proofs.Ytdchdapllehppaa.Ev
end
section
set_option linter.unusedVariables false
set_option linter.unusedSimpArgs false
namespace Go.Proofs.Ytdchdapllehppaa.Ev
open Go.RowKit Go.Proofs.Ytdchdapllehppaa.PAll Go.Proofs.YtdchdapllehppaaW.PrintWords Go.Proofs.YtdchdapllehppaaW.PrintLast Go.Proofs.YtdchdapllehppaaW.PrintMore Go.Proofs.Ytdchdapllehppaa.Spec
/-- A digit of a quotient. -/
def dg (u w v1 v0 : Nat) : Nat := (u * 4294967296 + w) / (v1 * 4294967296 + v0)
theorem plain_lt (a b rh w u l : Nat) (h : a + rh = u) (g : rh * l + w < b) : u * l + w < a * l + b := by
  subst h
  rw [Nat.add_mul]
  omega
/-- A digit being guessed: d = v1 * 2^32 + v0 (its top bit is one), u < d, w a digit; q the guess, at least the quotient of u * 2^32 + w; rh = u - q * v1. -/
structure Guess (v1 v0 u w q rh : Nat) : Prop where
  v1b : 2147483648 ≤ v1
  v1t : v1 < 4294967296
  v0t : v0 < 4294967296
  wt : w < 4294967296
  ud : u < v1 * 4294967296 + v0
  eq : q * v1 + rh = u
  ge : dg u w v1 v0 ≤ q
theorem Guess.mulD (v1 v0 q : Nat) : q * (v1 * 4294967296 + v0) = q * v1 * 4294967296 + q * v0 := by rw [Nat.mul_add, Nat.mul_assoc]
theorem Guess.lt {v1 v0 u w q rh : Nat} (h : Guess v1 v0 u w q rh) : dg u w v1 v0 < 4294967296 := by
  have := h.v1b; have := h.ud; have := h.wt
  unfold dg
  rw [Nat.div_lt_iff_lt_mul (by omega)]
  omega
/-- The guess is too great, seen at the second digit. -/
theorem Guess.over {v1 v0 u w q rh : Nat} (h : Guess v1 v0 u w q rh) (g : rh * 4294967296 + w < q * v0) : dg u w v1 v0 + 1 ≤ q := by
  have := h.v1b; have e := h.eq
  have : dg u w v1 v0 < q := by
    refine (Nat.div_lt_iff_lt_mul (k := v1 * 4294967296 + v0) (by omega)).2 ?_
    rw [Guess.mulD]
    exact plain_lt _ _ _ _ _ _ e g
  omega
/-- The guess is not too great. -/
theorem Guess.right {v1 v0 u w q rh : Nat} (h : Guess v1 v0 u w q rh) (g : q * v0 ≤ rh * 4294967296 + w) : dg u w v1 v0 = q := by
  have := h.v1b; have e := h.eq
  have g1 := h.ge
  have : q ≤ dg u w v1 v0 := by
    refine (Nat.le_div_iff_mul_le (k := v1 * 4294967296 + v0) (by omega)).2 ?_
    rw [Guess.mulD]
    omega
  omega
theorem Guess.first (v1 v0 u w : Nat) (b : 2147483648 ≤ v1) (t : v1 < 4294967296) (t0 : v0 < 4294967296) (tw : w < 4294967296) (ud : u < v1 * 4294967296 + v0) : Guess v1 v0 u w (u / v1) (u % v1) where
  v1b := b
  v1t := t
  v0t := t0
  wt := tw
  ud := ud
  eq := by rw [Nat.mul_comm]; exact Nat.div_add_mod u v1
  ge := by
    rw [Nat.le_div_iff_mul_le (by omega)]
    have h : dg u w v1 v0 * (v1 * 4294967296 + v0) ≤ u * 4294967296 + w := Nat.div_mul_le_self _ _
    rw [Guess.mulD] at h
    have : dg u w v1 v0 * v1 * 4294967296 < (u + 1) * 4294967296 := by omega
    have := Nat.lt_of_mul_lt_mul_right this
    omega
theorem Guess.u64 {v1 v0 u w q rh : Nat} (h : Guess v1 v0 u w q rh) : q < 18446744073709551616 ∧ u < 18446744073709551616 := by
  have := h.v1t; have := h.v0t; have := h.v1b; have := h.ud; have e := h.eq
  refine ⟨?_, by omega⟩
  have : q * 1 ≤ q * v1 := Nat.mul_le_mul_left q (by omega)
  omega
end Go.Proofs.Ytdchdapllehppaa.Ev
end
section
set_option linter.unusedVariables false
set_option linter.unusedSimpArgs false
namespace Go.Proofs.Ytdchdapllehppaa.Ev
open Go.RowKit Go.Proofs.Ytdchdapllehppaa.PAll Go.Proofs.YtdchdapllehppaaW.PrintWords Go.Proofs.YtdchdapllehppaaW.PrintLast Go.Proofs.YtdchdapllehppaaW.PrintMore Go.Proofs.Ytdchdapllehppaa.Spec
theorem pow_split (s : Nat) (hs : s ≤ 64) : 2 ^ s * 2 ^ (64 - s) = 18446744073709551616 := by rw [← Nat.pow_add, show s + (64 - s) = 64 by omega]
theorem shl_plain (hi lo p q b : Nat) (e : p * q = b) : (hi * p + lo / q) * b + lo * p % b = (hi * b + lo) * p := by
  have e2 : lo * p % b = lo % q * p := by rw [← e, Nat.mul_comm p q, Nat.mul_mod_mul_right]
  have e3 := Nat.div_add_mod lo q
  have e4 : lo / q * b = q * (lo / q) * p := by rw [← e, Nat.mul_comm p q, ← Nat.mul_assoc, Nat.mul_comm (lo / q) q]
  have e5 : lo * p = q * (lo / q) * p + lo % q * p := by rw [← Nat.add_mul, e3]
  have e6 : hi * p * b = hi * b * p := Nat.mul_right_comm _ _ _
  rw [e2, Nat.add_mul, e4, Nat.add_mul, e5, e6, Nat.add_assoc]
/-- Two words shifted up. -/
theorem shl_two (hi lo s : Nat) (hs : s ≤ 64) :
    (hi * 2 ^ s + lo / 2 ^ (64 - s)) * 18446744073709551616 + lo * 2 ^ s % 18446744073709551616 = (hi * 18446744073709551616 + lo) * 2 ^ s := shl_plain hi lo _ _ _ (pow_split s hs)
end Go.Proofs.Ytdchdapllehppaa.Ev
end
section
set_option linter.unusedVariables false
set_option linter.unusedSimpArgs false
namespace Go.Proofs.Ytdchdapllehppaa.Ev
open Go.RowKit Go.Proofs.Ytdchdapllehppaa.PAll Go.Proofs.YtdchdapllehppaaW.PrintWords Go.Proofs.YtdchdapllehppaaW.PrintLast Go.Proofs.YtdchdapllehppaaW.PrintMore Go.Proofs.Ytdchdapllehppaa.Spec
theorem cmpN_ge (a b : Nat) : (cmpN a b ≥ 0) ↔ b ≤ a := by unfold cmpN; split <;> (try split) <;> omega
theorem div_step (A D b : Nat) (hD : 0 < D) (hb : b < 2) : (D ≤ b + 2 * (A % D) → (2 * A + b) / D = 2 * (A / D) + 1 ∧ (2 * A + b) % D = b + 2 * (A % D) - D) ∧ (b + 2 * (A % D) < D → (2 * A + b) / D = 2 * (A / D) ∧ (2 * A + b) % D = b + 2 * (A % D)) := by
  have e := Nat.div_add_mod A D
  have l := Nat.mod_lt A hD
  constructor
  · intro h
    rw [Nat.div_mod_unique hD]
    have : D * (2 * (A / D) + 1) = 2 * (D * (A / D)) + D := by rw [Nat.mul_add, Nat.mul_left_comm]; omega
    omega
  · intro h
    rw [Nat.div_mod_unique hD]
    have : D * (2 * (A / D)) = 2 * (D * (A / D)) := by rw [Nat.mul_left_comm]
    omega
end Go.Proofs.Ytdchdapllehppaa.Ev
end
section
set_option linter.unusedVariables false
set_option linter.unusedSimpArgs false
namespace Go.Proofs.Ytdchdapllehppaa.Ev
open Go.RowKit Go.Proofs.Ytdchdapllehppaa.PAll Go.Proofs.YtdchdapllehppaaW.PrintWords Go.Proofs.YtdchdapllehppaaW.PrintLast Go.Proofs.YtdchdapllehppaaW.PrintMore Go.Proofs.Ytdchdapllehppaa.Spec
theorem add128_f (a b c d : Nat) (ha : a < 18446744073709551616) (hb : b < 18446744073709551616) (hc : c < 18446744073709551616) (hd : d < 18446744073709551616) :
    ∃ r s e : Nat, wide_U128_Add.f (a : Int) (b : Int) (c : Int) (d : Int) = some ((r : Int), (s : Int), (e : Int)) ∧ r < 18446744073709551616 ∧ s < 18446744073709551616 ∧ e ≤ 1 ∧ (e * 18446744073709551616 + r) * 18446744073709551616 + s = (a * 18446744073709551616 + b) + (c * 18446744073709551616 + d) := by
  unfold wide_U128_Add.f
  rw [show ((0 : Int)) = ((0 : Nat) : Int) from rfl, add64_f b d 0 (by omega), Option.bind_some]
  dsimp only
  rw [add64_f a c _ (by omega), Option.bind_some]
  exact ⟨_, _, _, rfl, by omega, by omega, by omega, by omega⟩
theorem sub128_f (a b c d : Nat) (ha : a < 18446744073709551616) (hb : b < 18446744073709551616) (hc : c < 18446744073709551616) (hd : d < 18446744073709551616) :
    ∃ r s e : Nat, wide_U128_Sub.f (a : Int) (b : Int) (c : Int) (d : Int) = some ((r : Int), (s : Int), (e : Int)) ∧ r < 18446744073709551616 ∧ s < 18446744073709551616 ∧ e ≤ 1 ∧ (r * 18446744073709551616 + s) + (c * 18446744073709551616 + d) = (e * 18446744073709551616 + a) * 18446744073709551616 + b := by
  unfold wide_U128_Sub.f
  rw [show ((0 : Int)) = ((0 : Nat) : Int) from rfl, sub64_f b d 0 (by omega) (by omega), Option.bind_some]
  dsimp only
  have one : ∀ p : Prop, [Decidable p] → (if p then 1 else 0 : Nat) ≤ 1 := fun p _ => by split <;> omega
  rw [sub64_f a c _ (by omega) (one _), Option.bind_some]
  refine ⟨_, _, _, rfl, by omega, by omega, one _, ?_⟩
  obtain ⟨x, hx, hx1⟩ : ∃ x, (if b < d + 0 then 1 else 0 : Nat) = x ∧ ((x = 1 ∧ b < d) ∨ (x = 0 ∧ d ≤ b)) := by
    refine ⟨_, rfl, ?_⟩; split <;> omega
  rw [hx]
  obtain ⟨y, hy, hy1⟩ : ∃ y, (if a < c + x then 1 else 0 : Nat) = y ∧ ((y = 1 ∧ a < c + x) ∨ (y = 0 ∧ c + x ≤ a)) := by
    refine ⟨_, rfl, ?_⟩; split <;> omega
  rw [hy]
  omega
theorem sub192_f (a b c d e f : Nat) (ha : a < 18446744073709551616) (hb : b < 18446744073709551616) (hc : c < 18446744073709551616) (hd : d < 18446744073709551616) (he : e < 18446744073709551616) (hf : f < 18446744073709551616) :
    ∃ r s t u : Nat, wide_U192_Sub.f (a : Int) (b : Int) (c : Int) (d : Int) (e : Int) (f : Int) = some ((r : Int), (s : Int), (t : Int), (u : Int)) ∧ r < 18446744073709551616 ∧ s < 18446744073709551616 ∧ t < 18446744073709551616 ∧ u ≤ 1 ∧
      ((r * 18446744073709551616 + s) * 18446744073709551616 + t) + ((d * 18446744073709551616 + e) * 18446744073709551616 + f) = ((u * 18446744073709551616 + a) * 18446744073709551616 + b) * 18446744073709551616 + c := by
  unfold wide_U192_Sub.f
  rw [show ((0 : Int)) = ((0 : Nat) : Int) from rfl, sub64_f c f 0 (by omega) (by omega), Option.bind_some]
  dsimp only
  have one : ∀ p : Prop, [Decidable p] → (if p then 1 else 0 : Nat) ≤ 1 := fun p _ => by split <;> omega
  rw [sub64_f b e _ (by omega) (one _), Option.bind_some]
  dsimp only
  rw [sub64_f a d _ (by omega) (one _), Option.bind_some]
  refine ⟨_, _, _, _, rfl, by omega, by omega, by omega, one _, ?_⟩
  obtain ⟨x, hx, hx1⟩ : ∃ x, (if c < f + 0 then 1 else 0 : Nat) = x ∧ ((x = 1 ∧ c < f) ∨ (x = 0 ∧ f ≤ c)) := by
    refine ⟨_, rfl, ?_⟩; split <;> omega
  rw [hx]
  obtain ⟨y, hy, hy1⟩ : ∃ y, (if b < e + x then 1 else 0 : Nat) = y ∧ ((y = 1 ∧ b < e + x) ∨ (y = 0 ∧ e + x ≤ b)) := by
    refine ⟨_, rfl, ?_⟩; split <;> omega
  rw [hy]
  obtain ⟨z, hz, hz1⟩ : ∃ z, (if a < d + y then 1 else 0 : Nat) = z ∧ ((z = 1 ∧ a < d + y) ∨ (z = 0 ∧ d + y ≤ a)) := by
    refine ⟨_, rfl, ?_⟩; split <;> omega
  rw [hz]
  omega
theorem ord_step (k : Nat) (l : List S82) (i : Nat) (hi : i < l.length) (hl : l.length ≤ 10) (x y : Nat) (hx : l[i]? = some ⟨(x : Int), (y : Int)⟩) :
    wide_order.l0 (k + 1) l (l.length : Int) (i : Int) = if x < y then some (-1) else if y < x then some 1 else wide_order.l0 k l (l.length : Int) ((i + 1 : Nat) : Int) := by
  have e : rd_T82 l (i : Int) = ⟨(x : Int), (y : Int)⟩ := by unfold rd_T82; simp [List.getD_eq_getElem?_getD, hx]
  rw [wide_order.l0, if_pos (by omega), if_pos (by omega), if_pos (by omega), e, wrap_succ i (by omega)]
  by_cases h : x < y
  · rw [if_pos (by simpa using h), if_pos h]
  · rw [if_neg (by simpa using h), if_neg h]
    by_cases g : y < x
    · rw [if_pos (by simpa using g), if_pos g]
    · rw [if_neg (by simpa using g), if_neg g]
theorem ord_end (k : Nat) (l : List S82) : wide_order.l0 (k + 1) l (l.length : Int) (l.length : Int) = some 0 := by rw [wide_order.l0, if_neg (by omega)]
theorem cmp192_f (k a b e c d f : Nat) (hb : b < 18446744073709551616) (hd : d < 18446744073709551616) (he : e < 18446744073709551616) (hf : f < 18446744073709551616) :
    wide_U192_Cmp.f (k + 4) (a : Int) (b : Int) (e : Int) (c : Int) (d : Int) (f : Int) = some (cmpN ((a * 18446744073709551616 + b) * 18446744073709551616 + e) ((c * 18446744073709551616 + d) * 18446744073709551616 + f)) := by
  unfold wide_U192_Cmp.f wide_order.f
  have h0 := ord_step (k + 3) [⟨(a : Int), (c : Int)⟩, ⟨(b : Int), (d : Int)⟩, ⟨(e : Int), (f : Int)⟩] 0 (by simp) (by simp) a c rfl
  have h1 := ord_step (k + 2) [⟨(a : Int), (c : Int)⟩, ⟨(b : Int), (d : Int)⟩, ⟨(e : Int), (f : Int)⟩] 1 (by simp) (by simp) b d rfl
  have h2 := ord_step (k + 1) [⟨(a : Int), (c : Int)⟩, ⟨(b : Int), (d : Int)⟩, ⟨(e : Int), (f : Int)⟩] 2 (by simp) (by simp) e f rfl
  have h3 := ord_end k [⟨(a : Int), (c : Int)⟩, ⟨(b : Int), (d : Int)⟩, ⟨(e : Int), (f : Int)⟩]
  rw [show (0 : Int) = ((0 : Nat) : Int) from rfl, h0, h1, h2, show ((2 + 1 : Nat) : Int) = (([⟨(a : Int), (c : Int)⟩, ⟨(b : Int), (d : Int)⟩, ⟨(e : Int), (f : Int)⟩] : List S82).length : Int) from rfl, h3]
  unfold cmpN
  by_cases g1 : a < c
  · rw [if_pos g1, if_pos (by omega)]; rfl
  · rw [if_neg g1]
    by_cases g2 : c < a
    · rw [if_pos g2, if_neg (by omega), if_pos (by omega)]; rfl
    · rw [if_neg g2]
      by_cases g3 : b < d
      · rw [if_pos g3, if_pos (by omega)]; rfl
      · rw [if_neg g3]
        by_cases g4 : d < b
        · rw [if_pos g4, if_neg (by omega), if_pos (by omega)]; rfl
        · rw [if_neg g4]
          by_cases g5 : e < f
          · rw [if_pos g5, if_pos (by omega)]; rfl
          · rw [if_neg g5]
            by_cases g6 : f < e
            · rw [if_pos g6, if_neg (by omega), if_pos (by omega)]; rfl
            · rw [if_neg g6, if_neg (by omega), if_neg (by omega)]; rfl
theorem bl_two (h l : Nat) (hh : 0 < h) (hl : l < 18446744073709551616) : bl (h * 18446744073709551616 + l) = 64 + bl h := by
  rw [bl_div _ 64 (by omega)]
  congr 2
  omega
theorem len128_f (k a b : Nat) (ha : a < 18446744073709551616) (hb : b < 18446744073709551616) : wide_U128_Len.f (k + 1) (a : Int) (b : Int) = some ((bl (a * 18446744073709551616 + b) : Nat) : Int) := by
  unfold wide_U128_Len.f
  by_cases h : 0 < a
  · have := bl_le_of_lt a 64 (by omega)
    rw [if_pos (by omega), len64_f k a ha, Option.bind_some, wrap_id (by omega) (by omega), bl_two a b h hb]
    rfl
  · obtain rfl : a = 0 := by omega
    rw [if_neg (by omega), len64_f k b hb, Option.bind_some, Nat.zero_mul, Nat.zero_add]
theorem len192_f (k a b c : Nat) (ha : a < 18446744073709551616) (hb : b < 18446744073709551616) (hc : c < 18446744073709551616) : wide_U192_Len.f (k + 1) (a : Int) (b : Int) (c : Int) = some ((bl ((a * 18446744073709551616 + b) * 18446744073709551616 + c) : Nat) : Int) := by
  unfold wide_U192_Len.f wide_U192_top.f
  rw [Option.bind_some]
  dsimp only
  rw [len128_f k a b ha hb, Option.bind_some]
  have := bl_le_of_lt (a * 18446744073709551616 + b) 128 (by omega)
  by_cases h : 0 < a * 18446744073709551616 + b
  · have := bl_pos _ h
    rw [if_pos (by omega), wrap_id (by omega) (by omega), bl_two _ c h hc]
    rfl
  · have e : a * 18446744073709551616 + b = 0 := by omega
    rw [e, if_neg (by rw [bl_zero]; omega), len64_f k c hc, Option.bind_some, Nat.zero_mul, Nat.zero_add]
theorem mul128_f (a b c : Nat) (ha : a < 18446744073709551616) (hb : b < 18446744073709551616) (hc : c < 18446744073709551616) :
    ∃ r s t : Nat, wide_U128_Mul.f (a : Int) (b : Int) (c : Int) = some ((r : Int), (s : Int), (t : Int)) ∧ r < 18446744073709551616 ∧ s < 18446744073709551616 ∧ t < 18446744073709551616 ∧ (r * 18446744073709551616 + s) * 18446744073709551616 + t = (a * 18446744073709551616 + b) * c := by
  unfold wide_U128_Mul.f
  rw [wmul_f b c hb hc, Option.bind_some, wmul_f a c ha hc, Option.bind_some]
  dsimp only
  have ac : a * c ≤ 18446744073709551615 * 18446744073709551615 := Nat.mul_le_mul (by omega) (by omega)
  have bc : b * c ≤ 18446744073709551615 * 18446744073709551615 := Nat.mul_le_mul (by omega) (by omega)
  rw [Nat.add_mul, Nat.mul_right_comm]
  generalize a * c = p at *
  generalize b * c = q at *
  rw [show ((0 : Int)) = ((0 : Nat) : Int) from rfl, add64_f _ _ 0 (by omega), Option.bind_some, ← Int.natCast_add, wrapN]
  exact ⟨_, _, _, rfl, by omega, by omega, by omega, by omega⟩
end Go.Proofs.Ytdchdapllehppaa.Ev
end
section
set_option linter.unusedVariables false
set_option linter.unusedSimpArgs false
namespace Go.Proofs.Ytdchdapllehppaa.Ev
open Go.RowKit Go.Proofs.Ytdchdapllehppaa.PAll Go.Proofs.YtdchdapllehppaaW.PrintWords Go.Proofs.YtdchdapllehppaaW.PrintLast Go.Proofs.YtdchdapllehppaaW.PrintMore Go.Proofs.Ytdchdapllehppaa.Spec
theorem beq0 (a : Nat) : ((a : Int) == 0) = decide (a = 0) := by
  by_cases h : a = 0
  · subst h; rfl
  · rw [decide_eq_false h]; simp; omega
theorem bne0 (a : Nat) : ((a : Int) != 0) = decide (a ≠ 0) := by
  unfold bne
  rw [beq0]
  by_cases h : a = 0 <;> simp [h]
theorem shr_plain (t c p q b : Nat) (e : p * q = b) (hp : 0 < p) (hq : 0 < q) (hc : c < b) : (t * b + c) / p = t / p * b + (t % p * q + c / p) ∧ t % p * q + c / p < b ∧ (t * b + c) % p = c % p := by
  have e1 := Nat.div_add_mod t p
  have h1 : t * b = p * (t * q) := by rw [← e, Nat.mul_left_comm]
  have h2 : t * q = t / p * b + t % p * q := by
    have : t * q = (p * (t / p) + t % p) * q := by rw [e1]
    rw [this, Nat.add_mul, ← e, Nat.mul_comm p (t / p), Nat.mul_assoc]
  refine ⟨?_, ?_, ?_⟩
  · rw [h1, Nat.mul_add_div hp, h2, Nat.add_assoc]
  · have h3 : c / p < q := by rw [Nat.div_lt_iff_lt_mul hp, Nat.mul_comm, e]; exact hc
    have h4 : (t % p + 1) * q ≤ p * q := Nat.mul_le_mul_right _ (Nat.mod_lt t hp)
    rw [Nat.add_mul, Nat.one_mul, e] at h4
    omega
  · rw [h1, Nat.mul_add_mod]
/-- A word's low part, shifted up, is the other half of a shift. -/
theorem low_up (x n : Nat) (hn : n ≤ 64) : x * 2 ^ (64 - n) % 18446744073709551616 = x % 2 ^ n * 2 ^ (64 - n) := by
  rw [← pow_split n hn, Nat.mul_mod_mul_right]
theorem lost_low (x n : Nat) (hn : n ≤ 64) (lost : Bool) : (if lost = true then true else (((x * 2 ^ (64 - n) % 18446744073709551616 : Nat) : Int) != 0)) = (lost || decide (x % 2 ^ n ≠ 0)) := by
  rw [low_up x n hn]
  have hq := Nat.two_pow_pos (64 - n)
  cases lost with
  | true => rfl
  | false =>
    rw [if_neg (by decide), Bool.false_or, bne0]
    by_cases h : x % 2 ^ n = 0
    · rw [h]; simp
    · have : x % 2 ^ n * 2 ^ (64 - n) ≠ 0 := Nat.mul_ne_zero h (by omega)
      rw [decide_eq_true this, decide_eq_true h]
theorem word_shr (hi lo n : Nat) (h0 : 0 < n) (hn : n < 64) (hl : lo < 18446744073709551616) :
    Go.bits .or .u64 (shr .u64 (lo : Int) (n : Int)) (shl .u64 (hi : Int) ((64 - n : Nat) : Int)) = ((hi % 2 ^ n * 2 ^ (64 - n) + lo / 2 ^ n : Nat) : Int) := by
  rw [shr_nat lo n (by omega), shl_nat hi (64 - n) (by omega), low_up hi n (by omega)]
  have ps := pow_split n (by omega)
  have hp := Nat.two_pow_pos n
  have hq := Nat.two_pow_pos (64 - n)
  obtain ⟨s1, s2, s3⟩ := shr_plain hi lo (2 ^ n) (2 ^ (64 - n)) _ ps hp hq hl
  have l1 : lo / 2 ^ n < 2 ^ (64 - n) := by rw [Nat.div_lt_iff_lt_mul hp, Nat.mul_comm, ps]; exact hl
  have hlo : lo / 2 ^ n ≤ lo := Nat.div_le_self _ _
  have hl0 : 0 ≤ lo / 2 ^ n := Nat.zero_le _
  rw [Nat.mul_comm (hi % 2 ^ n)] at s2 ⊢
  rw [or_plus' (64 - n) (hi % 2 ^ n) _ l1 (by omega) (by omega)]
theorem shr128_small (k a b n : Nat) (lost : Bool) (hn : n < 64) (ha : a < 18446744073709551616) (hb : b < 18446744073709551616) :
    ∃ r s : Nat, wide_U128_Shr.l0 (k + 1) (n : Int) lost (a : Int) (b : Int) = some ((r : Int), (s : Int), lost || decide ((a * 18446744073709551616 + b) % 2 ^ n ≠ 0)) ∧ r < 18446744073709551616 ∧ s < 18446744073709551616 ∧ r * 18446744073709551616 + s = (a * 18446744073709551616 + b) / 2 ^ n := by
  rw [wide_U128_Shr.l0, if_neg (by omega)]
  by_cases h : n = 0
  · subst h
    rw [if_pos (by omega)]
    exact ⟨a, b, by simp [Nat.mod_one], ha, hb, by simp⟩
  · have hp := Nat.two_pow_pos n
    have hq := Nat.two_pow_pos (64 - n)
    obtain ⟨s1, s2, s3⟩ := shr_plain a b (2 ^ n) (2 ^ (64 - n)) _ (pow_split n (by omega)) hp hq hb
    have ha2 : a / 2 ^ n ≤ a := Nat.div_le_self _ _
    rw [if_neg (by omega), if_pos (by omega), wrap_id (by omega) (by omega), if_pos (by omega), show (64 - (n : Int)) = ((64 - n : Nat) : Int) by omega, word_shr a b n (by omega) hn hb, shr_nat a n (by omega), shl_nat b (64 - n) (by omega)]
    refine ⟨a / 2 ^ n, a % 2 ^ n * 2 ^ (64 - n) + b / 2 ^ n, ?_, by omega, s2, s1.symm⟩
    rw [s3, ← lost_low b n (by omega) lost]
    cases lost <;> rfl
theorem pow_more (n : Nat) (h : 64 ≤ n) : 2 ^ n = 18446744073709551616 * 2 ^ (n - 64) := by
  rw [show (18446744073709551616 : Nat) = 2 ^ 64 by decide, ← Nat.pow_add, show 64 + (n - 64) = n by omega]
theorem shr_word (t c n : Nat) (h : 64 ≤ n) (hc : c < 18446744073709551616) (lost : Bool) : (t * 18446744073709551616 + c) / 2 ^ n = t / 2 ^ (n - 64) ∧ (lost || decide ((t * 18446744073709551616 + c) % 2 ^ n ≠ 0)) = ((lost || decide (c ≠ 0)) || decide (t % 2 ^ (n - 64) ≠ 0)) := by
  rw [pow_more n h, ← Nat.div_div_eq_div_mul, Nat.mod_mul]
  rw [show (t * 18446744073709551616 + c) / 18446744073709551616 = t by omega, show (t * 18446744073709551616 + c) % 18446744073709551616 = c by omega]
  refine ⟨rfl, ?_⟩
  rw [Bool.or_assoc]
  congr 1
  by_cases h1 : c = 0
  · subst h1
    by_cases h2 : t % 2 ^ (n - 64) = 0
    · simp [h2]
    · rw [decide_eq_true (p := t % 2 ^ (n - 64) ≠ 0) h2, decide_eq_true (by omega), Bool.or_true]
  · rw [decide_eq_true (by omega), decide_eq_true (p := c ≠ 0) h1, Bool.true_or]
theorem shr128_l0 (a b : Nat) (ha : a < 18446744073709551616) (hb : b < 18446744073709551616) (k n : Nat) (hn : n ≤ 9223372036854775807) (lost : Bool) :
    ∃ r s : Nat, wide_U128_Shr.l0 (k + 3) (n : Int) lost (a : Int) (b : Int) = some ((r : Int), (s : Int), lost || decide ((a * 18446744073709551616 + b) % 2 ^ n ≠ 0)) ∧ r < 18446744073709551616 ∧ s < 18446744073709551616 ∧ r * 18446744073709551616 + s = (a * 18446744073709551616 + b) / 2 ^ n := by
  by_cases h1 : n < 64
  · exact shr128_small (k + 2) a b n lost h1 ha hb
  · have ls : ∀ b : Nat, (if lost = true then true else ((b : Int) != 0)) = (lost || decide (b ≠ 0)) := fun b => by
      rw [bne0]; cases lost <;> simp
    obtain ⟨w1, w2⟩ := shr_word a b n (by omega) hb lost
    have step : wide_U128_Shr.l0 (k + 3) (n : Int) lost (a : Int) (b : Int) = if a = 0 then some (0, (a : Int), (lost || decide (b ≠ 0))) else wide_U128_Shr.l0 (k + 2) ((n - 64 : Nat) : Int) (lost || decide (b ≠ 0)) ((0 : Nat) : Int) (a : Int) := by
      rw [wide_U128_Shr.l0, if_pos (by omega), wrap_id (x := (n : Int) - 64) (by omega) (by omega), show ((n : Int) - 64) = ((n - 64 : Nat) : Int) by omega, beq0, ← ls b]
      by_cases g : a = 0
      · subst g; cases lost <;> simp
      · rw [if_neg g]; cases lost <;> simp [g]
    rw [step, w1, w2]
    by_cases g : a = 0
    · subst g
      rw [if_pos rfl]
      exact ⟨0, 0, by simp, by omega, by omega, by simp⟩
    · rw [if_neg g]
      by_cases h2 : n - 64 < 64
      · have := shr128_small (k + 1) 0 a (n - 64) (lost || decide (b ≠ 0)) h2 (by omega) ha
        rw [Nat.zero_mul, Nat.zero_add] at this
        exact this
      · have hl : a < 2 ^ (n - 64) := Nat.lt_of_lt_of_le ha (by rw [show (18446744073709551616 : Nat) = 2 ^ 64 by decide]; exact Nat.pow_le_pow_right (by omega) (by omega))
        rw [wide_U128_Shr.l0, if_pos (by omega)]
        refine ⟨0, 0, ?_, by omega, by omega, by rw [Nat.div_eq_of_lt hl]⟩
        rw [Nat.mod_eq_of_lt hl, decide_eq_true (p := a ≠ 0) g, Bool.or_true]
        have : ((a : Int) != 0) = true := by simp; omega
        rw [this]
        cases (lost || decide (b ≠ 0)) <;> simp
/-- A shift to the right, and whether something is lost. -/
theorem shr128_f (k a b : Nat) (n : Int) (ha : a < 18446744073709551616) (hb : b < 18446744073709551616) (hn : -9223372036854775808 ≤ n) (hn2 : n ≤ 9223372036854775807) (hk : 3 ≤ k) :
    ∃ r s : Nat, wide_U128_Shr.f k (a : Int) (b : Int) n = some ((r : Int), (s : Int), decide ((a * 18446744073709551616 + b) % 2 ^ n.toNat ≠ 0)) ∧ r < 18446744073709551616 ∧ s < 18446744073709551616 ∧ r * 18446744073709551616 + s = (a * 18446744073709551616 + b) / 2 ^ n.toNat := by
  unfold wide_U128_Shr.f
  obtain ⟨k, rfl⟩ : ∃ m, k = m + 3 := ⟨k - 3, by omega⟩
  by_cases h : 0 ≤ n
  · obtain ⟨m, rfl⟩ := Int.eq_ofNat_of_zero_le h
    have := shr128_l0 a b ha hb k m (by omega) false
    simpa using this
  · rw [show n.toNat = 0 by omega, wide_U128_Shr.l0, if_neg (by omega), if_pos (by omega)]
    exact ⟨a, b, by simp [Nat.mod_one], ha, hb, by simp⟩
theorem shr192_small (k a b c n : Nat) (lost : Bool) (hn : n < 64) (ha : a < 18446744073709551616) (hb : b < 18446744073709551616) (hc : c < 18446744073709551616) :
    ∃ r s t : Nat, wide_U192_Shr.l0 (k + 4) (n : Int) lost (a : Int) (b : Int) (c : Int) = some ((r : Int), (s : Int), (t : Int), lost || decide (((a * 18446744073709551616 + b) * 18446744073709551616 + c) % 2 ^ n ≠ 0)) ∧ r < 18446744073709551616 ∧ s < 18446744073709551616 ∧ t < 18446744073709551616 ∧
      (r * 18446744073709551616 + s) * 18446744073709551616 + t = ((a * 18446744073709551616 + b) * 18446744073709551616 + c) / 2 ^ n := by
  rw [wide_U192_Shr.l0, if_neg (by omega)]
  by_cases h : n = 0
  · subst h
    rw [if_pos (by omega)]
    exact ⟨a, b, c, by simp [Nat.mod_one], ha, hb, hc, by simp⟩
  · have hp := Nat.two_pow_pos n
    have hq := Nat.two_pow_pos (64 - n)
    have ps := pow_split n (by omega)
    obtain ⟨s1, s2, s3⟩ := shr_plain (a * 18446744073709551616 + b) c (2 ^ n) (2 ^ (64 - n)) _ ps hp hq hc
    obtain ⟨t1, t2, t3⟩ := shr_plain a b (2 ^ n) (2 ^ (64 - n)) _ ps hp hq hb
    obtain ⟨r, s, e1, e2, e3, e4⟩ := shr128_f (k + 3) a b (n : Int) ha hb (by omega) (by omega) (by omega)
    rw [t3] at s1 s2
    rw [if_neg (by omega)]
    unfold wide_U192_top.f
    rw [Option.bind_some]
    dsimp only
    rw [e1, Option.bind_some, if_pos (by omega), wrap_id (by omega) (by omega), if_pos (by omega), show (64 - (n : Int)) = ((64 - n : Nat) : Int) by omega, word_shr b c n (by omega) hn hc, shl_nat c (64 - n) (by omega)]
    refine ⟨r, s, b % 2 ^ n * 2 ^ (64 - n) + c / 2 ^ n, ?_, e2, e3, s2, ?_⟩
    · rw [s3, ← lost_low c n (by omega) lost]
      cases lost <;> rfl
    · rw [e4, s1]; rfl
theorem shr192_l0 (a b c : Nat) (ha : a < 18446744073709551616) (hb : b < 18446744073709551616) (hc : c < 18446744073709551616) (k n : Nat) (hn : n ≤ 9223372036854775807) (lost : Bool) :
    ∃ r s t : Nat, wide_U192_Shr.l0 (k + 7) (n : Int) lost (a : Int) (b : Int) (c : Int) = some ((r : Int), (s : Int), (t : Int), lost || decide (((a * 18446744073709551616 + b) * 18446744073709551616 + c) % 2 ^ n ≠ 0)) ∧ r < 18446744073709551616 ∧ s < 18446744073709551616 ∧ t < 18446744073709551616 ∧
      (r * 18446744073709551616 + s) * 18446744073709551616 + t = ((a * 18446744073709551616 + b) * 18446744073709551616 + c) / 2 ^ n := by
  have step : ∀ (k a b c n : Nat) (lost : Bool), 64 ≤ n → n ≤ 9223372036854775807 → wide_U192_Shr.l0 (k + 1) (n : Int) lost (a : Int) (b : Int) (c : Int) = if a = 0 ∧ b = 0 then some (((0 : Nat) : Int), (a : Int), (b : Int), (lost || decide (c ≠ 0))) else wide_U192_Shr.l0 k ((n - 64 : Nat) : Int) (lost || decide (c ≠ 0)) ((0 : Nat) : Int) (a : Int) (b : Int) := by
    intro k a b c n lost h64 hn
    have ls : (if lost = true then true else ((c : Int) != 0)) = (lost || decide (c ≠ 0)) := by
      rw [bne0]; cases lost <;> simp
    rw [wide_U192_Shr.l0, if_pos (by omega), wrap_id (x := (n : Int) - 64) (by omega) (by omega), show ((n : Int) - 64) = ((n - 64 : Nat) : Int) by omega, beq0, beq0, ← ls]
    by_cases g : a = 0 ∧ b = 0
    · obtain ⟨rfl, rfl⟩ := g; cases lost <;> simp
    · rw [if_neg g]; cases lost <;> simp [g]
  by_cases h1 : n < 64
  · exact shr192_small (k + 3) a b c n lost h1 ha hb hc
  · obtain ⟨w1, w2⟩ := shr_word (a * 18446744073709551616 + b) c n (by omega) hc lost
    rw [step (k + 6) a b c n lost (by omega) hn, w1, w2]
    by_cases g : a = 0 ∧ b = 0
    · obtain ⟨rfl, rfl⟩ := g
      rw [if_pos ⟨rfl, rfl⟩]
      exact ⟨0, 0, 0, by simp, by omega, by omega, by omega, by simp⟩
    · rw [if_neg g]
      by_cases h2 : n - 64 < 64
      · have := shr192_small (k + 2) 0 a b (n - 64) (lost || decide (c ≠ 0)) h2 (by omega) ha hb
        rw [Nat.zero_mul, Nat.zero_add] at this
        exact this
      · obtain ⟨x1, x2⟩ := shr_word a b (n - 64) (by omega) hb (lost || decide (c ≠ 0))
        rw [step (k + 5) 0 a b (n - 64) _ (by omega) (by omega), x1, x2]
        by_cases g2 : a = 0
        · subst g2
          rw [if_pos ⟨rfl, rfl⟩]
          exact ⟨0, 0, 0, by simp, by omega, by omega, by omega, by simp⟩
        · rw [if_neg (by omega)]
          by_cases h3 : n - 64 - 64 < 64
          · have := shr192_small (k + 1) 0 0 a (n - 64 - 64) ((lost || decide (c ≠ 0)) || decide (b ≠ 0)) h3 (by omega) (by omega) ha
            rw [Nat.zero_mul, Nat.zero_add] at this
            exact this
          · have hl : a < 2 ^ (n - 64 - 64) := Nat.lt_of_lt_of_le ha (by rw [show (18446744073709551616 : Nat) = 2 ^ 64 by decide]; exact Nat.pow_le_pow_right (by omega) (by omega))
            rw [step (k + 4) 0 0 a (n - 64 - 64) _ (by omega) (by omega), if_pos ⟨rfl, rfl⟩]
            refine ⟨0, 0, 0, ?_, by omega, by omega, by omega, by rw [Nat.div_eq_of_lt hl]⟩
            rw [Nat.mod_eq_of_lt hl]
/-- A shift to the right, and whether something is lost. -/
theorem shr192_f (k a b c : Nat) (n : Int) (ha : a < 18446744073709551616) (hb : b < 18446744073709551616) (hc : c < 18446744073709551616) (hn : -9223372036854775808 ≤ n) (hn2 : n ≤ 9223372036854775807) (hk : 7 ≤ k) :
    ∃ r s t : Nat, wide_U192_Shr.f k (a : Int) (b : Int) (c : Int) n = some ((r : Int), (s : Int), (t : Int), decide (((a * 18446744073709551616 + b) * 18446744073709551616 + c) % 2 ^ n.toNat ≠ 0)) ∧ r < 18446744073709551616 ∧ s < 18446744073709551616 ∧ t < 18446744073709551616 ∧
      (r * 18446744073709551616 + s) * 18446744073709551616 + t = ((a * 18446744073709551616 + b) * 18446744073709551616 + c) / 2 ^ n.toNat := by
  unfold wide_U192_Shr.f
  obtain ⟨k, rfl⟩ : ∃ m, k = m + 7 := ⟨k - 7, by omega⟩
  by_cases h : 0 ≤ n
  · obtain ⟨m, rfl⟩ := Int.eq_ofNat_of_zero_le h
    have := shr192_l0 a b c ha hb hc k m (by omega) false
    simpa using this
  · rw [show n.toNat = 0 by omega, wide_U192_Shr.l0, if_neg (by omega), if_pos (by omega)]
    exact ⟨a, b, c, by simp [Nat.mod_one], ha, hb, hc, by simp⟩
end Go.Proofs.Ytdchdapllehppaa.Ev
end
section
set_option linter.unusedVariables false
set_option linter.unusedSimpArgs false
namespace Go.Proofs.Ytdchdapllehppaa.Ev
open Go.RowKit Go.Proofs.Ytdchdapllehppaa.PAll Go.Proofs.YtdchdapllehppaaW.PrintWords Go.Proofs.YtdchdapllehppaaW.PrintLast Go.Proofs.YtdchdapllehppaaW.PrintMore Go.Proofs.Ytdchdapllehppaa.Spec
theorem mod_add_small (x y b : Nat) (h : x % b + y < b) : (x + y) % b = x % b + y := by rw [Nat.add_mod, Nat.mod_eq_of_lt (a := y) (by omega), Nat.mod_eq_of_lt h]
theorem over_plain (a b l : Nat) : (a * l + b) * l % (l * l) = b * l % (l * l) := by
  rw [Nat.add_mul, Nat.mul_assoc, Nat.mul_comm a, Nat.mul_add_mod]
theorem over_plain3 (a b c l : Nat) : ((a * l + b) * l + c) * l % (l * l * l) = (b * l + c) * l % (l * l * l) := by
  have e : ((a * l + b) * l + c) * l = (l * l * l) * a + (b * l + c) * l := by
    rw [Nat.add_mul (a * l) b, Nat.add_assoc, Nat.add_mul (a * l * l), Nat.mul_comm (l * l * l), ← Nat.mul_assoc, ← Nat.mul_assoc]
  rw [e, Nat.mul_add_mod]
/-- A word shifted up, and what comes in from the word below. -/
theorem word_shl (hi lo n : Nat) (h0 : 0 < n) (hn : n < 64) (hl : lo < 18446744073709551616) :
    Go.bits .or .u64 ((hi * 2 ^ n % 18446744073709551616 : Nat) : Int) (shr .u64 (lo : Int) ((64 - n : Nat) : Int)) = (((hi * 2 ^ n + lo / 2 ^ (64 - n)) % 18446744073709551616 : Nat) : Int) := by
  rw [shr_nat lo (64 - n) (by omega)]
  have ps := pow_split n (by omega)
  have hp := Nat.two_pow_pos n
  have hq := Nat.two_pow_pos (64 - n)
  have l1 : lo / 2 ^ (64 - n) < 2 ^ n := by rw [Nat.div_lt_iff_lt_mul hq, ps]; exact hl
  have up : hi * 2 ^ n % 18446744073709551616 = 2 ^ n * (hi % 2 ^ (64 - n)) := by rw [← ps, Nat.mul_comm (2 ^ n) (2 ^ (64 - n)), Nat.mul_mod_mul_right, Nat.mul_comm]
  have l2 : (hi % 2 ^ (64 - n) + 1) * 2 ^ n ≤ 2 ^ (64 - n) * 2 ^ n := Nat.mul_le_mul_right _ (Nat.mod_lt hi hq)
  rw [Nat.add_mul, Nat.one_mul, Nat.mul_comm (2 ^ (64 - n)), ps, Nat.mul_comm] at l2
  have hlo : lo / 2 ^ (64 - n) ≤ lo := Nat.div_le_self _ _
  have l3 : 0 ≤ lo / 2 ^ (64 - n) := Nat.zero_le _
  rw [mod_add_small (hi * 2 ^ n) _ _ (by rw [up]; omega), up, or_plus n (hi % 2 ^ (64 - n)) _ l1 (by omega) (by omega)]
theorem mod_mul_pow (x b m n : Nat) : x % b * 2 ^ n % b = x * 2 ^ n % b := by rw [Nat.mod_mul_mod]
theorem shl_join (t lo n : Nat) (hn : n ≤ 64) (b : Nat) : (t * 18446744073709551616 + lo) * 2 ^ n % (b * 18446744073709551616) = (t * 2 ^ n + lo / 2 ^ (64 - n)) % b * 18446744073709551616 + lo * 2 ^ n % 18446744073709551616 := by
  rw [← shl_two t lo n hn, Nat.mul_comm b, Nat.mod_mul, Nat.mul_comm _ 18446744073709551616, Nat.mul_add_div (by omega), Nat.div_eq_of_lt (Nat.mod_lt _ (by omega)), Nat.add_zero, Nat.mul_add_mod, Nat.mod_mod]
  omega
theorem shl128_small (k a b n : Nat) (hn : n < 64) (ha : a < 18446744073709551616) (hb : b < 18446744073709551616) :
    ∃ r s : Nat, wide_U128_Shl.l0 (k + 1) (n : Int) (a : Int) (b : Int) = some ((r : Int), (s : Int)) ∧ r < 18446744073709551616 ∧ s < 18446744073709551616 ∧ r * 18446744073709551616 + s = (a * 18446744073709551616 + b) * 2 ^ n % 340282366920938463463374607431768211456 := by
  rw [wide_U128_Shl.l0, if_neg (by omega)]
  by_cases h : n = 0
  · subst h
    rw [if_pos (by omega)]
    exact ⟨a, b, rfl, ha, hb, by omega⟩
  · rw [if_neg (by omega), if_pos (by omega), wrap_id (by omega) (by omega), if_pos (by omega), show (64 - (n : Int)) = ((64 - n : Nat) : Int) by omega, shl_nat a n (by omega), shl_nat b n (by omega), word_shl a b n (by omega) hn hb]
    refine ⟨_, _, rfl, Nat.mod_lt _ (by omega), Nat.mod_lt _ (by omega), ?_⟩
    exact (shl_join a b n (by omega) 18446744073709551616).symm
theorem shl_word (x n : Nat) (h : 64 ≤ n) : x * 2 ^ n = x * 18446744073709551616 * 2 ^ (n - 64) := by rw [pow_more n h, Nat.mul_assoc]
theorem shl128_l0 (k a b n : Nat) (hn : n ≤ 9223372036854775807) (ha : a < 18446744073709551616) (hb : b < 18446744073709551616) :
    ∃ r s : Nat, wide_U128_Shl.l0 (k + 3) (n : Int) (a : Int) (b : Int) = some ((r : Int), (s : Int)) ∧ r < 18446744073709551616 ∧ s < 18446744073709551616 ∧ r * 18446744073709551616 + s = (a * 18446744073709551616 + b) * 2 ^ n % 340282366920938463463374607431768211456 := by
  have step : ∀ (k a b n : Nat), 64 ≤ n → n ≤ 9223372036854775807 → wide_U128_Shl.l0 (k + 1) (n : Int) (a : Int) (b : Int) = if b = 0 then some (((0 : Nat) : Int), ((0 : Nat) : Int)) else wide_U128_Shl.l0 k ((n - 64 : Nat) : Int) (b : Int) ((0 : Nat) : Int) := by
    intro k a b n h64 hn
    rw [wide_U128_Shl.l0, if_pos (by omega), wrap_id (x := (n : Int) - 64) (by omega) (by omega), show ((n : Int) - 64) = ((n - 64 : Nat) : Int) by omega, beq0]
    by_cases g : b = 0
    · subst g; simp
    · rw [if_neg g]; simp [g]
  have over : ∀ a b n : Nat, 64 ≤ n → (a * 18446744073709551616 + b) * 2 ^ n % 340282366920938463463374607431768211456 = (b * 18446744073709551616 + 0) * 2 ^ (n - 64) % 340282366920938463463374607431768211456 := by
    intro a b n h
    rw [shl_word _ n h, ← mod_mul_pow ((a * 18446744073709551616 + b) * 18446744073709551616) _ 0, ← mod_mul_pow (b * 18446744073709551616 + 0) _ 0, show (340282366920938463463374607431768211456 : Nat) = 18446744073709551616 * 18446744073709551616 by decide, over_plain, Nat.add_zero]
  by_cases h1 : n < 64
  · exact shl128_small (k + 2) a b n h1 ha hb
  · rw [step (k + 2) a b n (by omega) hn, over a b n (by omega)]
    by_cases g : b = 0
    · subst g
      rw [if_pos rfl]
      exact ⟨0, 0, rfl, by omega, by omega, by simp⟩
    · rw [if_neg g]
      by_cases h2 : n - 64 < 64
      · exact shl128_small (k + 1) b 0 (n - 64) h2 hb (by omega)
      · rw [step (k + 1) b 0 (n - 64) (by omega) (by omega), over b 0 (n - 64) (by omega), if_pos rfl]
        exact ⟨0, 0, rfl, by omega, by omega, by simp⟩
/-- A shift to the left. -/
theorem shl128_f (k a b : Nat) (n : Int) (ha : a < 18446744073709551616) (hb : b < 18446744073709551616) (hn : -9223372036854775808 ≤ n) (hn2 : n ≤ 9223372036854775807) (hk : 3 ≤ k) :
    ∃ r s : Nat, wide_U128_Shl.f k (a : Int) (b : Int) n = some ((r : Int), (s : Int)) ∧ r < 18446744073709551616 ∧ s < 18446744073709551616 ∧ r * 18446744073709551616 + s = (a * 18446744073709551616 + b) * 2 ^ n.toNat % 340282366920938463463374607431768211456 := by
  unfold wide_U128_Shl.f
  obtain ⟨k, rfl⟩ : ∃ m, k = m + 3 := ⟨k - 3, by omega⟩
  by_cases h : 0 ≤ n
  · obtain ⟨m, rfl⟩ := Int.eq_ofNat_of_zero_le h
    exact shl128_l0 k a b m (by omega) ha hb
  · rw [show n.toNat = 0 by omega, wide_U128_Shl.l0, if_neg (by omega), if_pos (by omega)]
    exact ⟨a, b, rfl, ha, hb, by omega⟩
theorem shl192_small (k a b c n : Nat) (hn : n < 64) (ha : a < 18446744073709551616) (hb : b < 18446744073709551616) (hc : c < 18446744073709551616) :
    ∃ r s t : Nat, wide_U192_Shl.l0 (k + 4) (n : Int) (a : Int) (b : Int) (c : Int) = some ((r : Int), (s : Int), (t : Int)) ∧ r < 18446744073709551616 ∧ s < 18446744073709551616 ∧ t < 18446744073709551616 ∧
      (r * 18446744073709551616 + s) * 18446744073709551616 + t = ((a * 18446744073709551616 + b) * 18446744073709551616 + c) * 2 ^ n % 6277101735386680763835789423207666416102355444464034512896 := by
  rw [wide_U192_Shl.l0, if_neg (by omega)]
  by_cases h : n = 0
  · subst h
    rw [if_pos (by omega)]
    exact ⟨a, b, c, rfl, ha, hb, hc, by omega⟩
  · rw [if_neg (by omega)]
    unfold wide_U192_top.f
    rw [Option.bind_some]
    dsimp only
    have sm := shl128_small (k + 2) a b n hn ha hb
    have e0 : wide_U128_Shl.f (k + 3) (a : Int) (b : Int) (n : Int) = some ((((a * 2 ^ n + b / 2 ^ (64 - n)) % 18446744073709551616 : Nat) : Int), ((b * 2 ^ n % 18446744073709551616 : Nat) : Int)) := by
      unfold wide_U128_Shl.f
      rw [wide_U128_Shl.l0, if_neg (by omega), if_neg (by omega), if_pos (by omega), wrap_id (by omega) (by omega), if_pos (by omega), show (64 - (n : Int)) = ((64 - n : Nat) : Int) by omega, shl_nat a n (by omega), shl_nat b n (by omega), word_shl a b n (by omega) hn hb]
    rw [e0, Option.bind_some, wrap_id (by omega) (by omega), if_pos (by omega), if_pos (by omega), show (64 - (n : Int)) = ((64 - n : Nat) : Int) by omega]
    dsimp only
    rw [word_shl b c n (by omega) hn hc, shl_nat c n (by omega)]
    refine ⟨_, _, _, rfl, Nat.mod_lt _ (by omega), Nat.mod_lt _ (by omega), Nat.mod_lt _ (by omega), ?_⟩
    rw [show (6277101735386680763835789423207666416102355444464034512896 : Nat) = 340282366920938463463374607431768211456 * 18446744073709551616 by decide, shl_join (a * 18446744073709551616 + b) c n (by omega)]
    congr 2
    rw [← shl_two a b n (by omega)]
    generalize a * 2 ^ n + b / 2 ^ (64 - n) = x
    have up : b * 2 ^ n % 18446744073709551616 = 2 ^ n * (b % 2 ^ (64 - n)) := by rw [← pow_split n (by omega), Nat.mul_comm (2 ^ n) (2 ^ (64 - n)), Nat.mul_mod_mul_right, Nat.mul_comm]
    have ps := pow_split n (by omega)
    have hq := Nat.two_pow_pos (64 - n)
    have l1 : c / 2 ^ (64 - n) < 2 ^ n := by rw [Nat.div_lt_iff_lt_mul hq, ps]; exact hc
    have l2 : (b % 2 ^ (64 - n) + 1) * 2 ^ n ≤ 2 ^ (64 - n) * 2 ^ n := Nat.mul_le_mul_right _ (Nat.mod_lt b hq)
    rw [Nat.add_mul, Nat.one_mul, Nat.mul_comm (2 ^ (64 - n)), ps, Nat.mul_comm] at l2
    generalize c / 2 ^ (64 - n) = y at *
    have l4 : b * 2 ^ n % 18446744073709551616 + y < 18446744073709551616 := by omega
    generalize b * 2 ^ n = z at *
    omega
theorem shl192_l0 (k a b c n : Nat) (hn : n ≤ 9223372036854775807) (ha : a < 18446744073709551616) (hb : b < 18446744073709551616) (hc : c < 18446744073709551616) :
    ∃ r s t : Nat, wide_U192_Shl.l0 (k + 7) (n : Int) (a : Int) (b : Int) (c : Int) = some ((r : Int), (s : Int), (t : Int)) ∧ r < 18446744073709551616 ∧ s < 18446744073709551616 ∧ t < 18446744073709551616 ∧
      (r * 18446744073709551616 + s) * 18446744073709551616 + t = ((a * 18446744073709551616 + b) * 18446744073709551616 + c) * 2 ^ n % 6277101735386680763835789423207666416102355444464034512896 := by
  have step : ∀ (k a b c n : Nat), 64 ≤ n → n ≤ 9223372036854775807 → wide_U192_Shl.l0 (k + 1) (n : Int) (a : Int) (b : Int) (c : Int) = if b = 0 ∧ c = 0 then some (((0 : Nat) : Int), ((0 : Nat) : Int), ((0 : Nat) : Int)) else wide_U192_Shl.l0 k ((n - 64 : Nat) : Int) (b : Int) (c : Int) ((0 : Nat) : Int) := by
    intro k a b c n h64 hn
    rw [wide_U192_Shl.l0, if_pos (by omega), wrap_id (x := (n : Int) - 64) (by omega) (by omega), show ((n : Int) - 64) = ((n - 64 : Nat) : Int) by omega, beq0, beq0]
    by_cases g : b = 0 ∧ c = 0
    · obtain ⟨rfl, rfl⟩ := g; simp
    · rw [if_neg g]; simp [g]
  have over : ∀ a b c n : Nat, 64 ≤ n → ((a * 18446744073709551616 + b) * 18446744073709551616 + c) * 2 ^ n % 6277101735386680763835789423207666416102355444464034512896 = ((b * 18446744073709551616 + c) * 18446744073709551616 + 0) * 2 ^ (n - 64) % 6277101735386680763835789423207666416102355444464034512896 := by
    intro a b c n h
    rw [shl_word _ n h, ← mod_mul_pow (((a * 18446744073709551616 + b) * 18446744073709551616 + c) * 18446744073709551616) _ 0, ← mod_mul_pow ((b * 18446744073709551616 + c) * 18446744073709551616 + 0) _ 0, show (6277101735386680763835789423207666416102355444464034512896 : Nat) = 18446744073709551616 * 18446744073709551616 * 18446744073709551616 by decide, over_plain3, Nat.add_zero]
  by_cases h1 : n < 64
  · exact shl192_small (k + 3) a b c n h1 ha hb hc
  · rw [step (k + 6) a b c n (by omega) hn, over a b c n (by omega)]
    by_cases g : b = 0 ∧ c = 0
    · obtain ⟨rfl, rfl⟩ := g
      rw [if_pos ⟨rfl, rfl⟩]
      exact ⟨0, 0, 0, rfl, by omega, by omega, by omega, by simp⟩
    · rw [if_neg g]
      by_cases h2 : n - 64 < 64
      · exact shl192_small (k + 2) b c 0 (n - 64) h2 hb hc (by omega)
      · rw [step (k + 5) b c 0 (n - 64) (by omega) (by omega), over b c 0 (n - 64) (by omega)]
        by_cases g2 : c = 0
        · subst g2
          rw [if_pos ⟨rfl, rfl⟩]
          exact ⟨0, 0, 0, rfl, by omega, by omega, by omega, by simp⟩
        · rw [if_neg (by omega)]
          by_cases h3 : n - 64 - 64 < 64
          · exact shl192_small (k + 1) c 0 0 (n - 64 - 64) h3 hc (by omega) (by omega)
          · rw [step (k + 4) c 0 0 (n - 64 - 64) (by omega) (by omega), over c 0 0 (n - 64 - 64) (by omega), if_pos ⟨rfl, rfl⟩]
            exact ⟨0, 0, 0, rfl, by omega, by omega, by omega, by simp⟩
/-- A shift to the left. -/
theorem shl192_f (k a b c : Nat) (n : Int) (ha : a < 18446744073709551616) (hb : b < 18446744073709551616) (hc : c < 18446744073709551616) (hn : -9223372036854775808 ≤ n) (hn2 : n ≤ 9223372036854775807) (hk : 7 ≤ k) :
    ∃ r s t : Nat, wide_U192_Shl.f k (a : Int) (b : Int) (c : Int) n = some ((r : Int), (s : Int), (t : Int)) ∧ r < 18446744073709551616 ∧ s < 18446744073709551616 ∧ t < 18446744073709551616 ∧
      (r * 18446744073709551616 + s) * 18446744073709551616 + t = ((a * 18446744073709551616 + b) * 18446744073709551616 + c) * 2 ^ n.toNat % 6277101735386680763835789423207666416102355444464034512896 := by
  unfold wide_U192_Shl.f
  obtain ⟨k, rfl⟩ : ∃ m, k = m + 7 := ⟨k - 7, by omega⟩
  by_cases h : 0 ≤ n
  · obtain ⟨m, rfl⟩ := Int.eq_ofNat_of_zero_le h
    exact shl192_l0 k a b c m (by omega) ha hb hc
  · rw [show n.toNat = 0 by omega, wide_U192_Shl.l0, if_neg (by omega), if_pos (by omega)]
    exact ⟨a, b, c, rfl, ha, hb, hc, by omega⟩
end Go.Proofs.Ytdchdapllehppaa.Ev
end
section
set_option linter.unusedVariables false
set_option linter.unusedSimpArgs false
namespace Go.Proofs.Ytdchdapllehppaa.Ev
open Go.RowKit Go.Proofs.Ytdchdapllehppaa.PAll Go.Proofs.YtdchdapllehppaaW.PrintWords Go.Proofs.YtdchdapllehppaaW.PrintLast Go.Proofs.YtdchdapllehppaaW.PrintMore Go.Proofs.Ytdchdapllehppaa.Spec
theorem dbc {p : Prop} [Decidable p] (h : ¬ p → False) : p := Decidable.byContradiction h
theorem or_one (x : Nat) (h : x % 2 = 0) (hx : x < 18446744073709551616) (y : Nat) (hy : y < 2) : Go.bits .or .u64 (x : Int) (y : Int) = ((x + y : Nat) : Int) := by
  obtain ⟨q, rfl⟩ := Nat.dvd_of_mod_eq_zero h
  exact or_plus 1 q y (by omega) (by omega) (by omega)
/-- The numbers behind one round: what is doubled, and mended. -/
theorem div192_nums (W D : Nat) (hD0 : 0 < D) (hD : D < 340282366920938463463374607431768211456) (hW : W < 6277101735386680763835789423207666416102355444464034512896) :
    2 * (W / 2 % D) + W % 2 < 680564733841876926926749214863536422912 ∧ 2 * (W / 2 / D) + 1 < 6277101735386680763835789423207666416102355444464034512897 ∧
    (D ≤ W % 2 + 2 * (W / 2 % D) → W / D = 2 * (W / 2 / D) + 1 ∧ W % D = W % 2 + 2 * (W / 2 % D) - D) ∧ (W % 2 + 2 * (W / 2 % D) < D → W / D = 2 * (W / 2 / D) ∧ W % D = W % 2 + 2 * (W / 2 % D)) := by
  obtain ⟨t1, t2⟩ := div_step (W / 2) D (W % 2) hD0 (by omega)
  rw [show 2 * (W / 2) + W % 2 = W by omega] at t1 t2
  have l := Nat.mod_lt (W / 2) hD0
  have ql : W / 2 / D ≤ W / 2 := Nat.div_le_self _ _
  exact ⟨by omega, by omega, t1, t2⟩
/-- A round of the quotient. -/
theorem div192_step (a0 a1 a2 d1 d2 : Nat) (h0 : a0 < 18446744073709551616) (h1 : a1 < 18446744073709551616) (h2 : a2 < 18446744073709551616) (hd1 : d1 < 18446744073709551616) (hd2 : d2 < 18446744073709551616) (V D : Nat) (hV : V = (a0 * 18446744073709551616 + a1) * 18446744073709551616 + a2) (hD : D = d1 * 18446744073709551616 + d2) (hD0 : 0 < D) (M : Nat) (hM : 10 ≤ M) (i q0 q1 q2 r0 r1 r2 : Nat) (hi : i < 192) (k0 : q0 < 18446744073709551616) (k1 : q1 < 18446744073709551616) (k2 : q2 < 18446744073709551616) (l0 : r0 < 18446744073709551616) (l1 : r1 < 18446744073709551616) (l2 : r2 < 18446744073709551616)
    (W : Nat) (hW : V / 2 ^ i = W) (e1 : (q0 * 18446744073709551616 + q1) * 18446744073709551616 + q2 = W / 2 / D) (e2 : (r0 * 18446744073709551616 + r1) * 18446744073709551616 + r2 = W / 2 % D) :
      ∃ p0 p1 p2 s0 s1 s2 : Nat, wide_U192_Div.l0 (M + i + 1 + 1) (i : Int) (a0 : Int) (a1 : Int) (a2 : Int) (q0 : Int) (q1 : Int) (q2 : Int) (r0 : Int) (r1 : Int) (r2 : Int) 0 (d1 : Int) (d2 : Int) = wide_U192_Div.l0 (M + i + 1) ((i : Int) - 1) (a0 : Int) (a1 : Int) (a2 : Int) (p0 : Int) (p1 : Int) (p2 : Int) (s0 : Int) (s1 : Int) (s2 : Int) 0 (d1 : Int) (d2 : Int) ∧
        p0 < 18446744073709551616 ∧ p1 < 18446744073709551616 ∧ p2 < 18446744073709551616 ∧ s0 < 18446744073709551616 ∧ s1 < 18446744073709551616 ∧ s2 < 18446744073709551616 ∧ (p0 * 18446744073709551616 + p1) * 18446744073709551616 + p2 = W / D ∧ (s0 * 18446744073709551616 + s1) * 18446744073709551616 + s2 = W % D := by
  obtain ⟨b0, b1, b2, f1, f2, f3, f4, f5⟩ := shr192_f (M + i + 1) a0 a1 a2 (i : Int) h0 h1 h2 (by omega) (by omega) (by omega)
  obtain ⟨c0, c1, c2, g1, g2, g3, g4, g5⟩ := shl192_f (M + i + 1) r0 r1 r2 1 l0 l1 l2 (by omega) (by omega) (by omega)
  obtain ⟨m0, m1, m2, n1, n2, n3, n4, n5⟩ := shl192_f (M + i + 1) q0 q1 q2 1 k0 k1 k2 (by omega) (by omega) (by omega)
  rw [Int.toNat_natCast, ← hV, hW] at f5
  rw [show (1 : Int).toNat = 1 from rfl, Nat.pow_one] at g5 n5
  have vl : W < 6277101735386680763835789423207666416102355444464034512896 := by rw [← hW]; exact Nat.lt_of_le_of_lt (Nat.div_le_self _ _) (by omega)
  obtain ⟨u1, u2, u3, u4⟩ := div192_nums W D hD0 (by omega) vl
  rw [e1] at n5
  rw [e2] at g5
  clear e1 e2 hW
  have bit : b2 % 2 = W % 2 := by omega
  have vb : W % 2 < 2 := Nat.mod_lt _ (by omega)
  generalize W / 2 / D = Q at *
  generalize W / 2 % D = R at *
  have c2e : c2 % 2 = 0 := by omega
  have m2e : m2 % 2 = 0 := by omega
  rw [wide_U192_Div.l0, if_pos (by omega), f1, Option.bind_some, g1, Option.bind_some, n1, Option.bind_some]
  dsimp only
  rw [and_one b2 f4, bit, or_one c2 c2e g4 _ vb, show (0 : Int) = ((0 : Nat) : Int) from rfl, show M + i + 1 = (M + i - 3) + 4 by omega, cmp192_f _ c0 c1 (c2 + W % 2) 0 d1 d2 g3 hd1 (by omega) hd2, Option.bind_some, show (M + i - 3) + 4 = M + i + 1 by omega, Nat.zero_mul, Nat.zero_add, ← hD, wrap_id (x := (i : Int) - 1) (by omega) (by omega)]
  have rr : (c0 * 18446744073709551616 + c1) * 18446744073709551616 + (c2 + W % 2) = W % 2 + 2 * R := dbc (fun _ => by omega)
  rw [rr]
  by_cases g : D ≤ W % 2 + 2 * R
  · rw [if_pos (show cmpN (W % 2 + 2 * R) D ≥ ((0 : Nat) : Int) from (cmpN_ge _ _).2 g)]
    obtain ⟨z0, z1, z2, z3, x1, x2, x3, x4, x5, x6⟩ := sub192_f c0 c1 (c2 + W % 2) 0 d1 d2 g2 g3 (by omega) (by omega) hd1 hd2
    rw [x1, Option.bind_some]
    dsimp only
    have oo := or_one m2 m2e n4 1 (by omega)
    rw [show ((1 : Nat) : Int) = 1 from rfl] at oo
    obtain ⟨y1, y2⟩ := u3 g
    rw [oo]
    exact ⟨m0, m1, m2 + 1, z0, z1, z2, rfl, n2, n3, by omega, x2, x3, x4, dbc (fun _ => by omega), dbc (fun _ => by omega)⟩
  · rw [if_neg (show ¬ cmpN (W % 2 + 2 * R) D ≥ ((0 : Nat) : Int) from fun h => g ((cmpN_ge _ _).1 h))]
    obtain ⟨y1, y2⟩ := u4 (by omega)
    exact ⟨m0, m1, m2, c0, c1, c2 + W % 2, rfl, n2, n3, n4, g2, g3, by omega, dbc (fun _ => by omega), dbc (fun _ => by omega)⟩
theorem div192_l0 (a0 a1 a2 d1 d2 : Nat) (h0 : a0 < 18446744073709551616) (h1 : a1 < 18446744073709551616) (h2 : a2 < 18446744073709551616) (hd1 : d1 < 18446744073709551616) (hd2 : d2 < 18446744073709551616) (V D : Nat) (hV : V = (a0 * 18446744073709551616 + a1) * 18446744073709551616 + a2) (hD : D = d1 * 18446744073709551616 + d2) (hD0 : 0 < D) (M : Nat) (hM : 10 ≤ M) :
    ∀ (j q0 q1 q2 r0 r1 r2 : Nat), j ≤ 192 → q0 < 18446744073709551616 → q1 < 18446744073709551616 → q2 < 18446744073709551616 → r0 < 18446744073709551616 → r1 < 18446744073709551616 → r2 < 18446744073709551616 →
      (q0 * 18446744073709551616 + q1) * 18446744073709551616 + q2 = V / 2 ^ j / D → (r0 * 18446744073709551616 + r1) * 18446744073709551616 + r2 = V / 2 ^ j % D →
      ∃ p0 p1 p2 s1 s2 : Nat, wide_U192_Div.l0 (M + j + 1) ((j : Int) - 1) (a0 : Int) (a1 : Int) (a2 : Int) (q0 : Int) (q1 : Int) (q2 : Int) (r0 : Int) (r1 : Int) (r2 : Int) 0 (d1 : Int) (d2 : Int) = some ((p0 : Int), (p1 : Int), (p2 : Int), (s1 : Int), (s2 : Int)) ∧
        p0 < 18446744073709551616 ∧ p1 < 18446744073709551616 ∧ p2 < 18446744073709551616 ∧ s1 < 18446744073709551616 ∧ s2 < 18446744073709551616 ∧ (p0 * 18446744073709551616 + p1) * 18446744073709551616 + p2 = V / D ∧ s1 * 18446744073709551616 + s2 = V % D := by
  intro j
  induction j with
  | zero =>
    intro q0 q1 q2 r0 r1 r2 _ k0 k1 k2 l0 l1 l2 e1 e2
    rw [wide_U192_Div.l0, if_neg (by omega)]
    rw [Nat.pow_zero, Nat.div_one] at e1 e2
    have lt := Nat.mod_lt V hD0
    exact ⟨q0, q1, q2, r1, r2, rfl, k0, k1, k2, l1, l2, e1, dbc (fun _ => by omega)⟩
  | succ i ih =>
    intro q0 q1 q2 r0 r1 r2 hi k0 k1 k2 l0 l1 l2 e1 e2
    have vi : V / 2 ^ (i + 1) = V / 2 ^ i / 2 := by rw [Nat.pow_succ, Nat.div_div_eq_div_mul]
    rw [vi] at e1 e2
    obtain ⟨p0, p1, p2, s0, s1, s2, st, z0, z1, z2, z3, z4, z5, z6, z7⟩ := div192_step a0 a1 a2 d1 d2 h0 h1 h2 hd1 hd2 V D hV hD hD0 M hM i q0 q1 q2 r0 r1 r2 (by omega) k0 k1 k2 l0 l1 l2 (V / 2 ^ i) rfl e1 e2
    rw [show M + (i + 1) + 1 = M + i + 1 + 1 by omega, show ((i + 1 : Nat) : Int) - 1 = (i : Int) by omega, st]
    exact ih p0 p1 p2 s0 s1 s2 (by omega) z0 z1 z2 z3 z4 z5 z6 z7
/-- The quotient of three words by two, and what is left; by nought they are noughts. -/
theorem div192_f (k a0 a1 a2 d1 d2 : Nat) (h0 : a0 < 18446744073709551616) (h1 : a1 < 18446744073709551616) (h2 : a2 < 18446744073709551616) (hd1 : d1 < 18446744073709551616) (hd2 : d2 < 18446744073709551616) (hk : 300 ≤ k) (hD0 : 0 < d1 * 18446744073709551616 + d2) :
    ∃ p0 p1 p2 s1 s2 : Nat, wide_U192_Div.f k (a0 : Int) (a1 : Int) (a2 : Int) (d1 : Int) (d2 : Int) = some ((p0 : Int), (p1 : Int), (p2 : Int), (s1 : Int), (s2 : Int)) ∧
      p0 < 18446744073709551616 ∧ p1 < 18446744073709551616 ∧ p2 < 18446744073709551616 ∧ s1 < 18446744073709551616 ∧ s2 < 18446744073709551616 ∧ (p0 * 18446744073709551616 + p1) * 18446744073709551616 + p2 = ((a0 * 18446744073709551616 + a1) * 18446744073709551616 + a2) / (d1 * 18446744073709551616 + d2) ∧ s1 * 18446744073709551616 + s2 = ((a0 * 18446744073709551616 + a1) * 18446744073709551616 + a2) % (d1 * 18446744073709551616 + d2) := by
  obtain ⟨k, rfl⟩ : ∃ m, k = m + 1 := ⟨k - 1, by omega⟩
  unfold wide_U192_Div.f
  rw [beq0, beq0, if_neg (by simp; omega), len192_f k a0 a1 a2 h0 h1 h2, Option.bind_some]
  have hb := bl_le_of_lt ((a0 * 18446744073709551616 + a1) * 18446744073709551616 + a2) 192 (by omega)
  have hz : ((a0 * 18446744073709551616 + a1) * 18446744073709551616 + a2) / 2 ^ bl ((a0 * 18446744073709551616 + a1) * 18446744073709551616 + a2) = 0 := Nat.div_eq_of_lt (bl_lt _)
  rw [wrap_id (by omega) (by omega), show k + 1 = (k - bl ((a0 * 18446744073709551616 + a1) * 18446744073709551616 + a2)) + bl ((a0 * 18446744073709551616 + a1) * 18446744073709551616 + a2) + 1 by omega]
  exact div192_l0 a0 a1 a2 d1 d2 h0 h1 h2 hd1 hd2 _ _ rfl rfl hD0 _ (by omega) _ 0 0 0 0 0 0 hb (by omega) (by omega) (by omega) (by omega) (by omega) (by omega) (by rw [hz, Nat.zero_div]) (by rw [hz, Nat.zero_mod])
theorem div192_zero (k : Nat) (a0 a1 a2 : Int) : wide_U192_Div.f k a0 a1 a2 0 0 = some (0, 0, 0, 0, 0) := by
  unfold wide_U192_Div.f
  rw [if_pos (by rfl)]
end Go.Proofs.Ytdchdapllehppaa.Ev
end
section
set_option linter.unusedVariables false
set_option linter.unusedSimpArgs false
namespace Go.Proofs.Ytdchdapllehppaa.Ev
open Go.RowKit Go.Proofs.Ytdchdapllehppaa.PAll Go.Proofs.YtdchdapllehppaaW.PrintWords Go.Proofs.YtdchdapllehppaaW.PrintLast Go.Proofs.YtdchdapllehppaaW.PrintMore Go.Proofs.Ytdchdapllehppaa.Spec
theorem works_at : flyballlaw01_works.f 200 = some true := by kernel_rfl
theorem works_f (k : Nat) (hk : 200 ≤ k) : flyballlaw01_works.f k = some true := at_rounds flyballlaw01_works.mono hk works_at
theorem nat64 {x : Int} (h : (Lit.int .u64 x).wf = true) : ∃ n : Nat, x = (n : Int) ∧ n < 18446744073709551616 := by
  have : 0 ≤ x ∧ x < 18446744073709551616 := by
    have e := h
    simp [Lit.wf, Go.IntKind.min, Go.IntKind.max, Go.IntKind.signed, Go.IntKind.bits] at e
    omega
  exact ⟨x.toNat, by omega, by omega⟩
end Go.Proofs.Ytdchdapllehppaa.Ev
end
section
set_option linter.unusedVariables false
set_option linter.unusedSimpArgs false
namespace Go.Proofs.YtdchdapllehppaaAid
open Go.Deep Go.Joins Go.ChangeShapes Go.WideShapes Go.RowKit
section
variable {H : Type} {enc : TypeId × Value → H} {P : Program} {w : World} {base : Nat} {spare : Nat → Bool} {held : Bool}
theorem trod_uu {t : TypeId} {f0 f1 : Field} {n : Nat} {cs : List Value} {y : DataW H × List MemPlace} (hs : P.underlying t = some (.struct #[f0, f1])) (hone : oneCellFields P #[f0, f1] = true)
    (h0 : P.underlying f0.type = some (.int .u64)) (h1 : P.underlying f1.type = some (.int .u64)) (hl : cs.length = 2) (h : DataW.trod enc P w base spare held n t cs = some y) :
    ∃ (x0 x1 : Int), cs = [.int .u64 x0, .int .u64 x1] ∧ y = (.agg [.lit (.int .u64 x0), .lit (.int .u64 x1)], []) ∧ (Lit.int .u64 x0).wf = true ∧ (Lit.int .u64 x1).wf = true := by
  obtain ⟨xs, m, _, hx, _, hlen, hg⟩ := DataW.trod_struct hs h
  obtain ⟨o0, k0⟩ := hone_of hone 0 f0 rfl
  obtain ⟨o1, k1⟩ := hone_of hone 1 f1 rfl
  match cs, hl with
  | [c0, c1], _ =>
    match xs, hlen with
    | [y0, y1], _ =>
      have g0 : DataW.trod enc P w base spare held m f0.type [c0] = some y0 := by simpa [o0, k0] using hg 0 f0 rfl
      have g1 : DataW.trod enc P w base spare held m f1.type [c1] = some y1 := by simpa [o1, k1] using hg 1 f1 rfl
      obtain ⟨x0, e0, rfl, w0⟩ := DataW.trod_int h0 g0
      obtain ⟨x1, e1, rfl, w1⟩ := DataW.trod_int h1 g1
      simp only [List.cons.injEq, and_true] at e0 e1
      subst e0 e1
      exact ⟨x0, x1, rfl, by simpa using hx, w0, w1⟩
theorem trod_uu_mk {t : TypeId} {f0 f1 : Field} {x0 x1 : Int} (hs : P.underlying t = some (.struct #[f0, f1])) (hone : oneCellFields P #[f0, f1] = true) (hC : P.cellsOf t = 2)
    (h0 : P.underlying f0.type = some (.int .u64)) (h1 : P.underlying f1.type = some (.int .u64)) (w0 : (Lit.int .u64 x0).wf = true) (w1 : (Lit.int .u64 x1).wf = true) :
    DataW.trod enc P w base spare held 2 t [.int .u64 x0, .int .u64 x1] = some (.agg [.lit (.int .u64 x0), .lit (.int .u64 x1)], []) := by
  obtain ⟨o0, k0⟩ := hone_of hone 0 f0 rfl
  obtain ⟨o1, k1⟩ := hone_of hone 1 f1 rfl
  have := trod_struct2_mk (enc := enc) (w := w) (base := base) (spare := spare) (held := held) (n := 1) (cs := [.int .u64 x0, .int .u64 x1]) hs (by simp [hC])
    (by simpa [o0, k0] using trod_int_mk (enc := enc) (w := w) (base := base) (spare := spare) (held := held) 0 h0 w0) (by simpa [o1, k1] using trod_int_mk (enc := enc) (w := w) (base := base) (spare := spare) (held := held) 0 h1 w1)
  simpa using this
theorem open_uu {r : Reach} {b0 : Nat} {t : TypeId} {f0 f1 : Field} {v : Value} {d : DataW H} {p : List MemPlace} (hs : P.underlying t = some (.struct #[f0, f1])) (hone : oneCellFields P #[f0, f1] = true) (hC : P.cellsOf t = 2)
    (h0 : P.underlying f0.type = some (.int .u64)) (h1 : P.underlying f1.type = some (.int .u64))
    (hv : Value.okWide P w r b0 t v) (h : DataW.Trod enc P w base spare held t v d p) :
    ∃ (x0 x1 : Int), v = .agg #[.int .u64 x0, .int .u64 x1] ∧ d = .agg [.lit (.int .u64 x0), .lit (.int .u64 x1)] ∧ p = [] ∧ (Lit.int .u64 x0).wf = true ∧ (Lit.int .u64 x1).wf = true := by
  obtain ⟨cs, rfl, hsz⟩ := okWide_struct hs hv
  obtain ⟨l⟩ := cs
  obtain ⟨fuel, hf⟩ := h
  obtain ⟨x0, x1, e, ey, w0, w1⟩ := trod_uu hs hone h0 h1 (hsz.trans hC) hf
  simp only [Prod.mk.injEq] at ey
  have e' : l = [.int .u64 x0, .int .u64 x1] := by simpa [Value.cells] using e
  subst e'
  exact ⟨x0, x1, rfl, ey.1, ey.2, w0, w1⟩
theorem shut_uu {t : TypeId} {f0 f1 : Field} {x0 x1 : Int} (hs : P.underlying t = some (.struct #[f0, f1])) (hone : oneCellFields P #[f0, f1] = true) (hC : P.cellsOf t = 2)
    (h0 : P.underlying f0.type = some (.int .u64)) (h1 : P.underlying f1.type = some (.int .u64)) (w0 : (Lit.int .u64 x0).wf = true) (w1 : (Lit.int .u64 x1).wf = true) :
    DataW.Trod enc P w base spare held t (.agg #[.int .u64 x0, .int .u64 x1]) (.agg [.lit (.int .u64 x0), .lit (.int .u64 x1)]) [] :=
  ⟨2, by simpa [Value.cells] using trod_uu_mk (enc := enc) (w := w) (base := base) (spare := spare) (held := held) hs hone hC h0 h1 w0 w1⟩
end
end Go.Proofs.YtdchdapllehppaaAid
end
section
set_option linter.unusedVariables false
set_option linter.unusedSimpArgs false
namespace Go.Proofs.Ytdchdapllehppaa.Pure
open Go.RowKit Go.Proofs.Ytdchdapllehppaa.PAll Go.Proofs.YtdchdapllehppaaW.PrintWords Go.Proofs.YtdchdapllehppaaW.PrintLast Go.Proofs.YtdchdapllehppaaW.PrintMore Go.Proofs.Ytdchdapllehppaa.Spec Go.Proofs.Ytdchdapllehppaa.Ev
theorem nat_i64 {x : Int} (h : (Lit.int .i64 x).wf = true) : -9223372036854775808 ≤ x ∧ x ≤ 9223372036854775807 := by
  have e := h
  simp [Lit.wf, Go.IntKind.min, Go.IntKind.max, Go.IntKind.signed, Go.IntKind.bits] at e
  omega
theorem WideBack (a0_0 a0_1 a1 a2 : Int) (w0 : (Lit.int .u64 a0_0).wf = true) (w1 : (Lit.int .u64 a0_1).wf = true) (w2 : (Lit.int .u64 a1).wf = true) (w3 : (Lit.int .i64 a2).wf = true) : ∃ k, flyballlaw01_WideBack.f k a0_0 a0_1 a1 a2 = some true := by
  obtain ⟨a, rfl, ha⟩ := nat64 w0
  obtain ⟨b, rfl, hb⟩ := nat64 w1
  obtain ⟨c, rfl, hc⟩ := nat64 w2
  obtain ⟨n1, n2⟩ := nat_i64 w3
  refine ⟨5000 + 1, ?_⟩
  obtain ⟨r, s, e, f1, f2, f3, f4, f5⟩ := add128_f a b 0 c ha hb (by omega) hc
  obtain ⟨u, v, x, g1, g2, g3, g4, g5⟩ := sub128_f r s 0 c f2 f3 (by omega) hc
  obtain ⟨m0, m1, m2, h1, h2, h3, h4, h5⟩ := mul128_f a b c ha hb hc
  have hu : u = a := dbc (fun _ => by omega)
  have hv : v = b := dbc (fun _ => by omega)
  obtain ⟨V, hV⟩ : ∃ V, a * 18446744073709551616 + b = V := ⟨_, rfl⟩
  have bl1 := bl_le_of_lt V 128 (by omega)
  obtain ⟨kk, hk, hk2⟩ : ∃ kk : Nat, mn (mx a2 0) (wrap64 (128 - ((bl V : Nat) : Int))) = (kk : Int) ∧ kk ≤ 128 - bl V := by
    rw [mn_eq, mx_eq, wrap_id (by omega) (by omega)]
    exact ⟨(min (max a2 0) (128 - ((bl V : Nat) : Int))).toNat, by omega, by omega⟩
  obtain ⟨y0, y1, k1, k2, k3, k4⟩ := shl128_f (5000 + 1) a b (kk : Int) ha hb (by omega) (by omega) (by omega)
  obtain ⟨z0, z1, l1, l2, l3, l4⟩ := shr128_f (5000 + 1) y0 y1 (kk : Int) k2 k3 (by omega) (by omega) (by omega)
  have up : V * 2 ^ kk < 340282366920938463463374607431768211456 := by
    have p := Nat.two_pow_pos kk
    have h := bl_lt V
    have : V * 2 ^ kk < 2 ^ bl V * 2 ^ kk := Nat.mul_lt_mul_of_pos_right h p
    rw [← Nat.pow_add] at this
    exact Nat.lt_of_lt_of_le this (Nat.le_trans (Nat.pow_le_pow_right (by omega) (show bl V + kk ≤ 128 by omega)) (by decide))
  rw [hV, Int.toNat_natCast, Nat.mod_eq_of_lt up] at k4
  rw [k4, Int.toNat_natCast, Nat.mul_mod_left] at l1
  rw [k4, Int.toNat_natCast, Nat.mul_div_cancel _ (Nat.two_pow_pos kk), ← hV] at l4
  have hz0 : z0 = a := dbc (fun _ => by omega)
  have hz1 : z1 = b := dbc (fun _ => by omega)
  subst hu hv hz0 hz1
  have dv : ∃ p0 p1 p2 s1 s2 : Int, wide_U192_Div.f (5000 + 1) (m0 : Int) (m1 : Int) (m2 : Int) 0 (c : Int) = some (p0, p1, p2, s1, s2) ∧ ((c = 0 ∧ p0 = 0 ∧ p1 = 0 ∧ p2 = 0) ∨ (c ≠ 0 ∧ p0 = 0 ∧ p1 = (z0 : Int) ∧ p2 = (z1 : Int) ∧ s1 = 0 ∧ s2 = 0)) := by
    by_cases z : c = 0
    · subst z
      exact ⟨0, 0, 0, 0, 0, div192_zero _ _ _ _, .inl ⟨rfl, rfl, rfl, rfl⟩⟩
    · obtain ⟨p0, p1, p2, s1, s2, q, q0, q1, q2, q3, q4, q5, q6⟩ := div192_f (5000 + 1) m0 m1 m2 0 c h2 h3 h4 (by omega) hc (by omega) (by omega)
      rw [h5, Nat.zero_mul, Nat.zero_add, Nat.mul_div_cancel _ (by omega)] at q5
      rw [h5, Nat.zero_mul, Nat.zero_add, Nat.mul_mod_left] at q6
      refine ⟨_, _, _, _, _, q, .inr ⟨z, ?_, ?_, ?_, ?_, ?_⟩⟩
      · have : p0 = 0 := dbc (fun _ => by omega)
        rw [this]; rfl
      · have : p1 = z0 := dbc (fun _ => by omega)
        rw [this]
      · have : p2 = z1 := dbc (fun _ => by omega)
        rw [this]
      · have : s1 = 0 := dbc (fun _ => by omega)
        rw [this]; rfl
      · have : s2 = 0 := dbc (fun _ => by omega)
        rw [this]; rfl
  obtain ⟨p0, p1, p2, s1, s2, q, hq⟩ := dv
  have f1' : wide_U128_Add.f (z0 : Int) (z1 : Int) 0 (c : Int) = some ((r : Int), (s : Int), (e : Int)) := f1
  have g1' : wide_U128_Sub.f (r : Int) (s : Int) 0 (c : Int) = some ((z0 : Int), (z1 : Int), (x : Int)) := g1
  unfold flyballlaw01_WideBack.f
  rw [works_f _ (by omega), Option.bind_some, if_pos rfl, f1', Option.bind_some]
  dsimp only
  rw [g1', Option.bind_some, h1, Option.bind_some]
  dsimp only
  rw [q, Option.bind_some, len128_f 5000 z0 z1 ha hb, Option.bind_some, hV, hk, k1, Option.bind_some]
  dsimp only
  rw [l1, Option.bind_some]
  dsimp only
  rcases hq with ⟨rfl, rfl, rfl, rfl⟩ | ⟨z, rfl, rfl, rfl, rfl, rfl⟩
  · by_cases g : ((0 : Int) == 0 && (0 == (z0 : Int) && (0 == (z1 : Int)))) = true
    · rw [if_pos g, if_pos (by simp), if_pos (by rfl), if_pos (by simp)]; simp
    · rw [if_neg g, if_pos (by simp), if_pos (by rfl), if_pos (by simp)]; simp
  · rw [if_pos (by simp), if_pos (by simp), if_neg (by omega), if_pos (by rfl), if_pos (by simp)]; simp
end Go.Proofs.Ytdchdapllehppaa.Pure
end
