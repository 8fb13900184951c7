/- What the claim needs of several texts, in one. -/
import Derived.Laws.BitsLemmas
import Derived.KernelRfl
import Derived.WalkKit
import Derived.ProofKit
import Derived.OpenShut
import Derived.ShutString
import Derived.ChangeOld
import Derived.Below
import Derived.SizedLaws
import Derived.Lib.SmallJoins
import Derived.Test.YtdchdapllehppaaZVW
import Derived.Test.YtdchdapllehppaaZVx0
import Derived.Test.YtdchdapllehppaaZVx1
import Derived.Test.YtdchdapllehppaaZVx2
import Derived.Test.YtdchdapllehppaaZVx3
import Derived.Test.YtdchdapllehppaaZVx4
import Derived.Test.YtdchdapllehppaaZVx5
import Derived.Test.YtdchdapllehppaaZVx6
import Derived.Test.YtdchdapllehppaaZVx7
import Derived.Test.YtdchdapllehppaaZVx8
import Derived.Test.YtdchdapllehppaaZVx9
import Derived.Test.YtdchdapllehppaaZVx11
import Derived.Test.YtdchdapllehppaaZVx17
import Derived.Test.YtdchdapllehppaaZVx23
namespace Go.Proofs.Ytdchdapllehppaa.Ev
end Go.Proofs.Ytdchdapllehppaa.Ev
namespace Go.Proofs.Ytdchdapllehppaa.PAll
end Go.Proofs.Ytdchdapllehppaa.PAll
namespace Go.Proofs.Ytdchdapllehppaa.Spec
end Go.Proofs.Ytdchdapllehppaa.Spec
section
set_option linter.unusedVariables false
set_option linter.unusedSimpArgs false
namespace Go.Proofs.Ytdchdapllehppaa.Ev
open Go.RowKit Go.Proofs.Ytdchdapllehppaa.PAll Go.Proofs.YtdchdapllehppaaW.PrintWords Go.Proofs.YtdchdapllehppaaW.PrintLast Go.Proofs.YtdchdapllehppaaW.PrintMore Go.Proofs.Ytdchdapllehppaa.Spec
theorem wrap_id {x : Int} (h : -9223372036854775808 ≤ x) (h' : x ≤ 9223372036854775807) : wrap64 x = x := by unfold wrap64; omega
theorem wrap_succ (i : Nat) (h : i ≤ 100000) : wrap64 ((i : Int) + 1) = ((i + 1 : Nat) : Int) := by rw [wrap_id (by omega) (by omega)]; omega
def cmpN (a b : Nat) : Int := if a < b then -1 else if b < a then 1 else 0
end Go.Proofs.Ytdchdapllehppaa.Ev
end
section
set_option linter.unusedVariables false
set_option linter.unusedSimpArgs false
namespace Go.Proofs.Ytdchdapllehppaa.Ev
open Go.RowKit Go.Proofs.Ytdchdapllehppaa.PAll Go.Proofs.YtdchdapllehppaaW.PrintWords Go.Proofs.YtdchdapllehppaaW.PrintLast Go.Proofs.YtdchdapllehppaaW.PrintMore Go.Proofs.Ytdchdapllehppaa.Spec
theorem wrap_u64 (n : Int) : IntKind.u64.wrap n = n % 18446744073709551616 := by simp [IntKind.wrap, IntKind.bits, IntKind.signed]
theorem wrapN (n : Nat) : IntKind.u64.wrap (n : Int) = ((n % 18446744073709551616 : Nat) : Int) := by rw [wrap_u64]; omega
theorem shr_nat (x n : Nat) (h : n ≤ 64) : shr .u64 (x : Int) (n : Int) = ((x / 2 ^ n : Nat) : Int) := by
  unfold shr
  rw [show min (n : Int).toNat (IntKind.bits .u64) = n by simp [IntKind.bits]; omega]
  simp
theorem shl_nat (x n : Nat) (h : n ≤ 64) : shl .u64 (x : Int) (n : Int) = ((x * 2 ^ n % 18446744073709551616 : Nat) : Int) := by
  unfold shl
  rw [show min (n : Int).toNat (IntKind.bits .u64) = n by simp [IntKind.bits]; omega, ← wrapN]
  simp
theorem and_nat (a b : Nat) (ha : a < 18446744073709551616) (hb : b < 18446744073709551616) : Go.bits .and .u64 (a : Int) (b : Int) = ((a &&& b : Nat) : Int) :=
  (Go.bits_nat .u64 64 (by decide) (fun n h h' => by rw [wrap_u64]; omega) a b ha hb).1
theorem or_nat (a b : Nat) (ha : a < 18446744073709551616) (hb : b < 18446744073709551616) : Go.bits .or .u64 (a : Int) (b : Int) = ((a ||| b : Nat) : Int) :=
  (Go.bits_nat .u64 64 (by decide) (fun n h h' => by rw [wrap_u64]; omega) a b ha hb).2
theorem and_mask (a : Nat) (ha : a < 18446744073709551616) : Go.bits .and .u64 (a : Int) 4294967295 = ((a % 4294967296 : Nat) : Int) := by
  have := and_nat a 4294967295 ha (by omega)
  rw [show (4294967295 : Nat) = 2 ^ 32 - 1 by decide, Nat.and_two_pow_sub_one_eq_mod] at this
  exact this
theorem or_plus (i q b : Nat) (hb : b < 2 ^ i) (h : 2 ^ i * q < 18446744073709551616) (hb' : b < 18446744073709551616) : Go.bits .or .u64 ((2 ^ i * q : Nat) : Int) (b : Int) = ((2 ^ i * q + b : Nat) : Int) := by
  rw [or_nat _ _ h hb', Nat.two_pow_add_eq_or_of_lt hb]
end Go.Proofs.Ytdchdapllehppaa.Ev
end
section
set_option linter.unusedVariables false
set_option linter.unusedSimpArgs false
namespace Go.Proofs.Ytdchdapllehppaa.Ev
open Go.RowKit Go.Proofs.Ytdchdapllehppaa.PAll Go.Proofs.YtdchdapllehppaaW.PrintWords Go.Proofs.YtdchdapllehppaaW.PrintLast Go.Proofs.YtdchdapllehppaaW.PrintMore Go.Proofs.Ytdchdapllehppaa.Spec
theorem and_mask' (a : Nat) : Go.bits .and .u64 ((a % 18446744073709551616 : Nat) : Int) 4294967295 = ((a % 4294967296 : Nat) : Int) := by rw [and_mask _ (by omega)]; omega
theorem half (a : Nat) : (a : Int) / 4294967296 = ((a / 4294967296 : Nat) : Int) := by omega
theorem mul64_plain (p q r s : Nat) (hp : p ≤ 18446744065119617025) (hq : q ≤ 18446744065119617025) (hr : r ≤ 18446744065119617025) (hs : s ≤ 18446744065119617025) :
    (((p % 18446744073709551616 + ((q % 18446744073709551616 + r % 18446744073709551616 / 4294967296) % 18446744073709551616 / 4294967296)) % 18446744073709551616 + (((q % 18446744073709551616 + r % 18446744073709551616 / 4294967296) % 4294967296 + s % 18446744073709551616) % 18446744073709551616 / 4294967296)) % 18446744073709551616) =
      (p * 18446744073709551616 + (q + s) * 4294967296 + r) / 18446744073709551616 := by omega
theorem half_le (a b : Nat) (ha : a < 4294967296) (hb : b < 4294967296) : a * b ≤ 18446744065119617025 := Nat.mul_le_mul (show a ≤ 4294967295 by omega) (show b ≤ 4294967295 by omega)
theorem split_mul (a b : Nat) : a * b = (a / 4294967296) * (b / 4294967296) * 18446744073709551616 + ((a / 4294967296) * (b % 4294967296) + (a % 4294967296) * (b / 4294967296)) * 4294967296 + (a % 4294967296) * (b % 4294967296) := by
  have ea := Nat.div_add_mod a 4294967296
  have eb := Nat.div_add_mod b 4294967296
  generalize a / 4294967296 = a1 at *
  generalize a % 4294967296 = a0 at *
  generalize b / 4294967296 = b1 at *
  generalize b % 4294967296 = b0 at *
  subst ea eb
  rw [Nat.mul_add, Nat.add_mul, Nat.add_mul]
  have e1 : 4294967296 * a1 * (4294967296 * b1) = a1 * b1 * 18446744073709551616 := by
    rw [Nat.mul_mul_mul_comm, Nat.mul_comm]
  have e2 : a0 * (4294967296 * b1) = 4294967296 * (a0 * b1) := Nat.mul_left_comm _ _ _
  have e3 : 4294967296 * a1 * b0 = 4294967296 * (a1 * b0) := Nat.mul_assoc _ _ _
  rw [e1, e2, e3]
  omega
/-- A product, whole. -/
theorem mul64_f (a b : Nat) (ha : a < 18446744073709551616) (hb : b < 18446744073709551616) : bits_Mul64.f (a : Int) (b : Int) = some (((a * b / 18446744073709551616 : Nat) : Int), ((a * b % 18446744073709551616 : Nat) : Int)) := by
  unfold bits_Mul64.f
  simp only [and_mask a ha, and_mask b hb, half, ← Int.natCast_mul, ← Int.natCast_add, wrapN, and_mask']
  have h := mul64_plain ((a / 4294967296) * (b / 4294967296)) ((a / 4294967296) * (b % 4294967296)) ((a % 4294967296) * (b % 4294967296)) ((a % 4294967296) * (b / 4294967296))
    (half_le _ _ (by omega) (by omega)) (half_le _ _ (by omega) (by omega)) (half_le _ _ (by omega) (by omega)) (half_le _ _ (by omega) (by omega))
  rw [h, ← split_mul]
theorem wmul_f (a b : Nat) (ha : a < 18446744073709551616) (hb : b < 18446744073709551616) : wide_Mul.f (a : Int) (b : Int) = some (((a * b / 18446744073709551616 : Nat) : Int), ((a * b % 18446744073709551616 : Nat) : Int)) := by
  unfold wide_Mul.f
  rw [mul64_f a b ha hb]; rfl
theorem add64_f (a b c : Nat) (hc : c ≤ 1) : bits_Add64.f (a : Int) (b : Int) (c : Int) = some ((((a + b + c) % 18446744073709551616 : Nat) : Int), (((a + b + c) / 18446744073709551616 : Nat) : Int)) := by
  unfold bits_Add64.f
  rw [if_pos (by omega)]; rfl
theorem sub64_f (a b c : Nat) (hb : b < 18446744073709551616) (hc : c ≤ 1) : bits_Sub64.f (a : Int) (b : Int) (c : Int) = some ((((a + 18446744073709551616 - b - c) % 18446744073709551616 : Nat) : Int), (((if a < b + c then 1 else 0) : Nat) : Int)) := by
  unfold bits_Sub64.f
  rw [if_pos (by omega)]
  by_cases h : a < b + c
  · rw [if_pos h, if_pos (by omega)]; congr 2; omega
  · rw [if_neg h, if_neg (by omega)]; congr 2; omega
end Go.Proofs.Ytdchdapllehppaa.Ev
end
section
set_option linter.unusedVariables false
set_option linter.unusedSimpArgs false
namespace Go.Proofs.Ytdchdapllehppaa.Ev
open Go.RowKit Go.Proofs.Ytdchdapllehppaa.PAll Go.Proofs.YtdchdapllehppaaW.PrintWords Go.Proofs.YtdchdapllehppaaW.PrintLast Go.Proofs.YtdchdapllehppaaW.PrintMore Go.Proofs.Ytdchdapllehppaa.Spec
/-- A digit of a quotient. -/
def dg (u w v1 v0 : Nat) : Nat := (u * 4294967296 + w) / (v1 * 4294967296 + v0)
theorem plain_lt (a b rh w u l : Nat) (h : a + rh = u) (g : rh * l + w < b) : u * l + w < a * l + b := by
  subst h
  rw [Nat.add_mul]
  omega
/-- A digit being guessed: d = v1 * 2^32 + v0 (its top bit is one), u < d, w a digit; q the guess, at least the quotient of u * 2^32 + w; rh = u - q * v1. -/
structure Guess (v1 v0 u w q rh : Nat) : Prop where
  v1b : 2147483648 ≤ v1
  v1t : v1 < 4294967296
  v0t : v0 < 4294967296
  wt : w < 4294967296
  ud : u < v1 * 4294967296 + v0
  eq : q * v1 + rh = u
  ge : dg u w v1 v0 ≤ q
theorem Guess.mulD (v1 v0 q : Nat) : q * (v1 * 4294967296 + v0) = q * v1 * 4294967296 + q * v0 := by rw [Nat.mul_add, Nat.mul_assoc]
/-- The guess is too great, seen at the second digit. -/
theorem Guess.over {v1 v0 u w q rh : Nat} (h : Guess v1 v0 u w q rh) (g : rh * 4294967296 + w < q * v0) : dg u w v1 v0 + 1 ≤ q := by
  have := h.v1b; have e := h.eq
  have : dg u w v1 v0 < q := by
    refine (Nat.div_lt_iff_lt_mul (k := v1 * 4294967296 + v0) (by omega)).2 ?_
    rw [Guess.mulD]
    exact plain_lt _ _ _ _ _ _ e g
  omega
/-- The guess is not too great. -/
theorem Guess.right {v1 v0 u w q rh : Nat} (h : Guess v1 v0 u w q rh) (g : q * v0 ≤ rh * 4294967296 + w) : dg u w v1 v0 = q := by
  have := h.v1b; have e := h.eq
  have g1 := h.ge
  have : q ≤ dg u w v1 v0 := by
    refine (Nat.le_div_iff_mul_le (k := v1 * 4294967296 + v0) (by omega)).2 ?_
    rw [Guess.mulD]
    omega
  omega
theorem Guess.first (v1 v0 u w : Nat) (b : 2147483648 ≤ v1) (t : v1 < 4294967296) (t0 : v0 < 4294967296) (tw : w < 4294967296) (ud : u < v1 * 4294967296 + v0) : Guess v1 v0 u w (u / v1) (u % v1) where
  v1b := b
  v1t := t
  v0t := t0
  wt := tw
  ud := ud
  eq := by rw [Nat.mul_comm]; exact Nat.div_add_mod u v1
  ge := by
    rw [Nat.le_div_iff_mul_le (by omega)]
    have h : dg u w v1 v0 * (v1 * 4294967296 + v0) ≤ u * 4294967296 + w := Nat.div_mul_le_self _ _
    rw [Guess.mulD] at h
    have : dg u w v1 v0 * v1 * 4294967296 < (u + 1) * 4294967296 := by omega
    have := Nat.lt_of_mul_lt_mul_right this
    omega
theorem Guess.u64 {v1 v0 u w q rh : Nat} (h : Guess v1 v0 u w q rh) : q < 18446744073709551616 ∧ u < 18446744073709551616 := by
  have := h.v1t; have := h.v0t; have := h.v1b; have := h.ud; have e := h.eq
  refine ⟨?_, by omega⟩
  have : q * 1 ≤ q * v1 := Nat.mul_le_mul_left q (by omega)
  omega
end Go.Proofs.Ytdchdapllehppaa.Ev
end
section
set_option linter.unusedVariables false
set_option linter.unusedSimpArgs false
namespace Go.Proofs.Ytdchdapllehppaa.Ev
open Go.RowKit Go.Proofs.Ytdchdapllehppaa.PAll Go.Proofs.YtdchdapllehppaaW.PrintWords Go.Proofs.YtdchdapllehppaaW.PrintLast Go.Proofs.YtdchdapllehppaaW.PrintMore Go.Proofs.Ytdchdapllehppaa.Spec
theorem pow_split (s : Nat) (hs : s ≤ 64) : 2 ^ s * 2 ^ (64 - s) = 18446744073709551616 := by rw [← Nat.pow_add, show s + (64 - s) = 64 by omega]
theorem shl_plain (hi lo p q b : Nat) (e : p * q = b) : (hi * p + lo / q) * b + lo * p % b = (hi * b + lo) * p := by
  have e2 : lo * p % b = lo % q * p := by rw [← e, Nat.mul_comm p q, Nat.mul_mod_mul_right]
  have e3 := Nat.div_add_mod lo q
  have e4 : lo / q * b = q * (lo / q) * p := by rw [← e, Nat.mul_comm p q, ← Nat.mul_assoc, Nat.mul_comm (lo / q) q]
  have e5 : lo * p = q * (lo / q) * p + lo % q * p := by rw [← Nat.add_mul, e3]
  have e6 : hi * p * b = hi * b * p := Nat.mul_right_comm _ _ _
  rw [e2, Nat.add_mul, e4, Nat.add_mul, e5, e6, Nat.add_assoc]
/-- Two words shifted up. -/
theorem shl_two (hi lo s : Nat) (hs : s ≤ 64) :
    (hi * 2 ^ s + lo / 2 ^ (64 - s)) * 18446744073709551616 + lo * 2 ^ s % 18446744073709551616 = (hi * 18446744073709551616 + lo) * 2 ^ s := shl_plain hi lo _ _ _ (pow_split s hs)
end Go.Proofs.Ytdchdapllehppaa.Ev
end
section
set_option linter.unusedVariables false
set_option linter.unusedSimpArgs false
namespace Go.Proofs.Ytdchdapllehppaa.Ev
open Go.RowKit Go.Proofs.Ytdchdapllehppaa.PAll Go.Proofs.YtdchdapllehppaaW.PrintWords Go.Proofs.YtdchdapllehppaaW.PrintLast Go.Proofs.YtdchdapllehppaaW.PrintMore Go.Proofs.Ytdchdapllehppaa.Spec
theorem cmpN_le (a b : Nat) : (cmpN a b ≤ 0) ↔ a ≤ b := by unfold cmpN; split <;> (try split) <;> omega
theorem root_step (N s i : Nat) (hi : N < (s + 2 ^ (i + 1)) * (s + 2 ^ (i + 1))) (h : (s + 2 ^ i) * (s + 2 ^ i) ≤ N) : N < ((s + 2 ^ i) + 2 ^ i) * ((s + 2 ^ i) + 2 ^ i) := by
  have e : s + 2 ^ i + 2 ^ i = s + 2 ^ (i + 1) := by rw [Nat.pow_succ]; omega
  rw [e]; exact hi
end Go.Proofs.Ytdchdapllehppaa.Ev
end
section
set_option linter.unusedVariables false
set_option linter.unusedSimpArgs false
namespace Go.Proofs.Ytdchdapllehppaa.Ev
open Go.RowKit Go.Proofs.Ytdchdapllehppaa.PAll Go.Proofs.YtdchdapllehppaaW.PrintWords Go.Proofs.YtdchdapllehppaaW.PrintLast Go.Proofs.YtdchdapllehppaaW.PrintMore Go.Proofs.Ytdchdapllehppaa.Spec
theorem add128_f (a b c d : Nat) (ha : a < 18446744073709551616) (hb : b < 18446744073709551616) (hc : c < 18446744073709551616) (hd : d < 18446744073709551616) :
    ∃ r s e : Nat, wide_U128_Add.f (a : Int) (b : Int) (c : Int) (d : Int) = some ((r : Int), (s : Int), (e : Int)) ∧ r < 18446744073709551616 ∧ s < 18446744073709551616 ∧ e ≤ 1 ∧ (e * 18446744073709551616 + r) * 18446744073709551616 + s = (a * 18446744073709551616 + b) + (c * 18446744073709551616 + d) := by
  unfold wide_U128_Add.f
  rw [show ((0 : Int)) = ((0 : Nat) : Int) from rfl, add64_f b d 0 (by omega), Option.bind_some]
  dsimp only
  rw [add64_f a c _ (by omega), Option.bind_some]
  exact ⟨_, _, _, rfl, by omega, by omega, by omega, by omega⟩
theorem sub128_f (a b c d : Nat) (ha : a < 18446744073709551616) (hb : b < 18446744073709551616) (hc : c < 18446744073709551616) (hd : d < 18446744073709551616) :
    ∃ r s e : Nat, wide_U128_Sub.f (a : Int) (b : Int) (c : Int) (d : Int) = some ((r : Int), (s : Int), (e : Int)) ∧ r < 18446744073709551616 ∧ s < 18446744073709551616 ∧ e ≤ 1 ∧ (r * 18446744073709551616 + s) + (c * 18446744073709551616 + d) = (e * 18446744073709551616 + a) * 18446744073709551616 + b := by
  unfold wide_U128_Sub.f
  rw [show ((0 : Int)) = ((0 : Nat) : Int) from rfl, sub64_f b d 0 (by omega) (by omega), Option.bind_some]
  dsimp only
  have one : ∀ p : Prop, [Decidable p] → (if p then 1 else 0 : Nat) ≤ 1 := fun p _ => by split <;> omega
  rw [sub64_f a c _ (by omega) (one _), Option.bind_some]
  refine ⟨_, _, _, rfl, by omega, by omega, one _, ?_⟩
  obtain ⟨x, hx, hx1⟩ : ∃ x, (if b < d + 0 then 1 else 0 : Nat) = x ∧ ((x = 1 ∧ b < d) ∨ (x = 0 ∧ d ≤ b)) := by
    refine ⟨_, rfl, ?_⟩; split <;> omega
  rw [hx]
  obtain ⟨y, hy, hy1⟩ : ∃ y, (if a < c + x then 1 else 0 : Nat) = y ∧ ((y = 1 ∧ a < c + x) ∨ (y = 0 ∧ c + x ≤ a)) := by
    refine ⟨_, rfl, ?_⟩; split <;> omega
  rw [hy]
  omega
theorem ord_step (k : Nat) (l : List S82) (i : Nat) (hi : i < l.length) (hl : l.length ≤ 10) (x y : Nat) (hx : l[i]? = some ⟨(x : Int), (y : Int)⟩) :
    wide_order.l0 (k + 1) l (l.length : Int) (i : Int) = if x < y then some (-1) else if y < x then some 1 else wide_order.l0 k l (l.length : Int) ((i + 1 : Nat) : Int) := by
  have e : rd_T82 l (i : Int) = ⟨(x : Int), (y : Int)⟩ := by unfold rd_T82; simp [List.getD_eq_getElem?_getD, hx]
  rw [wide_order.l0, if_pos (by omega), if_pos (by omega), if_pos (by omega), e, wrap_succ i (by omega)]
  by_cases h : x < y
  · rw [if_pos (by simpa using h), if_pos h]
  · rw [if_neg (by simpa using h), if_neg h]
    by_cases g : y < x
    · rw [if_pos (by simpa using g), if_pos g]
    · rw [if_neg (by simpa using g), if_neg g]
theorem ord_end (k : Nat) (l : List S82) : wide_order.l0 (k + 1) l (l.length : Int) (l.length : Int) = some 0 := by rw [wide_order.l0, if_neg (by omega)]
theorem cmp128_f (k a b c d : Nat) (hb : b < 18446744073709551616) (hd : d < 18446744073709551616) : wide_U128_Cmp.f (k + 3) (a : Int) (b : Int) (c : Int) (d : Int) = some (cmpN (a * 18446744073709551616 + b) (c * 18446744073709551616 + d)) := by
  unfold wide_U128_Cmp.f wide_order.f
  have h0 := ord_step (k + 2) [⟨(a : Int), (c : Int)⟩, ⟨(b : Int), (d : Int)⟩] 0 (by simp) (by simp) a c rfl
  have h1 := ord_step (k + 1) [⟨(a : Int), (c : Int)⟩, ⟨(b : Int), (d : Int)⟩] 1 (by simp) (by simp) b d rfl
  have h2 := ord_end k [⟨(a : Int), (c : Int)⟩, ⟨(b : Int), (d : Int)⟩]
  rw [show (0 : Int) = ((0 : Nat) : Int) from rfl, h0, h1, show ((1 + 1 : Nat) : Int) = (([⟨(a : Int), (c : Int)⟩, ⟨(b : Int), (d : Int)⟩] : List S82).length : Int) from rfl, h2]
  unfold cmpN
  by_cases g1 : a < c
  · rw [if_pos g1, if_pos (by omega)]; rfl
  · rw [if_neg g1]
    by_cases g2 : c < a
    · rw [if_pos g2, if_neg (by omega), if_pos (by omega)]; rfl
    · rw [if_neg g2]
      by_cases g3 : b < d
      · rw [if_pos g3, if_pos (by omega)]; rfl
      · rw [if_neg g3]
        by_cases g4 : d < b
        · rw [if_pos g4, if_neg (by omega), if_pos (by omega)]; rfl
        · rw [if_neg g4, if_neg (by omega), if_neg (by omega)]; rfl
end Go.Proofs.Ytdchdapllehppaa.Ev
end
section
set_option linter.unusedVariables false
set_option linter.unusedSimpArgs false
namespace Go.Proofs.Ytdchdapllehppaa.Ev
open Go.RowKit Go.Proofs.Ytdchdapllehppaa.PAll Go.Proofs.YtdchdapllehppaaW.PrintWords Go.Proofs.YtdchdapllehppaaW.PrintLast Go.Proofs.YtdchdapllehppaaW.PrintMore Go.Proofs.Ytdchdapllehppaa.Spec
theorem beq0 (a : Nat) : ((a : Int) == 0) = decide (a = 0) := by
  by_cases h : a = 0
  · subst h; rfl
  · rw [decide_eq_false h]; simp; omega
theorem pow_more (n : Nat) (h : 64 ≤ n) : 2 ^ n = 18446744073709551616 * 2 ^ (n - 64) := by
  rw [show (18446744073709551616 : Nat) = 2 ^ 64 by decide, ← Nat.pow_add, show 64 + (n - 64) = n by omega]
end Go.Proofs.Ytdchdapllehppaa.Ev
end
section
set_option linter.unusedVariables false
set_option linter.unusedSimpArgs false
namespace Go.Proofs.Ytdchdapllehppaa.Ev
open Go.RowKit Go.Proofs.Ytdchdapllehppaa.PAll Go.Proofs.YtdchdapllehppaaW.PrintWords Go.Proofs.YtdchdapllehppaaW.PrintLast Go.Proofs.YtdchdapllehppaaW.PrintMore Go.Proofs.Ytdchdapllehppaa.Spec
theorem mod_add_small (x y b : Nat) (h : x % b + y < b) : (x + y) % b = x % b + y := by rw [Nat.add_mod, Nat.mod_eq_of_lt (a := y) (by omega), Nat.mod_eq_of_lt h]
theorem over_plain (a b l : Nat) : (a * l + b) * l % (l * l) = b * l % (l * l) := by
  rw [Nat.add_mul, Nat.mul_assoc, Nat.mul_comm a, Nat.mul_add_mod]
/-- A word shifted up, and what comes in from the word below. -/
theorem word_shl (hi lo n : Nat) (h0 : 0 < n) (hn : n < 64) (hl : lo < 18446744073709551616) :
    Go.bits .or .u64 ((hi * 2 ^ n % 18446744073709551616 : Nat) : Int) (shr .u64 (lo : Int) ((64 - n : Nat) : Int)) = (((hi * 2 ^ n + lo / 2 ^ (64 - n)) % 18446744073709551616 : Nat) : Int) := by
  rw [shr_nat lo (64 - n) (by omega)]
  have ps := pow_split n (by omega)
  have hp := Nat.two_pow_pos n
  have hq := Nat.two_pow_pos (64 - n)
  have l1 : lo / 2 ^ (64 - n) < 2 ^ n := by rw [Nat.div_lt_iff_lt_mul hq, ps]; exact hl
  have up : hi * 2 ^ n % 18446744073709551616 = 2 ^ n * (hi % 2 ^ (64 - n)) := by rw [← ps, Nat.mul_comm (2 ^ n) (2 ^ (64 - n)), Nat.mul_mod_mul_right, Nat.mul_comm]
  have l2 : (hi % 2 ^ (64 - n) + 1) * 2 ^ n ≤ 2 ^ (64 - n) * 2 ^ n := Nat.mul_le_mul_right _ (Nat.mod_lt hi hq)
  rw [Nat.add_mul, Nat.one_mul, Nat.mul_comm (2 ^ (64 - n)), ps, Nat.mul_comm] at l2
  have hlo : lo / 2 ^ (64 - n) ≤ lo := Nat.div_le_self _ _
  have l3 : 0 ≤ lo / 2 ^ (64 - n) := Nat.zero_le _
  rw [mod_add_small (hi * 2 ^ n) _ _ (by rw [up]; omega), up, or_plus n (hi % 2 ^ (64 - n)) _ l1 (by omega) (by omega)]
theorem mod_mul_pow (x b m n : Nat) : x % b * 2 ^ n % b = x * 2 ^ n % b := by rw [Nat.mod_mul_mod]
theorem shl_join (t lo n : Nat) (hn : n ≤ 64) (b : Nat) : (t * 18446744073709551616 + lo) * 2 ^ n % (b * 18446744073709551616) = (t * 2 ^ n + lo / 2 ^ (64 - n)) % b * 18446744073709551616 + lo * 2 ^ n % 18446744073709551616 := by
  rw [← shl_two t lo n hn, Nat.mul_comm b, Nat.mod_mul, Nat.mul_comm _ 18446744073709551616, Nat.mul_add_div (by omega), Nat.div_eq_of_lt (Nat.mod_lt _ (by omega)), Nat.add_zero, Nat.mul_add_mod, Nat.mod_mod]
  omega
theorem shl128_small (k a b n : Nat) (hn : n < 64) (ha : a < 18446744073709551616) (hb : b < 18446744073709551616) :
    ∃ r s : Nat, wide_U128_Shl.l0 (k + 1) (n : Int) (a : Int) (b : Int) = some ((r : Int), (s : Int)) ∧ r < 18446744073709551616 ∧ s < 18446744073709551616 ∧ r * 18446744073709551616 + s = (a * 18446744073709551616 + b) * 2 ^ n % 340282366920938463463374607431768211456 := by
  rw [wide_U128_Shl.l0, if_neg (by omega)]
  by_cases h : n = 0
  · subst h
    rw [if_pos (by omega)]
    exact ⟨a, b, rfl, ha, hb, by omega⟩
  · rw [if_neg (by omega), if_pos (by omega), wrap_id (by omega) (by omega), if_pos (by omega), show (64 - (n : Int)) = ((64 - n : Nat) : Int) by omega, shl_nat a n (by omega), shl_nat b n (by omega), word_shl a b n (by omega) hn hb]
    refine ⟨_, _, rfl, Nat.mod_lt _ (by omega), Nat.mod_lt _ (by omega), ?_⟩
    exact (shl_join a b n (by omega) 18446744073709551616).symm
theorem shl_word (x n : Nat) (h : 64 ≤ n) : x * 2 ^ n = x * 18446744073709551616 * 2 ^ (n - 64) := by rw [pow_more n h, Nat.mul_assoc]
theorem shl128_l0 (k a b n : Nat) (hn : n ≤ 9223372036854775807) (ha : a < 18446744073709551616) (hb : b < 18446744073709551616) :
    ∃ r s : Nat, wide_U128_Shl.l0 (k + 3) (n : Int) (a : Int) (b : Int) = some ((r : Int), (s : Int)) ∧ r < 18446744073709551616 ∧ s < 18446744073709551616 ∧ r * 18446744073709551616 + s = (a * 18446744073709551616 + b) * 2 ^ n % 340282366920938463463374607431768211456 := by
  have step : ∀ (k a b n : Nat), 64 ≤ n → n ≤ 9223372036854775807 → wide_U128_Shl.l0 (k + 1) (n : Int) (a : Int) (b : Int) = if b = 0 then some (((0 : Nat) : Int), ((0 : Nat) : Int)) else wide_U128_Shl.l0 k ((n - 64 : Nat) : Int) (b : Int) ((0 : Nat) : Int) := by
    intro k a b n h64 hn
    rw [wide_U128_Shl.l0, if_pos (by omega), wrap_id (x := (n : Int) - 64) (by omega) (by omega), show ((n : Int) - 64) = ((n - 64 : Nat) : Int) by omega, beq0]
    by_cases g : b = 0
    · subst g; simp
    · rw [if_neg g]; simp [g]
  have over : ∀ a b n : Nat, 64 ≤ n → (a * 18446744073709551616 + b) * 2 ^ n % 340282366920938463463374607431768211456 = (b * 18446744073709551616 + 0) * 2 ^ (n - 64) % 340282366920938463463374607431768211456 := by
    intro a b n h
    rw [shl_word _ n h, ← mod_mul_pow ((a * 18446744073709551616 + b) * 18446744073709551616) _ 0, ← mod_mul_pow (b * 18446744073709551616 + 0) _ 0, show (340282366920938463463374607431768211456 : Nat) = 18446744073709551616 * 18446744073709551616 by decide, over_plain, Nat.add_zero]
  by_cases h1 : n < 64
  · exact shl128_small (k + 2) a b n h1 ha hb
  · rw [step (k + 2) a b n (by omega) hn, over a b n (by omega)]
    by_cases g : b = 0
    · subst g
      rw [if_pos rfl]
      exact ⟨0, 0, rfl, by omega, by omega, by simp⟩
    · rw [if_neg g]
      by_cases h2 : n - 64 < 64
      · exact shl128_small (k + 1) b 0 (n - 64) h2 hb (by omega)
      · rw [step (k + 1) b 0 (n - 64) (by omega) (by omega), over b 0 (n - 64) (by omega), if_pos rfl]
        exact ⟨0, 0, rfl, by omega, by omega, by simp⟩
/-- A shift to the left. -/
theorem shl128_f (k a b : Nat) (n : Int) (ha : a < 18446744073709551616) (hb : b < 18446744073709551616) (hn : -9223372036854775808 ≤ n) (hn2 : n ≤ 9223372036854775807) (hk : 3 ≤ k) :
    ∃ r s : Nat, wide_U128_Shl.f k (a : Int) (b : Int) n = some ((r : Int), (s : Int)) ∧ r < 18446744073709551616 ∧ s < 18446744073709551616 ∧ r * 18446744073709551616 + s = (a * 18446744073709551616 + b) * 2 ^ n.toNat % 340282366920938463463374607431768211456 := by
  unfold wide_U128_Shl.f
  obtain ⟨k, rfl⟩ : ∃ m, k = m + 3 := ⟨k - 3, by omega⟩
  by_cases h : 0 ≤ n
  · obtain ⟨m, rfl⟩ := Int.eq_ofNat_of_zero_le h
    exact shl128_l0 k a b m (by omega) ha hb
  · rw [show n.toNat = 0 by omega, wide_U128_Shl.l0, if_neg (by omega), if_pos (by omega)]
    exact ⟨a, b, rfl, ha, hb, by omega⟩
end Go.Proofs.Ytdchdapllehppaa.Ev
end
section
set_option linter.unusedVariables false
set_option linter.unusedSimpArgs false
namespace Go.Proofs.Ytdchdapllehppaa.Ev
open Go.RowKit Go.Proofs.Ytdchdapllehppaa.PAll Go.Proofs.YtdchdapllehppaaW.PrintWords Go.Proofs.YtdchdapllehppaaW.PrintLast Go.Proofs.YtdchdapllehppaaW.PrintMore Go.Proofs.Ytdchdapllehppaa.Spec
theorem dbc {p : Prop} [Decidable p] (h : ¬ p → False) : p := Decidable.byContradiction h
theorem words2 (x : Nat) (l : Nat) : x / l * l + x % l = x := Nat.div_add_mod' x l
theorem sq_lt (x : Nat) (h : x < 18446744073709551616) : x * x / 18446744073709551616 < 18446744073709551616 := by
  have : x * x ≤ 18446744073709551615 * 18446744073709551615 := Nat.mul_le_mul (by omega) (by omega)
  generalize x * x = y at *
  omega
theorem sub_words (a b r s e y : Nat) (ha : a < 18446744073709551616) (hb : b < 18446744073709551616) (hr : r < 18446744073709551616) (hs : s < 18446744073709551616) (he : e ≤ 1) (h : r * 18446744073709551616 + s + y = (e * 18446744073709551616 + a) * 18446744073709551616 + b) (hy : y ≤ a * 18446744073709551616 + b) : r * 18446744073709551616 + s = a * 18446744073709551616 + b - y := dbc (fun _ => by omega)
theorem sqrt128_l0 (a b : Nat) (ha : a < 18446744073709551616) (hb : b < 18446744073709551616) (M : Nat) (hM : 10 ≤ M) : ∀ (j s : Nat), j ≤ 64 → s % 2 ^ j = 0 → s + 2 ^ j ≤ 18446744073709551616 → s * s ≤ a * 18446744073709551616 + b → a * 18446744073709551616 + b < (s + 2 ^ j) * (s + 2 ^ j) →
    ∃ t r1 r2 : Nat, wide_U128_Sqrt.l0 (M + j + 1) (s : Int) ((2 ^ j / 2 : Nat) : Int) (a : Int) (b : Int) = some ((t : Int), (r1 : Int), (r2 : Int)) ∧ t < 18446744073709551616 ∧ r1 < 18446744073709551616 ∧ r2 < 18446744073709551616 ∧
      t * t ≤ a * 18446744073709551616 + b ∧ a * 18446744073709551616 + b < (t + 1) * (t + 1) ∧ r1 * 18446744073709551616 + r2 = a * 18446744073709551616 + b - t * t
  | 0, s, _, h1, h2, h3, h4 => by
    rw [wide_U128_Sqrt.l0, if_neg (by omega), wmul_f s s (by omega) (by omega), Option.bind_some]
    dsimp only
    have sl := sq_lt s (by omega)
    obtain ⟨r1, r2, e, e1, e2, e3, e4, e5⟩ := sub128_f a b (s * s / 18446744073709551616) (s * s % 18446744073709551616) ha hb sl (Nat.mod_lt _ (by omega))
    rw [e1, Option.bind_some]
    rw [words2] at e5
    exact ⟨s, r1, r2, rfl, by omega, e2, e3, h3, by simpa using h4, sub_words _ _ _ _ _ _ ha hb e2 e3 e4 e5 h3⟩
  | i + 1, s, hi, h1, h2, h3, h4 => by
    have hp := Nat.two_pow_pos i
    have e0 : 2 ^ (i + 1) / 2 = 2 ^ i := by rw [Nat.pow_succ, Nat.mul_div_cancel _ (by omega)]
    have e1 : 2 ^ (i + 1) = 2 ^ i + 2 ^ i := by rw [Nat.pow_succ]; omega
    have hor : Go.bits .or .u64 (s : Int) ((2 ^ i : Nat) : Int) = ((s + 2 ^ i : Nat) : Int) := by
      obtain ⟨q, rfl⟩ := Nat.dvd_of_mod_eq_zero h1
      exact or_plus (i + 1) q (2 ^ i) (by omega) (by omega) (by omega)
    have sl := sq_lt (s + 2 ^ i) (by omega)
    rw [show M + (i + 1) + 1 = (M + i + 1) + 1 by omega, wide_U128_Sqrt.l0, e0, if_pos (by omega), hor, wmul_f _ _ (by omega) (by omega), Option.bind_some]
    dsimp only
    rw [show M + i + 1 = (M + i - 2) + 3 by omega, cmp128_f _ _ _ a b (Nat.mod_lt _ (by omega)) hb, words2, Option.bind_some, show (M + i - 2) + 3 = M + i + 1 by omega, show ((2 ^ i : Nat) : Int) / 2 = ((2 ^ i / 2 : Nat) : Int) by omega]
    have d1 : s % 2 ^ i = 0 := Nat.mod_eq_zero_of_dvd (Nat.dvd_trans (Nat.pow_dvd_pow 2 (Nat.le_succ i)) (Nat.dvd_of_mod_eq_zero h1))
    by_cases g : (s + 2 ^ i) * (s + 2 ^ i) ≤ a * 18446744073709551616 + b
    · rw [if_pos ((cmpN_le _ _).2 g)]
      exact sqrt128_l0 a b ha hb M hM i (s + 2 ^ i) (by omega) (by rw [Nat.add_mod_right, d1]) (by omega) g (root_step _ _ _ h4 g)
    · rw [if_neg (by rw [cmpN_le]; exact g)]
      exact sqrt128_l0 a b ha hb M hM i s (by omega) d1 (by omega) h3 (by omega)
/-- A root, and what is left. -/
theorem sqrt128_f (k a b : Nat) (ha : a < 18446744073709551616) (hb : b < 18446744073709551616) (hk : 100 ≤ k) :
    ∃ t r1 r2 : Nat, wide_U128_Sqrt.f k (a : Int) (b : Int) = some ((t : Int), (r1 : Int), (r2 : Int)) ∧ t < 18446744073709551616 ∧ r1 < 18446744073709551616 ∧ r2 < 18446744073709551616 ∧
      t * t ≤ a * 18446744073709551616 + b ∧ a * 18446744073709551616 + b < (t + 1) * (t + 1) ∧ r1 * 18446744073709551616 + r2 = a * 18446744073709551616 + b - t * t := by
  obtain ⟨M, rfl⟩ : ∃ M, k = M + 64 + 1 := ⟨k - 65, by omega⟩
  exact sqrt128_l0 a b ha hb M (by omega) 64 0 (by omega) (by simp) (by omega) (by omega) (by omega)
end Go.Proofs.Ytdchdapllehppaa.Ev
end
section
set_option linter.unusedVariables false
set_option linter.unusedSimpArgs false
namespace Go.Proofs.Ytdchdapllehppaa.Ev
open Go.RowKit Go.Proofs.Ytdchdapllehppaa.PAll Go.Proofs.YtdchdapllehppaaW.PrintWords Go.Proofs.YtdchdapllehppaaW.PrintLast Go.Proofs.YtdchdapllehppaaW.PrintMore Go.Proofs.Ytdchdapllehppaa.Spec
theorem works_at : flyballlaw01_works.f 200 = some true := by kernel_rfl
theorem works_f (k : Nat) (hk : 200 ≤ k) : flyballlaw01_works.f k = some true := at_rounds flyballlaw01_works.mono hk works_at
theorem nat64 {x : Int} (h : (Lit.int .u64 x).wf = true) : ∃ n : Nat, x = (n : Int) ∧ n < 18446744073709551616 := by
  have : 0 ≤ x ∧ x < 18446744073709551616 := by
    have e := h
    simp [Lit.wf, Go.IntKind.min, Go.IntKind.max, Go.IntKind.signed, Go.IntKind.bits] at e
    omega
  exact ⟨x.toNat, by omega, by omega⟩
end Go.Proofs.Ytdchdapllehppaa.Ev
end
section
set_option linter.unusedVariables false
set_option linter.unusedSimpArgs false
namespace Go.Proofs.YtdchdapllehppaaAid
open Go.Deep Go.Joins Go.ChangeShapes Go.WideShapes Go.RowKit
section
variable {H : Type} {enc : TypeId × Value → H} {P : Program} {w : World} {base : Nat} {spare : Nat → Bool} {held : Bool}
theorem trod_uu {t : TypeId} {f0 f1 : Field} {n : Nat} {cs : List Value} {y : DataW H × List MemPlace} (hs : P.underlying t = some (.struct #[f0, f1])) (hone : oneCellFields P #[f0, f1] = true)
    (h0 : P.underlying f0.type = some (.int .u64)) (h1 : P.underlying f1.type = some (.int .u64)) (hl : cs.length = 2) (h : DataW.trod enc P w base spare held n t cs = some y) :
    ∃ (x0 x1 : Int), cs = [.int .u64 x0, .int .u64 x1] ∧ y = (.agg [.lit (.int .u64 x0), .lit (.int .u64 x1)], []) ∧ (Lit.int .u64 x0).wf = true ∧ (Lit.int .u64 x1).wf = true := by
  obtain ⟨xs, m, _, hx, _, hlen, hg⟩ := DataW.trod_struct hs h
  obtain ⟨o0, k0⟩ := hone_of hone 0 f0 rfl
  obtain ⟨o1, k1⟩ := hone_of hone 1 f1 rfl
  match cs, hl with
  | [c0, c1], _ =>
    match xs, hlen with
    | [y0, y1], _ =>
      have g0 : DataW.trod enc P w base spare held m f0.type [c0] = some y0 := by simpa [o0, k0] using hg 0 f0 rfl
      have g1 : DataW.trod enc P w base spare held m f1.type [c1] = some y1 := by simpa [o1, k1] using hg 1 f1 rfl
      obtain ⟨x0, e0, rfl, w0⟩ := DataW.trod_int h0 g0
      obtain ⟨x1, e1, rfl, w1⟩ := DataW.trod_int h1 g1
      simp only [List.cons.injEq, and_true] at e0 e1
      subst e0 e1
      exact ⟨x0, x1, rfl, by simpa using hx, w0, w1⟩
theorem trod_uu_mk {t : TypeId} {f0 f1 : Field} {x0 x1 : Int} (hs : P.underlying t = some (.struct #[f0, f1])) (hone : oneCellFields P #[f0, f1] = true) (hC : P.cellsOf t = 2)
    (h0 : P.underlying f0.type = some (.int .u64)) (h1 : P.underlying f1.type = some (.int .u64)) (w0 : (Lit.int .u64 x0).wf = true) (w1 : (Lit.int .u64 x1).wf = true) :
    DataW.trod enc P w base spare held 2 t [.int .u64 x0, .int .u64 x1] = some (.agg [.lit (.int .u64 x0), .lit (.int .u64 x1)], []) := by
  obtain ⟨o0, k0⟩ := hone_of hone 0 f0 rfl
  obtain ⟨o1, k1⟩ := hone_of hone 1 f1 rfl
  have := trod_struct2_mk (enc := enc) (w := w) (base := base) (spare := spare) (held := held) (n := 1) (cs := [.int .u64 x0, .int .u64 x1]) hs (by simp [hC])
    (by simpa [o0, k0] using trod_int_mk (enc := enc) (w := w) (base := base) (spare := spare) (held := held) 0 h0 w0) (by simpa [o1, k1] using trod_int_mk (enc := enc) (w := w) (base := base) (spare := spare) (held := held) 0 h1 w1)
  simpa using this
theorem open_uu {r : Reach} {b0 : Nat} {t : TypeId} {f0 f1 : Field} {v : Value} {d : DataW H} {p : List MemPlace} (hs : P.underlying t = some (.struct #[f0, f1])) (hone : oneCellFields P #[f0, f1] = true) (hC : P.cellsOf t = 2)
    (h0 : P.underlying f0.type = some (.int .u64)) (h1 : P.underlying f1.type = some (.int .u64))
    (hv : Value.okWide P w r b0 t v) (h : DataW.Trod enc P w base spare held t v d p) :
    ∃ (x0 x1 : Int), v = .agg #[.int .u64 x0, .int .u64 x1] ∧ d = .agg [.lit (.int .u64 x0), .lit (.int .u64 x1)] ∧ p = [] ∧ (Lit.int .u64 x0).wf = true ∧ (Lit.int .u64 x1).wf = true := by
  obtain ⟨cs, rfl, hsz⟩ := okWide_struct hs hv
  obtain ⟨l⟩ := cs
  obtain ⟨fuel, hf⟩ := h
  obtain ⟨x0, x1, e, ey, w0, w1⟩ := trod_uu hs hone h0 h1 (hsz.trans hC) hf
  simp only [Prod.mk.injEq] at ey
  have e' : l = [.int .u64 x0, .int .u64 x1] := by simpa [Value.cells] using e
  subst e'
  exact ⟨x0, x1, rfl, ey.1, ey.2, w0, w1⟩
theorem shut_uu {t : TypeId} {f0 f1 : Field} {x0 x1 : Int} (hs : P.underlying t = some (.struct #[f0, f1])) (hone : oneCellFields P #[f0, f1] = true) (hC : P.cellsOf t = 2)
    (h0 : P.underlying f0.type = some (.int .u64)) (h1 : P.underlying f1.type = some (.int .u64)) (w0 : (Lit.int .u64 x0).wf = true) (w1 : (Lit.int .u64 x1).wf = true) :
    DataW.Trod enc P w base spare held t (.agg #[.int .u64 x0, .int .u64 x1]) (.agg [.lit (.int .u64 x0), .lit (.int .u64 x1)]) [] :=
  ⟨2, by simpa [Value.cells] using trod_uu_mk (enc := enc) (w := w) (base := base) (spare := spare) (held := held) hs hone hC h0 h1 w0 w1⟩
end
end Go.Proofs.YtdchdapllehppaaAid
end
section
set_option linter.unusedVariables false
set_option linter.unusedSimpArgs false
namespace Go.Proofs.Ytdchdapllehppaa.Pure
open Go.RowKit Go.Proofs.Ytdchdapllehppaa.PAll Go.Proofs.YtdchdapllehppaaW.PrintWords Go.Proofs.YtdchdapllehppaaW.PrintLast Go.Proofs.YtdchdapllehppaaW.PrintMore Go.Proofs.Ytdchdapllehppaa.Spec Go.Proofs.Ytdchdapllehppaa.Ev
theorem left_le (v t : Nat) (h : v < (t + 1) * (t + 1)) : v - t * t ≤ t * 2 := by
  have : (t + 1) * (t + 1) = t * t + t * 2 + 1 := by rw [Nat.add_mul, Nat.mul_add]; omega
  omega
theorem WideRoots (a0_0 a0_1 : Int) (w0 : (Lit.int .u64 a0_0).wf = true) (w1 : (Lit.int .u64 a0_1).wf = true) : ∃ k, flyballlaw01_WideRoots.f k a0_0 a0_1 = some true := by
  obtain ⟨a, rfl, ha⟩ := nat64 w0
  obtain ⟨b, rfl, hb⟩ := nat64 w1
  refine ⟨5000 + 3, ?_⟩
  obtain ⟨t, r1, r2, e, e1, e2, e3, e4, e5, e6⟩ := sqrt128_f (5000 + 3) a b ha hb (by omega)
  have sl := sq_lt t e1
  obtain ⟨x, y, c, f1, f2, f3, f4, f5⟩ := add128_f (t * t / 18446744073709551616) (t * t % 18446744073709551616) r1 r2 sl (Nat.mod_lt _ (by omega)) e2 e3
  obtain ⟨z, u, g1, g2, g3, g4⟩ := shl128_f (5000 + 3) 0 t 1 (by omega) e1 (by omega) (by omega) (by omega)
  have le := left_le _ _ e5
  rw [words2, e6] at f5
  have c0 : (c * 18446744073709551616 + x) * 18446744073709551616 + y = a * 18446744073709551616 + b := by
    rw [f5]; exact Nat.add_sub_cancel' e4
  have hc : c = 0 := dbc (fun _ => by omega)
  have hx : x = a := dbc (fun _ => by omega)
  have hy : y = b := dbc (fun _ => by omega)
  rw [Nat.zero_mul, Nat.zero_add, show (1 : Int).toNat = 1 from rfl, Nat.pow_one, Nat.mod_eq_of_lt (by omega)] at g4
  unfold flyballlaw01_WideRoots.f
  rw [works_f _ (by omega), Option.bind_some, if_pos rfl, e, Option.bind_some]
  dsimp only
  rw [wmul_f t t e1 e1, Option.bind_some]
  dsimp only
  rw [f1, Option.bind_some, show (0 : Int) = ((0 : Nat) : Int) from rfl, g1, Option.bind_some, hc, hx, hy]
  dsimp only
  rw [if_pos (by simp), if_pos rfl, cmp128_f 5000 r1 r2 z u e3 g3, Option.bind_some, e6, g4]
  rw [decide_eq_true (show cmpN (a * 18446744073709551616 + b - t * t) (t * 2) ≤ ((0 : Nat) : Int) from (cmpN_le _ _).2 le)]
end Go.Proofs.Ytdchdapllehppaa.Pure
end
