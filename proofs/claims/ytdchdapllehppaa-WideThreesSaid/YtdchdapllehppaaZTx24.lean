/- Functions of the print, turned to this claim. -/
import Derived.Test.YtdchdapllehppaaZTW
import Derived.Test.YtdchdapllehppaaZTx0
import Derived.Test.YtdchdapllehppaaZTx8
import Derived.Test.YtdchdapllehppaaZTx9
import Derived.Test.YtdchdapllehppaaZTx13
import Derived.Test.YtdchdapllehppaaZTx15
import Derived.Test.YtdchdapllehppaaZTx19
import Derived.Test.YtdchdapllehppaaZTx21
section
namespace Go.Proofs.Ytdchdapllehppaa.PAll
open Go.RowKit Go.Proofs.YtdchdapllehppaaW.PrintWords Go.Proofs.YtdchdapllehppaaW.PrintLast Go.Proofs.YtdchdapllehppaaW.PrintMore
attribute [local go_sem] max2_int min2_int max_two min_two max_three min_three max_four min_four   -- for this text's walks alone
set_option linter.unusedVariables false
set_option linter.unusedSimpArgs false
/-! ### flyballlaw01_WideThrees: function 9 -/
theorem flyballlaw01_WideThrees.kb0 {w0 w1 : World} {g : Nat} {o : Obj} (h : Aside0 (w0.heap[g]? = some o)) (hb : Below w0.heap.size w0 w1) : Aside0 (w1.heap[g]? = some o) := ⟨blk_below h.out hb⟩
theorem flyballlaw01_WideThrees.kb1 {w0 w1 : World} {g n : Nat} {o : Obj} (h : Aside0 (w0.heap[g]? = some o)) (hb : Below (w0.drewN n).heap.size (w0.drewN n) w1) : Aside0 (w1.heap[g]? = some o) := ⟨blk_below (blk_drewN h.out n) hb⟩
theorem flyballlaw01_WideThrees.kb2 {w0 w1 : World} {g n m : Nat} {o : Obj} (h : Aside0 (w0.heap[g]? = some o)) (hb : Below ((w0.drewN n).drewN m).heap.size ((w0.drewN n).drewN m) w1) : Aside0 (w1.heap[g]? = some o) := ⟨blk_below (blk_drewN (blk_drewN h.out n) m) hb⟩
def flyballlaw01_WideThrees.l0 : Nat → List (S24) → Bool → Int → Int → List Bool → List Bool → Bool → List Bool → Int → Int → Int → Int → Int → Int → Int → Int → Int → Int → Int → Int → Int → Option (Bool)
  | 0, _, _, _, _, _, _, _, _, _, _, _, _, _, _, _, _, _, _, _, _, _ => none
  | k + 1, x2, x7, x9, x11, x12, x13, x14, x15, x16, x7302000, x7302001, x7302002, x7303000, x7303001, x7303002, x7309000, x7309001, x7309002, x7314000, x7314001, x7314002 => if x16 < (x2.length : Int) then (if 0 ≤ x16 then ((flyballlaw01_of.f k ((rd_T24 x2 x16).f0) ((rd_T24 x2 x16).f1)).bind fun t7334 => ((flyballref01_Add.f k x15 t7334).bind fun t7337 => (flyballlaw01_WideThrees.l0 k x2 x7 x9 x11 x12 x13 x14 t7337 (wrap64 (x16 + 1)) x7302000 x7302001 x7302002 x7303000 x7303001 x7303002 x7309000 x7309001 x7309002 x7314000 x7314001 x7314002))) else (none)) else (if 192 ≤ (x12.length : Int) then ((flyballlaw01_is3.f k x7309000 x7309001 x7309002 (x12.take 192)).bind fun t7344 => ((flyballlaw01_is3.f k x7314000 x7314001 x7314002 x13).bind fun t7345 => ((wide_Sum.f k x2).bind fun bt7346 => (if 0 ≤ (mn (x15.length : Int) 192) then (if (mn (x15.length : Int) 192) ≤ (x15.length : Int) then ((flyballlaw01_is3.f k bt7346.1 bt7346.2.1 bt7346.2.2 (x15.take ((mn (x15.length : Int) 192) : Int).toNat)).bind fun t7353 => (if x7 = true then (if t7344 = true then (if t7345 = true then (if t7353 = true then (if (x12.length : Int) > 192 then (if 192 < (x12.length : Int) then ((flyballlaw01_one.f (rdOf false x12 192)).bind fun t7355 => (if x9 = t7355 then ((flyballlaw01_one.f x14).bind fun t7356 => (if x11 = t7356 then ((wide_U192_Cmp.f k x7302000 x7302001 x7302002 x7303000 x7303001 x7303002).bind fun t7357 => ((flyballlaw01_of3.f k x7302000 x7302001 x7302002).bind fun t7358 => ((flyballlaw01_of3.f k x7303000 x7303001 x7303002).bind fun t7361 => ((flyballref01_Cmp.f k t7358 t7361).bind fun t7364 => (if t7357 = t7364 then ((wide_U192_Len.f k x7302000 x7302001 x7302002).bind fun t7365 => ((flyballlaw01_of3.f k x7302000 x7302001 x7302002).bind fun t7366 => ((flyballref01_Len.f k t7366).bind fun t7369 => (some (t7365 == t7369))))) else (none)))))) else (none))) else (none))) else (none)) else ((flyballlaw01_one.f false).bind fun t7370 => (if x9 = t7370 then ((flyballlaw01_one.f x14).bind fun t7371 => (if x11 = t7371 then ((wide_U192_Cmp.f k x7302000 x7302001 x7302002 x7303000 x7303001 x7303002).bind fun t7372 => ((flyballlaw01_of3.f k x7302000 x7302001 x7302002).bind fun t7373 => ((flyballlaw01_of3.f k x7303000 x7303001 x7303002).bind fun t7376 => ((flyballref01_Cmp.f k t7373 t7376).bind fun t7379 => (if t7372 = t7379 then ((wide_U192_Len.f k x7302000 x7302001 x7302002).bind fun t7380 => ((flyballlaw01_of3.f k x7302000 x7302001 x7302002).bind fun t7381 => ((flyballref01_Len.f k t7381).bind fun t7384 => (some (t7380 == t7384))))) else (none)))))) else (none))) else (none)))) else (none)) else (none)) else (none)) else (none))) else (none)) else (none))))) else (none))
def flyballlaw01_WideThrees.f (k : Nat) (a0_0 : Int) (a0_1 : Int) (a0_2 : Int) (a1_0 : Int) (a1_1 : Int) (a1_2 : Int) (l2 : List (S24)) : Option (Bool) := (flyballlaw01_works.f k).bind fun t7303 => (if t7303 = true then (if (l2.length : Int) > 300 then (some t7303) else ((wide_U192_Add.f a0_0 a0_1 a0_2 a1_0 a1_1 a1_2).bind fun bt7304 => ((wide_U192_Sub.f a0_0 a0_1 a0_2 a1_0 a1_1 a1_2).bind fun bt7309 => ((flyballlaw01_of3.f k a0_0 a0_1 a0_2).bind fun t7314 => ((flyballlaw01_of3.f k a1_0 a1_1 a1_2).bind fun t7317 => ((flyballref01_Add.f k t7314 t7317).bind fun t7320 => ((flyballlaw01_of3.f k a0_0 a0_1 a0_2).bind fun t7323 => ((flyballlaw01_of3.f k a1_0 a1_1 a1_2).bind fun t7326 => ((flyballref01_Sub.f k t7323 t7326 192).bind fun bt7329 => (flyballlaw01_WideThrees.l0 k l2 t7303 bt7304.2.2.2 bt7309.2.2.2 t7320 bt7329.1 bt7329.2 ([] : List Bool) 0 a0_0 a0_1 a0_2 a1_0 a1_1 a1_2 bt7304.1 bt7304.2.1 bt7304.2.2.1 bt7309.1 bt7309.2.1 bt7309.2.2.1)))))))))) else (some false))
theorem flyballlaw01_WideThrees.mono_l : ∀ k, (∀ y0 y1 y2 y3 y4 y5 y6 y7 y8 y9 y10 y11 y12 y13 y14 y15 y16 y17 y18 y19 y20, LeO (flyballlaw01_WideThrees.l0 k y0 y1 y2 y3 y4 y5 y6 y7 y8 y9 y10 y11 y12 y13 y14 y15 y16 y17 y18 y19 y20) (flyballlaw01_WideThrees.l0 (k + 1) y0 y1 y2 y3 y4 y5 y6 y7 y8 y9 y10 y11 y12 y13 y14 y15 y16 y17 y18 y19 y20))
  | 0 => fun _ _ _ _ _ _ _ _ _ _ _ _ _ _ _ _ _ _ _ _ _ r h => by simp [flyballlaw01_WideThrees.l0] at h
  | k + 1 => by
    have ih0 := flyballlaw01_WideThrees.mono_l k
    · intro y0 y1 y2 y3 y4 y5 y6 y7 y8 y9 y10 y11 y12 y13 y14 y15 y16 y17 y18 y19 y20
      unfold flyballlaw01_WideThrees.l0
      repeat' first
      | (with_reducible exact ih0 _ _ _ _ _ _ _ _ _ _ _ _ _ _ _ _ _ _ _ _ _)
      | (with_reducible exact flyballlaw01_is3.mono _ _ _ _ _)
      | (with_reducible exact flyballlaw01_of.mono _ _ _)
      | (with_reducible exact flyballlaw01_of3.mono _ _ _ _)
      | (with_reducible exact flyballlaw01_works.mono _)
      | (with_reducible exact flyballref01_Add.mono _ _ _)
      | (with_reducible exact flyballref01_Cmp.mono _ _ _)
      | (with_reducible exact flyballref01_Len.mono _ _)
      | (with_reducible exact flyballref01_Sub.mono _ _ _ _)
      | (with_reducible exact wide_Sum.mono _ _)
      | (with_reducible exact wide_U192_Cmp.mono _ _ _ _ _ _ _)
      | (with_reducible exact wide_U192_Len.mono _ _ _ _)
      | (with_reducible exact LeO.refl _)
      | (with_reducible exact LeO.none _)
      | (with_reducible refine LeO.ite ?_ ?_)
      | (with_reducible refine LeO.bind ?_ (fun _ => ?_))
      | exact ih0 _ _ _ _ _ _ _ _ _ _ _ _ _ _ _ _ _ _ _ _ _
      | exact flyballlaw01_is3.mono _ _ _ _ _
      | exact flyballlaw01_of.mono _ _ _
      | exact flyballlaw01_of3.mono _ _ _ _
      | exact flyballlaw01_works.mono _
      | exact flyballref01_Add.mono _ _ _
      | exact flyballref01_Cmp.mono _ _ _
      | exact flyballref01_Len.mono _ _
      | exact flyballref01_Sub.mono _ _ _ _
      | exact wide_Sum.mono _ _
      | exact wide_U192_Cmp.mono _ _ _ _ _ _ _
      | exact wide_U192_Len.mono _ _ _ _
      | exact LeO.none _
      | refine LeO.ite ?_ ?_
      | refine LeO.bind ?_ (fun _ => ?_)
theorem flyballlaw01_WideThrees.mono : ∀ a0 a1 a2 a3 a4 a5 a6 k, LeO (flyballlaw01_WideThrees.f k a0 a1 a2 a3 a4 a5 a6) (flyballlaw01_WideThrees.f (k + 1) a0 a1 a2 a3 a4 a5 a6) := by
  intro a0 a1 a2 a3 a4 a5 a6 k
  have ih0 := flyballlaw01_WideThrees.mono_l k
  unfold flyballlaw01_WideThrees.f
  repeat' first
      | (with_reducible exact ih0 _ _ _ _ _ _ _ _ _ _ _ _ _ _ _ _ _ _ _ _ _)
      | (with_reducible exact flyballlaw01_is3.mono _ _ _ _ _)
      | (with_reducible exact flyballlaw01_of.mono _ _ _)
      | (with_reducible exact flyballlaw01_of3.mono _ _ _ _)
      | (with_reducible exact flyballlaw01_works.mono _)
      | (with_reducible exact flyballref01_Add.mono _ _ _)
      | (with_reducible exact flyballref01_Cmp.mono _ _ _)
      | (with_reducible exact flyballref01_Len.mono _ _)
      | (with_reducible exact flyballref01_Sub.mono _ _ _ _)
      | (with_reducible exact wide_Sum.mono _ _)
      | (with_reducible exact wide_U192_Cmp.mono _ _ _ _ _ _ _)
      | (with_reducible exact wide_U192_Len.mono _ _ _ _)
      | (with_reducible exact LeO.refl _)
      | (with_reducible exact LeO.none _)
      | (with_reducible refine LeO.ite ?_ ?_)
      | (with_reducible refine LeO.bind ?_ (fun _ => ?_))
      | exact ih0 _ _ _ _ _ _ _ _ _ _ _ _ _ _ _ _ _ _ _ _ _
      | exact flyballlaw01_is3.mono _ _ _ _ _
      | exact flyballlaw01_of.mono _ _ _
      | exact flyballlaw01_of3.mono _ _ _ _
      | exact flyballlaw01_works.mono _
      | exact flyballref01_Add.mono _ _ _
      | exact flyballref01_Cmp.mono _ _ _
      | exact flyballref01_Len.mono _ _
      | exact flyballref01_Sub.mono _ _ _ _
      | exact wide_Sum.mono _ _
      | exact wide_U192_Cmp.mono _ _ _ _ _ _ _
      | exact wide_U192_Len.mono _ _ _ _
      | exact LeO.none _
      | refine LeO.ite ?_ ?_
      | refine LeO.bind ?_ (fun _ => ?_)
def flyballlaw01_WideThrees.T9 : Bool × List (List Nat × List Nat) := (true, [([], []), ([0], [0]), ([], []), ([2, 1], [2]), ([1, 3, 3], [1, 3]), ([4], [4]), ([5], [5]), ([5], [5]), ([6, 4, 0, 1, 2, 3, 4, 5, 6], [6]), ([7, 8, 0, 1, 2, 3, 4, 5, 6, 7, 8], [7])])
def flyballlaw01_WideThrees.B9 : List Nat := [0, 1, 0, 7, 15, 31, 63, 63, 127, 511]
theorem flyballlaw01_WideThrees.tab9 : rtab .any (opsOf Try.f9 9) = flyballlaw01_WideThrees.T9 := by kernel_rfl
theorem flyballlaw01_WideThrees.bits9 : waitsOk flyballlaw01_WideThrees.T9.2 flyballlaw01_WideThrees.B9 = true := by kernel_rfl
def flyballlaw01_WideThrees.T17 : Bool × List (List Nat × List Nat) := (true, [([], []), ([0], [0]), ([], []), ([], []), ([3], [3]), ([4], [4]), ([2, 5], [2, 5]), ([1, 6, 1], [1, 6]), ([7, 7, 0, 1, 2, 3, 4, 5, 6, 7], [7])])
def flyballlaw01_WideThrees.B17 : List Nat := [0, 1, 0, 0, 8, 24, 60, 127, 255]
theorem flyballlaw01_WideThrees.tab17 : rtab .any (opsOf Try.f9 17) = flyballlaw01_WideThrees.T17 := by kernel_rfl
theorem flyballlaw01_WideThrees.bits17 : waitsOk flyballlaw01_WideThrees.T17.2 flyballlaw01_WideThrees.B17 = true := by kernel_rfl
def flyballlaw01_WideThrees.T18 : Bool × List (List Nat × List Nat) := (true, [([], []), ([0], [0]), ([1], [1]), ([1, 2], [1, 2]), ([3, 1], [3]), ([4], [4]), ([4, 5], [4, 5]), ([6, 4], [6]), ([7], [7]), ([7, 8], [7, 8]), ([9, 7], [9]), ([10], [10]), ([10], [10]), ([12, 10], [10, 12]), ([13, 10], [10, 13]), ([14, 10, 10], [10, 14]), ([15], [15]), ([16, 15], [15, 16]), ([17, 15], [15, 17]), ([15, 18, 10], [10, 15, 18]), ([19, 15, 10], [10, 19]), ([11, 20, 10], [10, 11, 20]), ([10, 21], [10, 21]), ([22, 20], [22]), ([23], [23]), ([23], [23]), ([25, 23, 23], [23, 25]), ([24, 26, 23], [23, 24, 26]), ([23, 27], [23, 27]), ([28, 26], [28]), ([29], [29]), ([29], [29]), ([30, 31, 29, 29], [29, 30, 31]), ([29], [29]), ([33, 32, 29], [29, 33]), ([29], [29]), ([35, 34, 29], [29, 35]), ([34, 36, 36, 29], [29, 34, 36]), ([32, 37, 29], [29, 32, 37]), ([29, 38], [29, 38]), ([39, 37], [39]), ([40], [40]), ([41, 40, 40], [40, 41]), ([40], [40]), ([43, 42, 40], [40, 43]), ([44, 44, 40], [40, 44]), ([42, 45, 40], [40, 42, 45]), ([40, 46], [40, 46]), ([47, 45, 0, 1, 2, 3, 4, 5, 6, 7, 8, 9, 10, 11, 12, 13, 14, 15, 16, 17, 18, 19, 20, 21, 22, 23, 24, 25, 26, 27, 28, 29, 30, 31, 32, 33, 34, 35, 36, 37, 38, 39, 40, 41, 42, 43, 44, 45, 46, 47], [47])])
def flyballlaw01_WideThrees.B18 : List Nat := [0, 1, 3, 7, 15, 31, 63, 127, 255, 511, 1023, 2047, 2047, 6143, 14335, 30719, 63487, 129023, 260095, 522239, 1046527, 2097151, 4194303, 8388607, 16777215, 16777215, 50331647, 134217727, 268435455, 536870911, 1073741823, 1073741823, 4294967295, 1073741823, 17179869183, 1073741823, 68719476735, 137438953471, 274877906943, 549755813887, 1099511627775, 2199023255551, 4398046511103, 2199023255551, 17592186044415, 35184372088831, 70368744177663, 140737488355327, 281474976710655]
theorem flyballlaw01_WideThrees.tab18 : rtab .any (opsOf Try.f9 18) = flyballlaw01_WideThrees.T18 := by kernel_rfl
theorem flyballlaw01_WideThrees.bits18 : waitsOk flyballlaw01_WideThrees.T18.2 flyballlaw01_WideThrees.B18 = true := by kernel_rfl
set_option maxHeartbeats 8000000 in
set_option maxRecDepth 100000 in
theorem flyballlaw01_WideThrees.calls (k : Nat) (a0_0 : Int) (a0_1 : Int) (a0_2 : Int) (a1_0 : Int) (a1_1 : Int) (a1_2 : Int) (A2 : Option Addr) (c2 : Nat) (l2 : List (S24)) (r : Bool) (w : World) (hr2 : Kd.C k24 w A2 l2.length l2) (hc2 : l2.length ≤ c2) (h : flyballlaw01_WideThrees.f k a0_0 a0_1 a0_2 a1_0 a1_1 a1_2 l2 = some r) :
    Calls Try.prog 9 #[.agg #[.int .u64 a0_0, .int .u64 a0_1, .int .u64 a0_2], .agg #[.int .u64 a1_0, .int .u64 a1_1, .int .u64 a1_2], .slice A2 l2.length c2] w fun e w' => e = .returned (.bool r) ∧ Below w.heap.size w w' := by
  have hu26 := Try.underlying26
  have hu24 := Try.underlying24
  have HR2 := Aside0.mk hr2
  have HC2 := Aside0.mk hc2
  clear hr2 hc2
  have HB := Aside0.mk (Below.refl w.heap.size w)
  have H := h
  clear h
  unfold flyballlaw01_WideThrees.f at H
  obtain ⟨t7303, A40, H⟩ := Option.bind_eq_some_iff.mp H
  have A4 := Aside0.mk A40
  clear A40
  (try dsimp only at H)
  by_cases c5 : t7303 = true
  · subst c5
    rw [if_pos rfl] at H
    by_cases c6 : (l2.length : Int) > 300
    · rw [if_pos c6] at H
      have c6b0 : decide (300 < (l2.length : Int)) = true := decide_eq_true c6
      have c6b1 : decide (300 < l2.length) = true := decide_eq_true (by omega)
      clear c6
      obtain rfl := Option.some.inj H
      go_enter Try.func9, Try.ntmps9
      go_wp2_with (first | ((with_reducible refine gate_dst (N := 3) rfl ?_); (try (refine gate_guard (by rfl) ?_; dsimp only)); refine kx 3 #[.int .u64 a0_0, .int .u64 a0_1, .int .u64 a0_2] 26 ?_; intro gb7301 hg w7 hbox hb; have BK7301 := Aside0.mk (hbox); have GW7301 := kg HB hg; have GE7301 := kg HB hg; replace HB := kh HB hb; clear hb hbox hg) | ((with_reducible refine gate_dst (N := 4) rfl ?_); (try (refine gate_guard (by rfl) ?_; dsimp only)); refine kx 4 #[.int .u64 a1_0, .int .u64 a1_1, .int .u64 a1_2] 26 ?_; intro gb7302 hg w8 hbox hb; have BK7302 := Aside0.mk (hbox); have GW7302 := kg HB hg; have GE7302 := kg HB hg; have NB7301_7302 := kn BK7301 hg; have NB7302_7301 := km BK7301 hg; replace BK7301 := kb BK7301 hb; replace HB := kh HB hb; clear hb hbox hg) | ((with_reducible refine gate_callee (f := 11) rfl ?_); refine kc (some 20) Try.func11 #[] (flyballlaw01_works.calls k  true _ A4.out) ?_; intro w9 hb; replace BK7301 := kb BK7301 hb; replace BK7302 := kb BK7302 hb; replace HB := kh HB hb; (try clear hb); (try clear hb2); (try clear hk); (try clear hi)))
      go_ret
      exact ⟨pe, pl HB⟩
    · rw [if_neg c6] at H
      have c6b0 : decide (300 < (l2.length : Int)) = false := decide_eq_false c6
      have c6b1 : decide (300 < l2.length) = false := decide_eq_false (by omega)
      clear c6
      obtain ⟨⟨t7304, t7305, t7306, t7307⟩, A100, H⟩ := Option.bind_eq_some_iff.mp H
      have A10 := Aside0.mk A100
      clear A100
      (try dsimp only at H)
      obtain ⟨⟨t7309, t7310, t7311, t7312⟩, A110, H⟩ := Option.bind_eq_some_iff.mp H
      have A11 := Aside0.mk A110
      clear A110
      (try dsimp only at H)
      obtain ⟨t7314, A120, H⟩ := Option.bind_eq_some_iff.mp H
      have A12 := Aside0.mk A120
      clear A120
      (try dsimp only at H)
      obtain ⟨t7317, A130, H⟩ := Option.bind_eq_some_iff.mp H
      have A13 := Aside0.mk A130
      clear A130
      (try dsimp only at H)
      obtain ⟨t7320, A140, H⟩ := Option.bind_eq_some_iff.mp H
      have A14 := Aside0.mk A140
      clear A140
      (try dsimp only at H)
      obtain ⟨t7323, A150, H⟩ := Option.bind_eq_some_iff.mp H
      have A15 := Aside0.mk A150
      clear A150
      (try dsimp only at H)
      obtain ⟨t7326, A160, H⟩ := Option.bind_eq_some_iff.mp H
      have A16 := Aside0.mk A160
      clear A160
      (try dsimp only at H)
      obtain ⟨⟨t7329, t7330⟩, A170, H⟩ := Option.bind_eq_some_iff.mp H
      have A17 := Aside0.mk A170
      clear A170
      (try dsimp only at H)
      have H' := Aside0.mk H
      clear H
      go_enter Try.func9, Try.ntmps9
      try go_wp2_with (first | ((with_reducible refine gate_dst (N := 3) rfl ?_); (try (refine gate_guard (by rfl) ?_; dsimp only)); refine kx 3 #[.int .u64 a0_0, .int .u64 a0_1, .int .u64 a0_2] 26 ?_; intro gb7301 hg w18 hbox hb; have BK7301 := Aside0.mk (hbox); have GW7301 := kg HB hg; have GE7301 := kg HB hg; replace HB := kh HB hb; clear hb hbox hg) | ((with_reducible refine gate_dst (N := 4) rfl ?_); (try (refine gate_guard (by rfl) ?_; dsimp only)); refine kx 4 #[.int .u64 a1_0, .int .u64 a1_1, .int .u64 a1_2] 26 ?_; intro gb7302 hg w19 hbox hb; have BK7302 := Aside0.mk (hbox); have GW7302 := kg HB hg; have GE7302 := kg HB hg; have NB7301_7302 := kn BK7301 hg; have NB7302_7301 := km BK7301 hg; replace BK7301 := kb BK7301 hb; replace HB := kh HB hb; clear hb hbox hg) | ((with_reducible refine gate_callee (f := 11) rfl ?_); refine kc (some 20) Try.func11 #[] (flyballlaw01_works.calls k  true _ A4.out) ?_; intro w20 hb; replace BK7301 := kb BK7301 hb; replace BK7302 := kb BK7302 hb; replace HB := kh HB hb; (try clear hb); (try clear hb2); (try clear hk); (try clear hi); have hnb21 := NB7301_7302.out; have hnc21 := NB7302_7301.out; have ⟨hcz22_0, hcz22_1, hcz22_2, hfz22_0, hfz22_1, hfz22_2⟩ := kz3f BK7301; have ⟨hcz23_0, hcz23_1, hcz23_2, hfz23_0, hfz23_1, hfz23_2⟩ := kz3f BK7302) | ((with_reducible refine gate_callee (f := 36) rfl ?_); refine kc (some 30) Try.func36 #[.agg #[.int .u64 a0_0, .int .u64 a0_1, .int .u64 a0_2], .agg #[.int .u64 a1_0, .int .u64 a1_1, .int .u64 a1_2]] (wide_U192_Add.calls a0_0 a0_1 a0_2 a1_0 a1_1 a1_2 t7304 t7305 t7306 t7307 _ A10.out) ?_; intro w24 hb; replace BK7301 := kb BK7301 hb; replace BK7302 := kb BK7302 hb; replace HB := kh HB hb; (try clear hb); (try clear hb2); (try clear hk); (try clear hi)) | ((with_reducible refine gate_dst (N := 8) rfl ?_); (try (refine gate_guard (by rfl) ?_; dsimp only)); refine kx 8 #[.int .u64 0, .int .u64 0, .int .u64 0] 26 ?_; intro gb7308 hg w25 hbox hb; have BK7308 := Aside0.mk (hbox); have GW7308 := kg HB hg; have GE7308 := kg HB hg; have NB7301_7308 := kn BK7301 hg; have NB7308_7301 := km BK7301 hg; have NB7302_7308 := kn BK7302 hg; have NB7308_7302 := km BK7302 hg; replace BK7301 := kb BK7301 hb; replace BK7302 := kb BK7302 hb; replace HB := kh HB hb; clear hb hbox hg; have hnb26 := NB7308_7301.out; have hnc26 := NB7301_7308.out; have hnb27 := NB7308_7302.out; have hnc27 := NB7302_7308.out; have ⟨hcz28_0, hcz28_1, hcz28_2, hfz28_0, hfz28_1, hfz28_2⟩ := kz3f BK7308; have ⟨hcz29_0, hcz29_1, hcz29_2, hfz29_0, hfz29_1, hfz29_2⟩ := kz3f BK7301; have ⟨hcz30_0, hcz30_1, hcz30_2, hfz30_0, hfz30_1, hfz30_2⟩ := kz3f BK7302) | ((with_reducible refine gate_callee (f := 37) rfl ?_); refine kc (some 36) Try.func37 #[.agg #[.int .u64 a0_0, .int .u64 a0_1, .int .u64 a0_2], .agg #[.int .u64 a1_0, .int .u64 a1_1, .int .u64 a1_2]] (wide_U192_Sub.calls a0_0 a0_1 a0_2 a1_0 a1_1 a1_2 t7309 t7310 t7311 t7312 _ A11.out) ?_; intro w31 hb; replace BK7301 := kb BK7301 hb; replace BK7302 := kb BK7302 hb; replace BK7308 := kb (o' := .cells #[.int .u64 t7304, .int .u64 t7305, .int .u64 t7306] 26 (0, 0)) BK7308 hb; replace HB := kh HB hb; (try clear hb); (try clear hb2); (try clear hk); (try clear hi)) | ((with_reducible refine gate_dst (N := 10) rfl ?_); (try (refine gate_guard (by rfl) ?_; dsimp only)); refine kx 10 #[.int .u64 0, .int .u64 0, .int .u64 0] 26 ?_; intro gb7313 hg w32 hbox hb; have BK7313 := Aside0.mk (hbox); have GW7313 := kg HB hg; have GE7313 := kg HB hg; have NB7301_7313 := kn BK7301 hg; have NB7313_7301 := km BK7301 hg; have NB7302_7313 := kn BK7302 hg; have NB7313_7302 := km BK7302 hg; have NB7308_7313 := kn BK7308 hg; have NB7313_7308 := km BK7308 hg; replace BK7301 := kb BK7301 hb; replace BK7302 := kb BK7302 hb; replace BK7308 := kb BK7308 hb; replace HB := kh HB hb; clear hb hbox hg; have hnb33 := NB7313_7301.out; have hnc33 := NB7301_7313.out; have hnb34 := NB7313_7302.out; have hnc34 := NB7302_7313.out; have hnb35 := NB7313_7308.out; have hnc35 := NB7308_7313.out; have ⟨hcz36_0, hcz36_1, hcz36_2, hfz36_0, hfz36_1, hfz36_2⟩ := kz3f BK7313))
      generalize hW_ : (((w32.setCell ⟨gb7313, 0, none⟩ (.int .u64 t7309)).setCell ⟨gb7313, 1, none⟩ (.int .u64 t7310)).setCell ⟨gb7313, 2, none⟩ (.int .u64 t7311)) = w37
      replace BK7301 := kr BK7301 hW_
      replace BK7302 := kr BK7302 hW_
      replace BK7308 := kr BK7308 hW_
      replace BK7313 := kr (o' := .cells #[.int .u64 t7309, .int .u64 t7310, .int .u64 t7311] 26 (0, 0)) BK7313 hW_
      replace HB := kq HB hW_
      clear hW_
      replace BK7301 := Aside0.mk (blk_drew BK7301.out)
      replace BK7302 := Aside0.mk (blk_drew BK7302.out)
      replace BK7308 := Aside0.mk (blk_drew BK7308.out)
      replace BK7313 := Aside0.mk (blk_drew BK7313.out)
      replace HB := Aside0.mk (below_drew1 HB.out)
      refine start_ (n := 6) (S := fun w' => w'.cell? ⟨gb7301, 0, none⟩ = some (.int .u64 a0_0) ∧ w'.cell? ⟨gb7301, 1, none⟩ = some (.int .u64 a0_1) ∧ w'.cell? ⟨gb7301, 2, none⟩ = some (.int .u64 a0_2) ∧ w'.cell? ⟨gb7302, 0, none⟩ = some (.int .u64 a1_0) ∧ w'.cell? ⟨gb7302, 1, none⟩ = some (.int .u64 a1_1) ∧ w'.cell? ⟨gb7302, 2, none⟩ = some (.int .u64 a1_2)) (ds := []) #[false, false, false, false, false, false] (by kernel_rfl) rfl rfl ⟨bc BK7301 0, bc BK7301 1, bc BK7301 2, bc BK7302 0, bc BK7302 1, bc BK7302 2⟩ (fun hHeld => ?_)
      generalize w37.drew = w38 at BK7301 BK7302 BK7308 BK7313 HB hHeld ⊢
      refine tak 0 (some 39) #[true, false, false, false, false, false] (by kernel_rfl) hHeld ?_
      refine tak 2 (some 41) #[true, false, true, false, false, false] (by kernel_rfl) hHeld ?_
      refine one_ (i := 1) (N := some 40) #[true, true, true, false, false, false] rfl rfl (by kernel_rfl) (by decide) (fun K hK => ?_)
      refine goes_ Try.func19 (by kernel_rfl) rfl #[.agg #[.int .u64 a0_0, .int .u64 a0_1, .int .u64 a0_2]] (by rfl) rfl rfl pa ?_
      with_reducible refine (flyballlaw01_of3.calls k a0_0 a0_1 a0_2 t7314 _ A12.out).mono ?_
      rintro e w39 ⟨v7315, rfl, ho0, hb⟩
      refine ⟨_, rfl, ?_⟩
      have HO7316 := Aside0.mk (Kd.R_lower ho0 (below_size (pl HB)))
      replace BK7301 := kb BK7301 hb
      replace BK7302 := kb BK7302 hb
      replace BK7308 := kb BK7308 hb
      replace BK7313 := kb BK7313 hb
      replace HB := kh HB hb
      (try clear hb)
      (try clear hb2)
      (try clear hk)
      (try clear hi)
      (try clear ho0)
      refine hK.out _ _ ⟨bc BK7301 0, bc BK7301 1, bc BK7301 2, bc BK7302 0, bc BK7302 1, bc BK7302 2⟩ (fun hHeld => ?_)
      clear hK K
      refine nrm (some 40) ?_
      refine one_ (i := 3) (N := some 42) #[true, true, true, true, false, false] rfl rfl (by kernel_rfl) (by decide) (fun K hK => ?_)
      refine goes_ Try.func19 (by kernel_rfl) rfl #[.agg #[.int .u64 a1_0, .int .u64 a1_1, .int .u64 a1_2]] (by rfl) rfl rfl pa ?_
      with_reducible refine (flyballlaw01_of3.calls k a1_0 a1_1 a1_2 t7317 _ A13.out).mono ?_
      rintro e w40 ⟨v7318, rfl, ho0, hb⟩
      refine ⟨_, rfl, ?_⟩
      have n0_ := Aside0.mk (Kd.R_elder' (by (with_reducible repeat (first | apply Kd.R_alloc | apply Kd.R_drewN | apply Kd.R_drew)); exact HO7316.out) (Kd.R_base ho0) hb)
      have n1_ := Aside0.mk (Kd.R_lower (Kd.R_new' ho0 (Kd.R_lt (by (with_reducible repeat (first | apply Kd.R_alloc | apply Kd.R_drewN | apply Kd.R_drew)); exact HO7316.out))) (below_size (pl HB)))
      (first | have n2_ := flyballlaw01_WideThrees.kb0 BK7301 hb | have n2_ := flyballlaw01_WideThrees.kb1 BK7301 hb | have n2_ := flyballlaw01_WideThrees.kb2 BK7301 hb | have n2_ := kb BK7301 hb)
      (first | have n3_ := flyballlaw01_WideThrees.kb0 BK7302 hb | have n3_ := flyballlaw01_WideThrees.kb1 BK7302 hb | have n3_ := flyballlaw01_WideThrees.kb2 BK7302 hb | have n3_ := kb BK7302 hb)
      (first | have n4_ := flyballlaw01_WideThrees.kb0 BK7308 hb | have n4_ := flyballlaw01_WideThrees.kb1 BK7308 hb | have n4_ := flyballlaw01_WideThrees.kb2 BK7308 hb | have n4_ := kb BK7308 hb)
      (first | have n5_ := flyballlaw01_WideThrees.kb0 BK7313 hb | have n5_ := flyballlaw01_WideThrees.kb1 BK7313 hb | have n5_ := flyballlaw01_WideThrees.kb2 BK7313 hb | have n5_ := kb BK7313 hb)
      have n6_ := kh HB hb
      clear HO7316
      clear BK7301
      clear BK7302
      clear BK7308
      clear BK7313
      clear HB
      have HO7316 := n0_
      have HO7319 := n1_
      have BK7301 := n2_
      have BK7302 := n3_
      have BK7308 := n4_
      have BK7313 := n5_
      have HB := n6_
      clear n0_ n1_ n2_ n3_ n4_ n5_ n6_
      (try clear hb)
      (try clear hb2)
      (try clear hk)
      (try clear hi)
      (try clear ho0)
      obtain ⟨Ao41, co41, eo41⟩ := Kd.R_slice HO7316.out
      (first | subst eo41 | (injection eo41 with f1_ f2_ f3_; have f4_ := f1_.symm; have f5_ := f3_.symm; clear f1_ f2_ f3_; subst f4_; subst f5_))
      obtain ⟨Ao42, co42, eo42⟩ := Kd.R_slice HO7319.out
      (first | subst eo42 | (injection eo42 with f1_ f2_ f3_; have f4_ := f1_.symm; have f5_ := f3_.symm; clear f1_ f2_ f3_; subst f4_; subst f5_))
      refine hK.out _ _ ⟨bc BK7301 0, bc BK7301 1, bc BK7301 2, bc BK7302 0, bc BK7302 1, bc BK7302 2⟩ (fun hHeld => ?_)
      clear hK K
      refine nrm (some 42) ?_
      refine one_ (i := 4) (N := some 43) #[true, true, true, true, true, false] rfl rfl (by kernel_rfl) (by decide) (fun K hK => ?_)
      refine goes_ Try.func31 (by kernel_rfl) rfl #[.slice Ao41 t7314.length co41, .slice Ao42 t7317.length co42] (by rfl) rfl rfl pa ?_
      with_reducible refine (flyballref01_Add.calls k _ _ t7314 _ _ t7317 t7320 _ ?side1 ?side2 ?side3 ?side4 A14.out).mono ?_
      (case side1 => repeat (first | exact (Kd.R_reads' HO7316.out).2.2 | (with_reducible refine Kd.C_alloc ?_ _) | (with_reducible refine Kd.C_drewN ?_ _) | (with_reducible refine Kd.C_drew ?_)))
      (case side2 => exact (Kd.R_reads' HO7316.out).2.1)
      (case side3 => repeat (first | exact (Kd.R_reads' HO7319.out).2.2 | (with_reducible refine Kd.C_alloc ?_ _) | (with_reducible refine Kd.C_drewN ?_ _) | (with_reducible refine Kd.C_drew ?_)))
      (case side4 => exact (Kd.R_reads' HO7319.out).2.1)
      rintro e w43 ⟨v7321, rfl, ho0, hb⟩
      refine ⟨_, rfl, ?_⟩
      have n0_ := Aside0.mk (Kd.R_elder' (by (with_reducible repeat (first | apply Kd.R_alloc | apply Kd.R_drewN | apply Kd.R_drew)); exact HO7316.out) (Kd.R_base ho0) hb)
      have n1_ := Aside0.mk (Kd.R_elder' (by (with_reducible repeat (first | apply Kd.R_alloc | apply Kd.R_drewN | apply Kd.R_drew)); exact HO7319.out) (Kd.R_base ho0) hb)
      have n2_ := Aside0.mk (Kd.R_lower (Kd.R_new' (Kd.R_new' ho0 (Kd.R_lt (by (with_reducible repeat (first | apply Kd.R_alloc | apply Kd.R_drewN | apply Kd.R_drew)); exact HO7316.out))) (Kd.R_lt (by (with_reducible repeat (first | apply Kd.R_alloc | apply Kd.R_drewN | apply Kd.R_drew)); exact HO7319.out))) (below_size (pl HB)))
      (first | have n3_ := flyballlaw01_WideThrees.kb0 BK7301 hb | have n3_ := flyballlaw01_WideThrees.kb1 BK7301 hb | have n3_ := flyballlaw01_WideThrees.kb2 BK7301 hb | have n3_ := kb BK7301 hb)
      (first | have n4_ := flyballlaw01_WideThrees.kb0 BK7302 hb | have n4_ := flyballlaw01_WideThrees.kb1 BK7302 hb | have n4_ := flyballlaw01_WideThrees.kb2 BK7302 hb | have n4_ := kb BK7302 hb)
      (first | have n5_ := flyballlaw01_WideThrees.kb0 BK7308 hb | have n5_ := flyballlaw01_WideThrees.kb1 BK7308 hb | have n5_ := flyballlaw01_WideThrees.kb2 BK7308 hb | have n5_ := kb BK7308 hb)
      (first | have n6_ := flyballlaw01_WideThrees.kb0 BK7313 hb | have n6_ := flyballlaw01_WideThrees.kb1 BK7313 hb | have n6_ := flyballlaw01_WideThrees.kb2 BK7313 hb | have n6_ := kb BK7313 hb)
      have n7_ := kh HB hb
      clear HO7316
      clear HO7319
      clear BK7301
      clear BK7302
      clear BK7308
      clear BK7313
      clear HB
      have HO7316 := n0_
      have HO7319 := n1_
      have HO7322 := n2_
      have BK7301 := n3_
      have BK7302 := n4_
      have BK7308 := n5_
      have BK7313 := n6_
      have HB := n7_
      clear n0_ n1_ n2_ n3_ n4_ n5_ n6_ n7_
      (try clear hb)
      (try clear hb2)
      (try clear hk)
      (try clear hi)
      (try clear ho0)
      refine hK.out _ _ ⟨bc BK7301 0, bc BK7301 1, bc BK7301 2, bc BK7302 0, bc BK7302 1, bc BK7302 2⟩ (fun hHeld => ?_)
      clear hK K
      refine nrm (some 43) ?_
      refine pur 5 (some 12) #[true, true, true, true, true, true] (by kernel_rfl) ?_
      refine done_ (by kernel_rfl) ?_
      try go_wp2
      replace HO7316 := Aside0.mk (Kd.R_drew HO7316.out)
      replace HO7319 := Aside0.mk (Kd.R_drew HO7319.out)
      replace HO7322 := Aside0.mk (Kd.R_drew HO7322.out)
      replace BK7301 := Aside0.mk (blk_drew BK7301.out)
      replace BK7302 := Aside0.mk (blk_drew BK7302.out)
      replace BK7308 := Aside0.mk (blk_drew BK7308.out)
      replace BK7313 := Aside0.mk (blk_drew BK7313.out)
      replace HB := Aside0.mk (below_drew1 HB.out)
      refine start_ (n := 10) (S := fun w' => w'.cell? ⟨gb7301, 0, none⟩ = some (.int .u64 a0_0) ∧ w'.cell? ⟨gb7301, 1, none⟩ = some (.int .u64 a0_1) ∧ w'.cell? ⟨gb7301, 2, none⟩ = some (.int .u64 a0_2) ∧ w'.cell? ⟨gb7302, 0, none⟩ = some (.int .u64 a1_0) ∧ w'.cell? ⟨gb7302, 1, none⟩ = some (.int .u64 a1_1) ∧ w'.cell? ⟨gb7302, 2, none⟩ = some (.int .u64 a1_2)) (ds := []) #[false, false, false, false, false, false, false, false, false, false] (by kernel_rfl) rfl rfl ⟨bc BK7301 0, bc BK7301 1, bc BK7301 2, bc BK7302 0, bc BK7302 1, bc BK7302 2⟩ (fun hHeld => ?_); refine with_tabW flyballlaw01_WideThrees.tab9 flyballlaw01_WideThrees.bits9 (fun HT_ HW_ => ?_)
      generalize w43.drew = w44 at HO7316 HO7319 HO7322 BK7301 BK7302 BK7308 BK7313 HB hHeld ⊢
      refine tak 0 (some 45) #[true, false, false, false, false, false, false, false, false, false] (take_ofW HT_.out HW_.out (by kernel_rfl)) hHeld ?_
      refine tak 2 (some 47) #[true, false, true, false, false, false, false, false, false, false] (take_ofW HT_.out HW_.out (by kernel_rfl)) hHeld ?_
      refine one_ (i := 1) (N := some 46) #[true, true, true, false, false, false, false, false, false, false] rfl rfl (one_of HT_.out (by kernel_rfl)) (by decide) (fun K hK => ?_)
      refine goes_ Try.func19 (by kernel_rfl) rfl #[.agg #[.int .u64 a0_0, .int .u64 a0_1, .int .u64 a0_2]] (by rfl) rfl rfl pa ?_
      with_reducible refine (flyballlaw01_of3.calls k a0_0 a0_1 a0_2 t7323 _ A15.out).mono ?_
      rintro e w45 ⟨v7324, rfl, ho0, hb⟩
      refine ⟨_, rfl, ?_⟩
      have n0_ := Aside0.mk (Kd.R_elder' (by (with_reducible repeat (first | apply Kd.R_alloc | apply Kd.R_drewN | apply Kd.R_drew)); exact HO7316.out) (Kd.R_base ho0) hb)
      have n1_ := Aside0.mk (Kd.R_elder' (by (with_reducible repeat (first | apply Kd.R_alloc | apply Kd.R_drewN | apply Kd.R_drew)); exact HO7319.out) (Kd.R_base ho0) hb)
      have n2_ := Aside0.mk (Kd.R_elder' (by (with_reducible repeat (first | apply Kd.R_alloc | apply Kd.R_drewN | apply Kd.R_drew)); exact HO7322.out) (Kd.R_base ho0) hb)
      have n3_ := Aside0.mk (Kd.R_lower (Kd.R_new' (Kd.R_new' (Kd.R_new' ho0 (Kd.R_lt (by (with_reducible repeat (first | apply Kd.R_alloc | apply Kd.R_drewN | apply Kd.R_drew)); exact HO7316.out))) (Kd.R_lt (by (with_reducible repeat (first | apply Kd.R_alloc | apply Kd.R_drewN | apply Kd.R_drew)); exact HO7319.out))) (Kd.R_lt (by (with_reducible repeat (first | apply Kd.R_alloc | apply Kd.R_drewN | apply Kd.R_drew)); exact HO7322.out))) (below_size (pl HB)))
      (first | have n4_ := flyballlaw01_WideThrees.kb0 BK7301 hb | have n4_ := flyballlaw01_WideThrees.kb1 BK7301 hb | have n4_ := flyballlaw01_WideThrees.kb2 BK7301 hb | have n4_ := kb BK7301 hb)
      (first | have n5_ := flyballlaw01_WideThrees.kb0 BK7302 hb | have n5_ := flyballlaw01_WideThrees.kb1 BK7302 hb | have n5_ := flyballlaw01_WideThrees.kb2 BK7302 hb | have n5_ := kb BK7302 hb)
      (first | have n6_ := flyballlaw01_WideThrees.kb0 BK7308 hb | have n6_ := flyballlaw01_WideThrees.kb1 BK7308 hb | have n6_ := flyballlaw01_WideThrees.kb2 BK7308 hb | have n6_ := kb BK7308 hb)
      (first | have n7_ := flyballlaw01_WideThrees.kb0 BK7313 hb | have n7_ := flyballlaw01_WideThrees.kb1 BK7313 hb | have n7_ := flyballlaw01_WideThrees.kb2 BK7313 hb | have n7_ := kb BK7313 hb)
      have n8_ := kh HB hb
      clear HO7316
      clear HO7319
      clear HO7322
      clear BK7301
      clear BK7302
      clear BK7308
      clear BK7313
      clear HB
      have HO7316 := n0_
      have HO7319 := n1_
      have HO7322 := n2_
      have HO7325 := n3_
      have BK7301 := n4_
      have BK7302 := n5_
      have BK7308 := n6_
      have BK7313 := n7_
      have HB := n8_
      clear n0_ n1_ n2_ n3_ n4_ n5_ n6_ n7_ n8_
      (try clear hb)
      (try clear hb2)
      (try clear hk)
      (try clear hi)
      (try clear ho0)
      refine hK.out _ _ ⟨bc BK7301 0, bc BK7301 1, bc BK7301 2, bc BK7302 0, bc BK7302 1, bc BK7302 2⟩ (fun hHeld => ?_)
      clear hK K
      refine nrm (some 46) ?_
      refine one_ (i := 3) (N := some 48) #[true, true, true, true, false, false, false, false, false, false] rfl rfl (one_of HT_.out (by kernel_rfl)) (by decide) (fun K hK => ?_)
      refine goes_ Try.func19 (by kernel_rfl) rfl #[.agg #[.int .u64 a1_0, .int .u64 a1_1, .int .u64 a1_2]] (by rfl) rfl rfl pa ?_
      with_reducible refine (flyballlaw01_of3.calls k a1_0 a1_1 a1_2 t7326 _ A16.out).mono ?_
      rintro e w46 ⟨v7327, rfl, ho0, hb⟩
      refine ⟨_, rfl, ?_⟩
      have n0_ := Aside0.mk (Kd.R_elder' (by (with_reducible repeat (first | apply Kd.R_alloc | apply Kd.R_drewN | apply Kd.R_drew)); exact HO7316.out) (Kd.R_base ho0) hb)
      have n1_ := Aside0.mk (Kd.R_elder' (by (with_reducible repeat (first | apply Kd.R_alloc | apply Kd.R_drewN | apply Kd.R_drew)); exact HO7319.out) (Kd.R_base ho0) hb)
      have n2_ := Aside0.mk (Kd.R_elder' (by (with_reducible repeat (first | apply Kd.R_alloc | apply Kd.R_drewN | apply Kd.R_drew)); exact HO7322.out) (Kd.R_base ho0) hb)
      have n3_ := Aside0.mk (Kd.R_elder' (by (with_reducible repeat (first | apply Kd.R_alloc | apply Kd.R_drewN | apply Kd.R_drew)); exact HO7325.out) (Kd.R_base ho0) hb)
      have n4_ := Aside0.mk (Kd.R_lower (Kd.R_new' (Kd.R_new' (Kd.R_new' (Kd.R_new' ho0 (Kd.R_lt (by (with_reducible repeat (first | apply Kd.R_alloc | apply Kd.R_drewN | apply Kd.R_drew)); exact HO7316.out))) (Kd.R_lt (by (with_reducible repeat (first | apply Kd.R_alloc | apply Kd.R_drewN | apply Kd.R_drew)); exact HO7319.out))) (Kd.R_lt (by (with_reducible repeat (first | apply Kd.R_alloc | apply Kd.R_drewN | apply Kd.R_drew)); exact HO7322.out))) (Kd.R_lt (by (with_reducible repeat (first | apply Kd.R_alloc | apply Kd.R_drewN | apply Kd.R_drew)); exact HO7325.out))) (below_size (pl HB)))
      (first | have n5_ := flyballlaw01_WideThrees.kb0 BK7301 hb | have n5_ := flyballlaw01_WideThrees.kb1 BK7301 hb | have n5_ := flyballlaw01_WideThrees.kb2 BK7301 hb | have n5_ := kb BK7301 hb)
      (first | have n6_ := flyballlaw01_WideThrees.kb0 BK7302 hb | have n6_ := flyballlaw01_WideThrees.kb1 BK7302 hb | have n6_ := flyballlaw01_WideThrees.kb2 BK7302 hb | have n6_ := kb BK7302 hb)
      (first | have n7_ := flyballlaw01_WideThrees.kb0 BK7308 hb | have n7_ := flyballlaw01_WideThrees.kb1 BK7308 hb | have n7_ := flyballlaw01_WideThrees.kb2 BK7308 hb | have n7_ := kb BK7308 hb)
      (first | have n8_ := flyballlaw01_WideThrees.kb0 BK7313 hb | have n8_ := flyballlaw01_WideThrees.kb1 BK7313 hb | have n8_ := flyballlaw01_WideThrees.kb2 BK7313 hb | have n8_ := kb BK7313 hb)
      have n9_ := kh HB hb
      clear HO7316
      clear HO7319
      clear HO7322
      clear HO7325
      clear BK7301
      clear BK7302
      clear BK7308
      clear BK7313
      clear HB
      have HO7316 := n0_
      have HO7319 := n1_
      have HO7322 := n2_
      have HO7325 := n3_
      have HO7328 := n4_
      have BK7301 := n5_
      have BK7302 := n6_
      have BK7308 := n7_
      have BK7313 := n8_
      have HB := n9_
      clear n0_ n1_ n2_ n3_ n4_ n5_ n6_ n7_ n8_ n9_
      (try clear hb)
      (try clear hb2)
      (try clear hk)
      (try clear hi)
      (try clear ho0)
      obtain ⟨Ao47, co47, eo47⟩ := Kd.R_slice HO7325.out
      (first | subst eo47 | (injection eo47 with f1_ f2_ f3_; have f4_ := f1_.symm; have f5_ := f3_.symm; clear f1_ f2_ f3_; subst f4_; subst f5_))
      obtain ⟨Ao48, co48, eo48⟩ := Kd.R_slice HO7328.out
      (first | subst eo48 | (injection eo48 with f1_ f2_ f3_; have f4_ := f1_.symm; have f5_ := f3_.symm; clear f1_ f2_ f3_; subst f4_; subst f5_))
      refine hK.out _ _ ⟨bc BK7301 0, bc BK7301 1, bc BK7301 2, bc BK7302 0, bc BK7302 1, bc BK7302 2⟩ (fun hHeld => ?_)
      clear hK K
      refine nrm (some 48) ?_
      refine one_ (i := 4) (N := some 49) #[true, true, true, true, true, false, false, false, false, false] rfl rfl (one_of HT_.out (by kernel_rfl)) (by decide) (fun K hK => ?_)
      refine goes_ Try.func32 (by kernel_rfl) rfl #[.slice Ao47 t7323.length co47, .slice Ao48 t7326.length co48, .int .i64 192] (by rfl) rfl rfl pa ?_
      with_reducible refine (flyballref01_Sub.calls k _ _ t7323 _ _ t7326 192 t7329 t7330 _ ?side1 ?side2 ?side3 ?side4 A17.out).mono ?_
      (case side1 => repeat (first | exact (Kd.R_reads' HO7325.out).2.2 | (with_reducible refine Kd.C_alloc ?_ _) | (with_reducible refine Kd.C_drewN ?_ _) | (with_reducible refine Kd.C_drew ?_)))
      (case side2 => exact (Kd.R_reads' HO7325.out).2.1)
      (case side3 => repeat (first | exact (Kd.R_reads' HO7328.out).2.2 | (with_reducible refine Kd.C_alloc ?_ _) | (with_reducible refine Kd.C_drewN ?_ _) | (with_reducible refine Kd.C_drew ?_)))
      (case side4 => exact (Kd.R_reads' HO7328.out).2.1)
      rintro e w49 ⟨v7331, rfl, ho0, hb⟩
      refine ⟨_, rfl, ?_⟩
      have n0_ := Aside0.mk (Kd.R_elder' (by (with_reducible repeat (first | apply Kd.R_alloc | apply Kd.R_drewN | apply Kd.R_drew)); exact HO7316.out) (Kd.R_base ho0) hb)
      have n1_ := Aside0.mk (Kd.R_elder' (by (with_reducible repeat (first | apply Kd.R_alloc | apply Kd.R_drewN | apply Kd.R_drew)); exact HO7319.out) (Kd.R_base ho0) hb)
      have n2_ := Aside0.mk (Kd.R_elder' (by (with_reducible repeat (first | apply Kd.R_alloc | apply Kd.R_drewN | apply Kd.R_drew)); exact HO7322.out) (Kd.R_base ho0) hb)
      have n3_ := Aside0.mk (Kd.R_elder' (by (with_reducible repeat (first | apply Kd.R_alloc | apply Kd.R_drewN | apply Kd.R_drew)); exact HO7325.out) (Kd.R_base ho0) hb)
      have n4_ := Aside0.mk (Kd.R_elder' (by (with_reducible repeat (first | apply Kd.R_alloc | apply Kd.R_drewN | apply Kd.R_drew)); exact HO7328.out) (Kd.R_base ho0) hb)
      have n5_ := Aside0.mk (Kd.R_lower (Kd.R_new' (Kd.R_new' (Kd.R_new' (Kd.R_new' (Kd.R_new' ho0 (Kd.R_lt (by (with_reducible repeat (first | apply Kd.R_alloc | apply Kd.R_drewN | apply Kd.R_drew)); exact HO7316.out))) (Kd.R_lt (by (with_reducible repeat (first | apply Kd.R_alloc | apply Kd.R_drewN | apply Kd.R_drew)); exact HO7319.out))) (Kd.R_lt (by (with_reducible repeat (first | apply Kd.R_alloc | apply Kd.R_drewN | apply Kd.R_drew)); exact HO7322.out))) (Kd.R_lt (by (with_reducible repeat (first | apply Kd.R_alloc | apply Kd.R_drewN | apply Kd.R_drew)); exact HO7325.out))) (Kd.R_lt (by (with_reducible repeat (first | apply Kd.R_alloc | apply Kd.R_drewN | apply Kd.R_drew)); exact HO7328.out))) (below_size (pl HB)))
      (first | have n6_ := flyballlaw01_WideThrees.kb0 BK7301 hb | have n6_ := flyballlaw01_WideThrees.kb1 BK7301 hb | have n6_ := flyballlaw01_WideThrees.kb2 BK7301 hb | have n6_ := kb BK7301 hb)
      (first | have n7_ := flyballlaw01_WideThrees.kb0 BK7302 hb | have n7_ := flyballlaw01_WideThrees.kb1 BK7302 hb | have n7_ := flyballlaw01_WideThrees.kb2 BK7302 hb | have n7_ := kb BK7302 hb)
      (first | have n8_ := flyballlaw01_WideThrees.kb0 BK7308 hb | have n8_ := flyballlaw01_WideThrees.kb1 BK7308 hb | have n8_ := flyballlaw01_WideThrees.kb2 BK7308 hb | have n8_ := kb BK7308 hb)
      (first | have n9_ := flyballlaw01_WideThrees.kb0 BK7313 hb | have n9_ := flyballlaw01_WideThrees.kb1 BK7313 hb | have n9_ := flyballlaw01_WideThrees.kb2 BK7313 hb | have n9_ := kb BK7313 hb)
      have n10_ := kh HB hb
      clear HO7316
      clear HO7319
      clear HO7322
      clear HO7325
      clear HO7328
      clear BK7301
      clear BK7302
      clear BK7308
      clear BK7313
      clear HB
      have HO7316 := n0_
      have HO7319 := n1_
      have HO7322 := n2_
      have HO7325 := n3_
      have HO7328 := n4_
      have HO7332 := n5_
      have BK7301 := n6_
      have BK7302 := n7_
      have BK7308 := n8_
      have BK7313 := n9_
      have HB := n10_
      clear n0_ n1_ n2_ n3_ n4_ n5_ n6_ n7_ n8_ n9_ n10_
      (try clear hb)
      (try clear hb2)
      (try clear hk)
      (try clear hi)
      (try clear ho0)
      refine hK.out _ _ ⟨bc BK7301 0, bc BK7301 1, bc BK7301 2, bc BK7302 0, bc BK7302 1, bc BK7302 2⟩ (fun hHeld => ?_)
      clear hK K
      refine nrm (some 49) ?_
      refine pur 5 (some 44) #[true, true, true, true, true, true, false, false, false, false] (any_of HT_.out (by kernel_rfl)) ?_
      refine pur 6 (some 50) #[true, true, true, true, true, true, true, false, false, false] (any_of HT_.out (by kernel_rfl)) ?_
      refine pur 7 (some 51) #[true, true, true, true, true, true, true, true, false, false] (any_of HT_.out (by kernel_rfl)) ?_
      refine pur 8 (some 13) #[true, true, true, true, true, true, true, true, true, false] (any_of HT_.out (by kernel_rfl)) ?_
      refine pur 9 (some 14) #[true, true, true, true, true, true, true, true, true, true] (any_of HT_.out (by kernel_rfl)) ?_
      refine done_ (done_of HT_.out (by kernel_rfl)) ?_
      try go_wp2
      go_loopg [15, 16] k (fun kq v15 v16 w' => ∃ (x15_1 : List Bool) (x16_1 : Int), v16 = .int .i64 x16_1 ∧ Aside0 (flyballlaw01_WideThrees.l0 kq l2 true t7307 t7312 t7320 t7329 t7330 x15_1 x16_1 a0_0 a0_1 a0_2 a1_0 a1_1 a1_2 t7304 t7305 t7306 t7309 t7310 t7311 = some r) ∧ Aside0 (kq ≤ k) ∧ Aside0 (Kd.R Kd.bool 4 w' w.heap.size (fun k_ => some k_ ≠ (v7331 : Value).ownBlock ∧ some k_ ≠ (v15 : Value).ownBlock) v7321 t7320) ∧ Aside0 (Kd.R Kd.bool 4 w' w.heap.size (fun k_ => some k_ ≠ (v7321 : Value).ownBlock ∧ some k_ ≠ (v15 : Value).ownBlock) v7331 t7329) ∧ Aside0 (Kd.R Kd.bool 4 w' w.heap.size (fun k_ => some k_ ≠ (v7321 : Value).ownBlock ∧ some k_ ≠ (v7331 : Value).ownBlock) v15 x15_1) ∧ Aside0 (w'.heap[gb7301]? = some (.cells #[.int .u64 a0_0, .int .u64 a0_1, .int .u64 a0_2] 26 (0, 0))) ∧ Aside0 (w'.heap[gb7302]? = some (.cells #[.int .u64 a1_0, .int .u64 a1_1, .int .u64 a1_2] 26 (0, 0))) ∧ Aside0 (w'.heap[gb7308]? = some (.cells #[.int .u64 t7304, .int .u64 t7305, .int .u64 t7306] 26 (0, 0))) ∧ Aside0 (w'.heap[gb7313]? = some (.cells #[.int .u64 t7309, .int .u64 t7310, .int .u64 t7311] 26 (0, 0))) ∧ Aside0 (Below w.heap.size w w'))
      case atStart => exact ⟨(([] : List Bool)), (0), (by first | rfl | (simp; done) | (simp [*]; done)), H', ⟨Nat.le_refl _⟩, ⟨by (with_reducible repeat (first | apply Kd.R_alloc | apply Kd.R_drewN | apply Kd.R_drew)); exact Kd.R_mono HO7322.out (fun _ hk => ⟨hk.2, (by simp [Value.ownBlock])⟩)⟩, ⟨by (with_reducible repeat (first | apply Kd.R_alloc | apply Kd.R_drewN | apply Kd.R_drew)); exact Kd.R_mono HO7332.out (fun _ hk => ⟨hk.1.1.2, (by simp [Value.ownBlock])⟩)⟩, ⟨by first | exact Kd.R_nil _ _ _ _ _ | exact Kd.N_nil _ _ _ _ _ | exact Kd.V_nil _ _ _ _ _ | exact Kd.Q_nil _ _ _ _ _ | exact Kd.S_nil _ _ _ _ _⟩, ⟨pk BK7301⟩, ⟨pk BK7302⟩, ⟨pk BK7308⟩, ⟨pk BK7313⟩, ⟨pl HB⟩⟩
      case round =>
        clear H'
        try clear c1
        try clear c2
        try clear p2
        try clear c3
        try clear c5
        try clear c6
        try clear c6b0
        try clear c6b1
        try clear c9
        try clear c11
        try clear c19
        try clear c21
        try clear c26
        try clear c27
        try clear c31
        try clear c32
        try clear c33
        try clear c34
        try clear c35
        try clear c36
        try clear c37
        try clear hcz22_0
        try clear hcz22_1
        try clear hcz22_2
        try clear hcz23_0
        try clear hcz23_1
        try clear hcz23_2
        try clear hcz28_0
        try clear hcz28_1
        try clear hcz28_2
        try clear hcz29_0
        try clear hcz29_1
        try clear hcz29_2
        try clear hcz30_0
        try clear hcz30_1
        try clear hcz30_2
        try clear hcz36_0
        try clear hcz36_1
        try clear hcz36_2
        try clear hfz22_0
        try clear hfz22_1
        try clear hfz22_2
        try clear hfz23_0
        try clear hfz23_1
        try clear hfz23_2
        try clear hfz28_0
        try clear hfz28_1
        try clear hfz28_2
        try clear hfz29_0
        try clear hfz29_1
        try clear hfz29_2
        try clear hfz30_0
        try clear hfz30_1
        try clear hfz30_2
        try clear hfz36_0
        try clear hfz36_1
        try clear hfz36_2
        obtain ⟨x15_1, x16_1, rfl, HA, HK1, HO_12, HO_13, HO_15, BK7301, BK7302, BK7308, BK7313, HB⟩ := hrel
        cases gk with
        | zero => exact absurd HA.out (by simp [flyballlaw01_WideThrees.l0])
        | succ k1 =>
          have H := HA.out
          clear HA
          simp only [flyballlaw01_WideThrees.l0] at H
          by_cases c50 : x16_1 < (l2.length : Int)
          · rw [if_pos c50] at H
            have c50b0 : decide (x16_1 < (l2.length : Int)) = true := decide_eq_true c50
            clear c50
            by_cases c51 : 0 ≤ x16_1
            · rw [if_pos c51] at H
              have c51b0 : decide (0 ≤ x16_1) = true := decide_eq_true c51
              clear c51
              obtain ⟨t7334, A520, H⟩ := Option.bind_eq_some_iff.mp H
              have A52 := Aside0.mk A520
              clear A520
              (try dsimp only at H)
              obtain ⟨t7337, A530, H⟩ := Option.bind_eq_some_iff.mp H
              have A53 := Aside0.mk A530
              clear A530
              (try dsimp only at H)
              have H' := Aside0.mk H
              clear H
              have p7333 : 0 ≤ (x16_1 : Int) := of_decide_eq_true (by first | (with_reducible assumption) | assumption)
              have q7333 : x16_1 < (l2.length : Int) := of_decide_eq_true (by first | (with_reducible assumption) | assumption)
              obtain ⟨ad7333, e7333, hx7333_0, hx7333_1⟩ := at_T24 HR2.out x16_1 p7333 q7333
              cases e7333
              replace hx7333_0 := (HB.out.cell (World.block_lt_of_cell? w _ hx7333_0)).trans hx7333_0
              replace hx7333_1 := (HB.out.cell (World.block_lt_of_cell? w _ hx7333_1)).trans hx7333_1
              replace p7333 := eq_true p7333
              replace q7333 := eq_true q7333
              go_wp2_with (first | ((with_reducible refine gate_callee (f := 15) rfl ?_); refine goesL_ (some 63) rfl rfl Try.func15 (by kernel_rfl) rfl #[.agg #[.int .u64 ((rd_T24 l2 x16_1).f0), .int .u64 ((rd_T24 l2 x16_1).f1)]] rfl pa ?_; (with_reducible refine (flyballlaw01_of.calls k1 ((rd_T24 l2 x16_1).f0) ((rd_T24 l2 x16_1).f1) t7334 _ A52.out).mono ?_); rintro e w54 ⟨v7335, rfl, ho0, hb⟩; refine ⟨_, rfl, ?_⟩; have n0_ := Aside0.mk (Kd.R_elder' (by (with_reducible repeat (first | apply Kd.R_alloc | apply Kd.R_drewN | apply Kd.R_drew)); exact HO_12.out) (Kd.R_base ho0) hb); have n1_ := Aside0.mk (Kd.R_elder' (by (with_reducible repeat (first | apply Kd.R_alloc | apply Kd.R_drewN | apply Kd.R_drew)); exact HO_13.out) (Kd.R_base ho0) hb); have n2_ := Aside0.mk (Kd.R_elder' (by (with_reducible repeat (first | apply Kd.R_alloc | apply Kd.R_drewN | apply Kd.R_drew)); exact HO_15.out) (Kd.R_base ho0) hb); have n3_ := Aside0.mk (Kd.R_lower (Kd.R_new' (Kd.R_new' (Kd.R_new' ho0 (Kd.R_lt (by (with_reducible repeat (first | apply Kd.R_alloc | apply Kd.R_drewN | apply Kd.R_drew)); exact HO_12.out))) (Kd.R_lt (by (with_reducible repeat (first | apply Kd.R_alloc | apply Kd.R_drewN | apply Kd.R_drew)); exact HO_13.out))) (Kd.R_lt (by (with_reducible repeat (first | apply Kd.R_alloc | apply Kd.R_drewN | apply Kd.R_drew)); exact HO_15.out))) (below_size (pl HB))); (first | have n4_ := flyballlaw01_WideThrees.kb0 BK7301 hb | have n4_ := flyballlaw01_WideThrees.kb1 BK7301 hb | have n4_ := flyballlaw01_WideThrees.kb2 BK7301 hb | have n4_ := kb BK7301 hb); (first | have n5_ := flyballlaw01_WideThrees.kb0 BK7302 hb | have n5_ := flyballlaw01_WideThrees.kb1 BK7302 hb | have n5_ := flyballlaw01_WideThrees.kb2 BK7302 hb | have n5_ := kb BK7302 hb); (first | have n6_ := flyballlaw01_WideThrees.kb0 BK7308 hb | have n6_ := flyballlaw01_WideThrees.kb1 BK7308 hb | have n6_ := flyballlaw01_WideThrees.kb2 BK7308 hb | have n6_ := kb BK7308 hb); (first | have n7_ := flyballlaw01_WideThrees.kb0 BK7313 hb | have n7_ := flyballlaw01_WideThrees.kb1 BK7313 hb | have n7_ := flyballlaw01_WideThrees.kb2 BK7313 hb | have n7_ := kb BK7313 hb); have n8_ := kh HB hb; clear HO_12; clear HO_13; clear HO_15; clear BK7301; clear BK7302; clear BK7308; clear BK7313; clear HB; have HO_12 := n0_; have HO_13 := n1_; have HO_15 := n2_; have HO7336 := n3_; have BK7301 := n4_; have BK7302 := n5_; have BK7308 := n6_; have BK7313 := n7_; have HB := n8_; clear n0_ n1_ n2_ n3_ n4_ n5_ n6_ n7_ n8_; (try clear hb); (try clear hb2); (try clear hk); (try clear hi); (try clear ho0); obtain ⟨Ao55, co55, eo55⟩ := Kd.R_slice HO_15.out; subst eo55; obtain ⟨Ao56, co56, eo56⟩ := Kd.R_slice HO7336.out; subst eo56) | ((with_reducible refine gate_callee (f := 31) rfl ?_); refine goesL_ (some 64) rfl rfl Try.func31 (by kernel_rfl) rfl #[.slice Ao55 x15_1.length co55, .slice Ao56 t7334.length co56] rfl pa ?_; (with_reducible refine (flyballref01_Add.calls k1 _ _ x15_1 _ _ t7334 t7337 _ ?side1 ?side2 ?side3 ?side4 A53.out).mono ?_); (case side1 => repeat (first | exact (Kd.R_reads' HO_15.out).2.2 | (with_reducible refine Kd.C_alloc ?_ _) | (with_reducible refine Kd.C_drewN ?_ _) | (with_reducible refine Kd.C_drew ?_))); (case side2 => exact (Kd.R_reads' HO_15.out).2.1); (case side3 => repeat (first | exact (Kd.R_reads' HO7336.out).2.2 | (with_reducible refine Kd.C_alloc ?_ _) | (with_reducible refine Kd.C_drewN ?_ _) | (with_reducible refine Kd.C_drew ?_))); (case side4 => exact (Kd.R_reads' HO7336.out).2.1); rintro e w57 ⟨v7338, rfl, ho0, hb⟩; refine ⟨_, rfl, ?_⟩; have n0_ := Aside0.mk (Kd.R_elder' (by (with_reducible repeat (first | apply Kd.R_alloc | apply Kd.R_drewN | apply Kd.R_drew)); exact HO_12.out) (Kd.R_base ho0) hb); have n1_ := Aside0.mk (Kd.R_elder' (by (with_reducible repeat (first | apply Kd.R_alloc | apply Kd.R_drewN | apply Kd.R_drew)); exact HO_13.out) (Kd.R_base ho0) hb); have n2_ := Aside0.mk (Kd.R_elder' (by (with_reducible repeat (first | apply Kd.R_alloc | apply Kd.R_drewN | apply Kd.R_drew)); exact HO_15.out) (Kd.R_base ho0) hb); have n3_ := Aside0.mk (Kd.R_elder' (by (with_reducible repeat (first | apply Kd.R_alloc | apply Kd.R_drewN | apply Kd.R_drew)); exact HO7336.out) (Kd.R_base ho0) hb); have n4_ := Aside0.mk (Kd.R_lower (Kd.R_new' (Kd.R_new' (Kd.R_new' (Kd.R_new' ho0 (Kd.R_lt (by (with_reducible repeat (first | apply Kd.R_alloc | apply Kd.R_drewN | apply Kd.R_drew)); exact HO_12.out))) (Kd.R_lt (by (with_reducible repeat (first | apply Kd.R_alloc | apply Kd.R_drewN | apply Kd.R_drew)); exact HO_13.out))) (Kd.R_lt (by (with_reducible repeat (first | apply Kd.R_alloc | apply Kd.R_drewN | apply Kd.R_drew)); exact HO_15.out))) (Kd.R_lt (by (with_reducible repeat (first | apply Kd.R_alloc | apply Kd.R_drewN | apply Kd.R_drew)); exact HO7336.out))) (below_size (pl HB))); (first | have n5_ := flyballlaw01_WideThrees.kb0 BK7301 hb | have n5_ := flyballlaw01_WideThrees.kb1 BK7301 hb | have n5_ := flyballlaw01_WideThrees.kb2 BK7301 hb | have n5_ := kb BK7301 hb); (first | have n6_ := flyballlaw01_WideThrees.kb0 BK7302 hb | have n6_ := flyballlaw01_WideThrees.kb1 BK7302 hb | have n6_ := flyballlaw01_WideThrees.kb2 BK7302 hb | have n6_ := kb BK7302 hb); (first | have n7_ := flyballlaw01_WideThrees.kb0 BK7308 hb | have n7_ := flyballlaw01_WideThrees.kb1 BK7308 hb | have n7_ := flyballlaw01_WideThrees.kb2 BK7308 hb | have n7_ := kb BK7308 hb); (first | have n8_ := flyballlaw01_WideThrees.kb0 BK7313 hb | have n8_ := flyballlaw01_WideThrees.kb1 BK7313 hb | have n8_ := flyballlaw01_WideThrees.kb2 BK7313 hb | have n8_ := kb BK7313 hb); have n9_ := kh HB hb; clear HO_12; clear HO_13; clear HO_15; clear HO7336; clear BK7301; clear BK7302; clear BK7308; clear BK7313; clear HB; have HO_12 := n0_; have HO_13 := n1_; have HO_15 := n2_; have HO7336 := n3_; have HO7339 := n4_; have BK7301 := n5_; have BK7302 := n6_; have BK7308 := n7_; have BK7313 := n8_; have HB := n9_; clear n0_ n1_ n2_ n3_ n4_ n5_ n6_ n7_ n8_ n9_; (try clear hb); (try clear hb2); (try clear hk); (try clear hi); (try clear ho0)))
              go_roundg k1
              case measure => have := HK1.out; omega
              case rel => exact ⟨(t7337), (wrap64 (x16_1 + 1)), (by first | rfl | (simp; done) | (simp [*]; done)), H', ⟨by have := HK1.out; omega⟩, ⟨by (with_reducible repeat (first | apply Kd.R_alloc | apply Kd.R_drewN | apply Kd.R_drew)); exact Kd.R_mono HO_12.out (fun _ hk => ⟨hk.1.1.1, hk.2⟩)⟩, ⟨by (with_reducible repeat (first | apply Kd.R_alloc | apply Kd.R_drewN | apply Kd.R_drew)); exact Kd.R_mono HO_13.out (fun _ hk => ⟨hk.1.1.1, hk.2⟩)⟩, ⟨by (with_reducible repeat (first | apply Kd.R_alloc | apply Kd.R_drewN | apply Kd.R_drew)); exact Kd.R_mono HO7339.out (fun _ hk => ⟨hk.1.1.1.2, hk.1.1.2⟩)⟩, ⟨pk BK7301⟩, ⟨pk BK7302⟩, ⟨pk BK7308⟩, ⟨pk BK7313⟩, ⟨pl HB⟩⟩
            · rw [if_neg c51] at H
              exact absurd H (by simp)
          · rw [if_neg c50] at H
            have c50b0 : decide (x16_1 < (l2.length : Int)) = false := decide_eq_false c50
            clear c50
            by_cases c58 : 192 ≤ (t7320.length : Int)
            · rw [if_pos c58] at H
              have c58b0 := eq_true c58
              have c58b1 : decide (192 ≤ (t7320.length : Int)) = true := decide_eq_true c58
              clear c58
              obtain ⟨y7340, hy7340⟩ : ∃ y_ : List Bool, y_ = (t7320.take 192) := ⟨_, rfl⟩
              replace H : ((flyballlaw01_is3.f k1 t7304 t7305 t7306 y7340).bind fun t7344 => ((flyballlaw01_is3.f k1 t7309 t7310 t7311 t7329).bind fun t7345 => ((wide_Sum.f k1 l2).bind fun bt7346 => (if 0 ≤ (mn (x15_1.length : Int) 192) then (if (mn (x15_1.length : Int) 192) ≤ (x15_1.length : Int) then ((flyballlaw01_is3.f k1 bt7346.1 bt7346.2.1 bt7346.2.2 (x15_1.take ((mn (x15_1.length : Int) 192) : Int).toNat)).bind fun t7353 => (if true = true then (if t7344 = true then (if t7345 = true then (if t7353 = true then (if (t7320.length : Int) > 192 then (if 192 < (t7320.length : Int) then ((flyballlaw01_one.f (rdOf false t7320 192)).bind fun t7355 => (if t7307 = t7355 then ((flyballlaw01_one.f t7330).bind fun t7356 => (if t7312 = t7356 then ((wide_U192_Cmp.f k1 a0_0 a0_1 a0_2 a1_0 a1_1 a1_2).bind fun t7357 => ((flyballlaw01_of3.f k1 a0_0 a0_1 a0_2).bind fun t7358 => ((flyballlaw01_of3.f k1 a1_0 a1_1 a1_2).bind fun t7361 => ((flyballref01_Cmp.f k1 t7358 t7361).bind fun t7364 => (if t7357 = t7364 then ((wide_U192_Len.f k1 a0_0 a0_1 a0_2).bind fun t7365 => ((flyballlaw01_of3.f k1 a0_0 a0_1 a0_2).bind fun t7366 => ((flyballref01_Len.f k1 t7366).bind fun t7369 => (some (t7365 == t7369))))) else (none)))))) else (none))) else (none))) else (none)) else ((flyballlaw01_one.f false).bind fun t7370 => (if t7307 = t7370 then ((flyballlaw01_one.f t7330).bind fun t7371 => (if t7312 = t7371 then ((wide_U192_Cmp.f k1 a0_0 a0_1 a0_2 a1_0 a1_1 a1_2).bind fun t7372 => ((flyballlaw01_of3.f k1 a0_0 a0_1 a0_2).bind fun t7373 => ((flyballlaw01_of3.f k1 a1_0 a1_1 a1_2).bind fun t7376 => ((flyballref01_Cmp.f k1 t7373 t7376).bind fun t7379 => (if t7372 = t7379 then ((wide_U192_Len.f k1 a0_0 a0_1 a0_2).bind fun t7380 => ((flyballlaw01_of3.f k1 a0_0 a0_1 a0_2).bind fun t7381 => ((flyballref01_Len.f k1 t7381).bind fun t7384 => (some (t7380 == t7384))))) else (none)))))) else (none))) else (none)))) else (none)) else (none)) else (none)) else (none))) else (none)) else (none))))) = some r := by first | (rw [hy7340]; with_reducible exact H) | (have H2_ := (Option.bind_some _ _).symm.trans H; rw [hy7340]; with_reducible exact H2_) | (have H2_ := (Option.bind_some _ _).symm.trans H; with_reducible exact H2_) | with_reducible exact H | (rw [hy7340]; exact H) | exact H
              have Ny7340 := Aside0.mk hy7340
              clear hy7340
              obtain ⟨t7344, A590, H⟩ := Option.bind_eq_some_iff.mp H
              have A59 := Aside0.mk A590
              clear A590
              (try dsimp only at H)
              obtain ⟨t7345, A600, H⟩ := Option.bind_eq_some_iff.mp H
              have A60 := Aside0.mk A600
              clear A600
              (try dsimp only at H)
              obtain ⟨⟨t7346, t7347, t7348⟩, A610, H⟩ := Option.bind_eq_some_iff.mp H
              have A61 := Aside0.mk A610
              clear A610
              (try dsimp only at H)
              obtain ⟨ji62, hji62⟩ : ∃ j_ : Int, (mn (x15_1.length : Int) 192) = j_ := ⟨_, rfl⟩
              replace H : (if 0 ≤ (ji62) then (if (ji62) ≤ (x15_1.length : Int) then ((flyballlaw01_is3.f k1 t7346 t7347 t7348 (x15_1.take ((ji62) : Int).toNat)).bind fun t7353 => (if true = true then (if t7344 = true then (if t7345 = true then (if t7353 = true then (if (t7320.length : Int) > 192 then (if 192 < (t7320.length : Int) then ((flyballlaw01_one.f (rdOf false t7320 192)).bind fun t7355 => (if t7307 = t7355 then ((flyballlaw01_one.f t7330).bind fun t7356 => (if t7312 = t7356 then ((wide_U192_Cmp.f k1 a0_0 a0_1 a0_2 a1_0 a1_1 a1_2).bind fun t7357 => ((flyballlaw01_of3.f k1 a0_0 a0_1 a0_2).bind fun t7358 => ((flyballlaw01_of3.f k1 a1_0 a1_1 a1_2).bind fun t7361 => ((flyballref01_Cmp.f k1 t7358 t7361).bind fun t7364 => (if t7357 = t7364 then ((wide_U192_Len.f k1 a0_0 a0_1 a0_2).bind fun t7365 => ((flyballlaw01_of3.f k1 a0_0 a0_1 a0_2).bind fun t7366 => ((flyballref01_Len.f k1 t7366).bind fun t7369 => (some (t7365 == t7369))))) else (none)))))) else (none))) else (none))) else (none)) else ((flyballlaw01_one.f false).bind fun t7370 => (if t7307 = t7370 then ((flyballlaw01_one.f t7330).bind fun t7371 => (if t7312 = t7371 then ((wide_U192_Cmp.f k1 a0_0 a0_1 a0_2 a1_0 a1_1 a1_2).bind fun t7372 => ((flyballlaw01_of3.f k1 a0_0 a0_1 a0_2).bind fun t7373 => ((flyballlaw01_of3.f k1 a1_0 a1_1 a1_2).bind fun t7376 => ((flyballref01_Cmp.f k1 t7373 t7376).bind fun t7379 => (if t7372 = t7379 then ((wide_U192_Len.f k1 a0_0 a0_1 a0_2).bind fun t7380 => ((flyballlaw01_of3.f k1 a0_0 a0_1 a0_2).bind fun t7381 => ((flyballref01_Len.f k1 t7381).bind fun t7384 => (some (t7380 == t7384))))) else (none)))))) else (none))) else (none)))) else (none)) else (none)) else (none)) else (none))) else (none)) else (none)) = some r := by first | (rw [hji62] at H; exact H) | (simp only [hji62] at H ⊢; exact H)
              (try rw [hji62] at A59)
              (try rw [hji62] at A60)
              (try rw [hji62] at A61)
              have hji62_ : (if 192 < (x15_1.length : Int) then 192 else (x15_1.length : Int)) = ji62 := hji62
              by_cases c63 : 0 ≤ (ji62)
              · rw [if_pos c63] at H
                have c63b0 := eq_true c63
                have c63b1 : decide (0 ≤ (ji62)) = true := decide_eq_true c63
                clear c63
                by_cases c64 : (ji62) ≤ (x15_1.length : Int)
                · rw [if_pos c64] at H
                  have c64b0 := eq_true c64
                  have c64b1 : decide ((ji62) ≤ (x15_1.length : Int)) = true := decide_eq_true c64
                  clear c64
                  obtain ⟨y7349, hy7349⟩ : ∃ y_ : List Bool, y_ = (x15_1.take ((ji62) : Int).toNat) := ⟨_, rfl⟩
                  replace H : ((flyballlaw01_is3.f k1 t7346 t7347 t7348 y7349).bind fun t7353 => (if true = true then (if t7344 = true then (if t7345 = true then (if t7353 = true then (if (t7320.length : Int) > 192 then (if 192 < (t7320.length : Int) then ((flyballlaw01_one.f (rdOf false t7320 192)).bind fun t7355 => (if t7307 = t7355 then ((flyballlaw01_one.f t7330).bind fun t7356 => (if t7312 = t7356 then ((wide_U192_Cmp.f k1 a0_0 a0_1 a0_2 a1_0 a1_1 a1_2).bind fun t7357 => ((flyballlaw01_of3.f k1 a0_0 a0_1 a0_2).bind fun t7358 => ((flyballlaw01_of3.f k1 a1_0 a1_1 a1_2).bind fun t7361 => ((flyballref01_Cmp.f k1 t7358 t7361).bind fun t7364 => (if t7357 = t7364 then ((wide_U192_Len.f k1 a0_0 a0_1 a0_2).bind fun t7365 => ((flyballlaw01_of3.f k1 a0_0 a0_1 a0_2).bind fun t7366 => ((flyballref01_Len.f k1 t7366).bind fun t7369 => (some (t7365 == t7369))))) else (none)))))) else (none))) else (none))) else (none)) else ((flyballlaw01_one.f false).bind fun t7370 => (if t7307 = t7370 then ((flyballlaw01_one.f t7330).bind fun t7371 => (if t7312 = t7371 then ((wide_U192_Cmp.f k1 a0_0 a0_1 a0_2 a1_0 a1_1 a1_2).bind fun t7372 => ((flyballlaw01_of3.f k1 a0_0 a0_1 a0_2).bind fun t7373 => ((flyballlaw01_of3.f k1 a1_0 a1_1 a1_2).bind fun t7376 => ((flyballref01_Cmp.f k1 t7373 t7376).bind fun t7379 => (if t7372 = t7379 then ((wide_U192_Len.f k1 a0_0 a0_1 a0_2).bind fun t7380 => ((flyballlaw01_of3.f k1 a0_0 a0_1 a0_2).bind fun t7381 => ((flyballref01_Len.f k1 t7381).bind fun t7384 => (some (t7380 == t7384))))) else (none)))))) else (none))) else (none)))) else (none)) else (none)) else (none)) else (none))) = some r := by first | (rw [hy7349]; with_reducible exact H) | (have H2_ := (Option.bind_some _ _).symm.trans H; rw [hy7349]; with_reducible exact H2_) | (have H2_ := (Option.bind_some _ _).symm.trans H; with_reducible exact H2_) | with_reducible exact H | (rw [hy7349]; exact H) | exact H
                  have Ny7349 := Aside0.mk hy7349
                  clear hy7349
                  obtain ⟨t7353, A650, H⟩ := Option.bind_eq_some_iff.mp H
                  have A65 := Aside0.mk A650
                  clear A650
                  (try dsimp only at H)
                  by_cases c66 : true = true
                  · clear c66
                    (try rw [if_pos rfl] at H)
                    by_cases c67 : t7344 = true
                    · subst c67
                      rw [if_pos rfl] at H
                      by_cases c68 : t7345 = true
                      · subst c68
                        rw [if_pos rfl] at H
                        by_cases c69 : t7353 = true
                        · subst c69
                          rw [if_pos rfl] at H
                          by_cases c70 : (t7320.length : Int) > 192
                          · rw [if_pos c70] at H
                            have c70b0 : decide (192 < (t7320.length : Int)) = true := decide_eq_true c70
                            have c70b1 : decide (192 < t7320.length) = true := decide_eq_true (by omega)
                            clear c70
                            by_cases c71 : 192 < (t7320.length : Int)
                            · rw [if_pos c71] at H
                              have c71b0 : decide (192 < (t7320.length : Int)) = true := decide_eq_true c71
                              have c71b1 : decide (192 < t7320.length) = true := decide_eq_true (by omega)
                              clear c71
                              obtain ⟨t7355, A720, H⟩ := Option.bind_eq_some_iff.mp H
                              have A72 := Aside0.mk A720
                              clear A720
                              (try dsimp only at H)
                              by_cases c73 : t7307 = t7355
                              · rw [if_pos c73] at H
                                have c73b0 : (t7307 == t7355) = true := beq_iff_eq.mpr c73
                                have c73b1 : (t7307 != t7355) = false := bne_eq_false_iff_eq.mpr c73
                                clear c73
                                obtain ⟨t7356, A740, H⟩ := Option.bind_eq_some_iff.mp H
                                have A74 := Aside0.mk A740
                                clear A740
                                (try dsimp only at H)
                                by_cases c75 : t7312 = t7356
                                · rw [if_pos c75] at H
                                  have c75b0 : (t7312 == t7356) = true := beq_iff_eq.mpr c75
                                  have c75b1 : (t7312 != t7356) = false := bne_eq_false_iff_eq.mpr c75
                                  clear c75
                                  obtain ⟨t7357, A760, H⟩ := Option.bind_eq_some_iff.mp H
                                  have A76 := Aside0.mk A760
                                  clear A760
                                  (try dsimp only at H)
                                  obtain ⟨t7358, A770, H⟩ := Option.bind_eq_some_iff.mp H
                                  have A77 := Aside0.mk A770
                                  clear A770
                                  (try dsimp only at H)
                                  obtain ⟨t7361, A780, H⟩ := Option.bind_eq_some_iff.mp H
                                  have A78 := Aside0.mk A780
                                  clear A780
                                  (try dsimp only at H)
                                  obtain ⟨t7364, A790, H⟩ := Option.bind_eq_some_iff.mp H
                                  have A79 := Aside0.mk A790
                                  clear A790
                                  (try dsimp only at H)
                                  by_cases c80 : t7357 = t7364
                                  · rw [if_pos c80] at H
                                    have c80b0 : (t7357 == t7364) = true := beq_iff_eq.mpr c80
                                    have c80b1 : (t7357 != t7364) = false := bne_eq_false_iff_eq.mpr c80
                                    clear c80
                                    obtain ⟨t7365, A810, H⟩ := Option.bind_eq_some_iff.mp H
                                    have A81 := Aside0.mk A810
                                    clear A810
                                    (try dsimp only at H)
                                    obtain ⟨t7366, A820, H⟩ := Option.bind_eq_some_iff.mp H
                                    have A82 := Aside0.mk A820
                                    clear A820
                                    (try dsimp only at H)
                                    obtain ⟨t7369, A830, H⟩ := Option.bind_eq_some_iff.mp H
                                    have A83 := Aside0.mk A830
                                    clear A830
                                    (try dsimp only at H)
                                    obtain rfl := Option.some.inj H
                                    try go_wp2
                                    replace HO_12 := Aside0.mk (Kd.R_drew HO_12.out)
                                    replace HO_13 := Aside0.mk (Kd.R_drew HO_13.out)
                                    replace HO_15 := Aside0.mk (Kd.R_drew HO_15.out)
                                    replace BK7301 := Aside0.mk (blk_drew BK7301.out)
                                    replace BK7302 := Aside0.mk (blk_drew BK7302.out)
                                    replace BK7308 := Aside0.mk (blk_drew BK7308.out)
                                    replace BK7313 := Aside0.mk (blk_drew BK7313.out)
                                    replace HB := Aside0.mk (below_drew1 HB.out)
                                    obtain ⟨Ao86, co86, eo86⟩ := Kd.R_slice HO_12.out
                                    (first | subst eo86 | (injection eo86 with f1_ f2_ f3_; have f4_ := f1_.symm; have f5_ := f3_.symm; clear f1_ f2_ f3_; subst f4_; subst f5_))
                                    have q85 : (192 : Int) ≤ ((t7320.length : Int) : Int) := of_decide_eq_true (by first | (with_reducible assumption) | assumption)
                                    obtain ⟨i085, hi085, _, hsz85, _⟩ := info_parts info4
                                    have hroom85 : t7320.length ≤ co86 := (Kd.R_reads' HO_12.out).2.1
                                    have hC85 : Kd.C Kd.bool _ Ao86 t7320.length t7320 := (Kd.R_reads' HO_12.out).2.2
                                    have hcut85 := cut_to (P := Try.prog) 32 4 .i64 Try.underlying32 hi085 Ao86 t7320.length co86 192 (by omega) q85 hroom85
                                    have hr85 := Kd.C_take (m := 192) hC85 (by omega)
                                    have hy85 : y7340.length = (192 : Int).toNat := (by rw [Ny7340.out, List.length_take]; omega)
                                    rw [← Ny7340.out] at hr85
                                    rw [← hy85] at hcut85
                                    have HR7343 := Aside0.mk hr85
                                    have HC7343 := Aside0.mk (show y7340.length ≤ co86 from by omega)
                                    clear hr85 hC85 hroom85 hi085 hsz85
                                    have KY85 := Aside0.mk hy85
                                    clear hy85
                                    have KL85 := Aside0.mk (show 192 ≤ t7320.length from by omega)
                                    replace q85 := eq_true q85
                                    refine start_ (n := 5) (S := fun w' => w'.cell? ⟨gb7308, 0, none⟩ = some (.int .u64 t7304) ∧ w'.cell? ⟨gb7308, 1, none⟩ = some (.int .u64 t7305) ∧ w'.cell? ⟨gb7308, 2, none⟩ = some (.int .u64 t7306)) (ds := []) #[false, false, false, false, false] (by kernel_rfl) rfl rfl ⟨bc BK7308 0, bc BK7308 1, bc BK7308 2⟩ (fun hHeld => ?_)
                                    generalize wr.drew = w84 at HO_12 HO_13 HO_15 BK7301 BK7302 BK7308 BK7313 HB HR7343 hHeld ⊢
                                    refine pur 1 (some 66) #[false, true, false, false, false] (by kernel_rfl) ?_
                                    refine pur 2 (some 67) #[false, true, true, false, false] (by kernel_rfl) ?_
                                    refine tak 0 (some 65) #[true, true, true, false, false] (by kernel_rfl) hHeld ?_
                                    refine one_ (i := 3) (N := some 68) #[true, true, true, true, false] rfl rfl (by kernel_rfl) (by decide) (fun K hK => ?_)
                                    refine goes_ Try.func20 (by kernel_rfl) rfl #[.agg #[.int .u64 t7304, .int .u64 t7305, .int .u64 t7306], .slice Ao86 y7340.length co86] (by rfl) rfl rfl pa ?_
                                    with_reducible refine (flyballlaw01_is3.calls k1 t7304 t7305 t7306 _ _ y7340 true _ ?side1 ?side2 A59.out).mono ?_
                                    (case side1 => repeat (first | exact (by repeat (first | (with_reducible exact HR7343.out) | (with_reducible refine Kd.C_alloc ?_ _) | (with_reducible refine Kd.C_drewN ?_ _) | (with_reducible refine Kd.C_drew ?_) | exact HR7343.out)) | (with_reducible refine Kd.C_alloc ?_ _) | (with_reducible refine Kd.C_drewN ?_ _) | (with_reducible refine Kd.C_drew ?_)))
                                    (case side2 => exact HC7343.out)
                                    rintro e w87 ⟨rfl, hb⟩
                                    refine ⟨_, rfl, ?_⟩
                                    have n0_ := Aside0.mk (Kd.R_below (by (with_reducible repeat (first | apply Kd.R_alloc | apply Kd.R_drewN | apply Kd.R_drew)); exact HO_12.out) hb)
                                    have n1_ := Aside0.mk (Kd.R_below (by (with_reducible repeat (first | apply Kd.R_alloc | apply Kd.R_drewN | apply Kd.R_drew)); exact HO_13.out) hb)
                                    have n2_ := Aside0.mk (Kd.R_below (by (with_reducible repeat (first | apply Kd.R_alloc | apply Kd.R_drewN | apply Kd.R_drew)); exact HO_15.out) hb)
                                    (first | have n3_ := flyballlaw01_WideThrees.kb0 BK7301 hb | have n3_ := flyballlaw01_WideThrees.kb1 BK7301 hb | have n3_ := flyballlaw01_WideThrees.kb2 BK7301 hb | have n3_ := kb BK7301 hb)
                                    (first | have n4_ := flyballlaw01_WideThrees.kb0 BK7302 hb | have n4_ := flyballlaw01_WideThrees.kb1 BK7302 hb | have n4_ := flyballlaw01_WideThrees.kb2 BK7302 hb | have n4_ := kb BK7302 hb)
                                    (first | have n5_ := flyballlaw01_WideThrees.kb0 BK7308 hb | have n5_ := flyballlaw01_WideThrees.kb1 BK7308 hb | have n5_ := flyballlaw01_WideThrees.kb2 BK7308 hb | have n5_ := kb BK7308 hb)
                                    (first | have n6_ := flyballlaw01_WideThrees.kb0 BK7313 hb | have n6_ := flyballlaw01_WideThrees.kb1 BK7313 hb | have n6_ := flyballlaw01_WideThrees.kb2 BK7313 hb | have n6_ := kb BK7313 hb)
                                    (first | (with_reducible have n7_ := Aside0.mk (Kd.C_below HR7343.out hb)) | (with_reducible have n7_ := Aside0.mk (Kd.C_below (Kd.C_drewN HR7343.out _) hb)) | (with_reducible have n7_ := Aside0.mk (Kd.C_below (Kd.C_drewN (Kd.C_drewN HR7343.out _) _) hb)))
                                    have n8_ := kh HB hb
                                    clear HO_12
                                    clear HO_13
                                    clear HO_15
                                    clear BK7301
                                    clear BK7302
                                    clear BK7308
                                    clear BK7313
                                    clear HR7343
                                    clear HB
                                    have HO_12 := n0_
                                    have HO_13 := n1_
                                    have HO_15 := n2_
                                    have BK7301 := n3_
                                    have BK7302 := n4_
                                    have BK7308 := n5_
                                    have BK7313 := n6_
                                    have HR7343 := n7_
                                    have HB := n8_
                                    clear n0_ n1_ n2_ n3_ n4_ n5_ n6_ n7_ n8_
                                    (try clear hb)
                                    (try clear hb2)
                                    (try clear hk)
                                    (try clear hi)
                                    refine hK.out _ _ ⟨bc BK7308 0, bc BK7308 1, bc BK7308 2⟩ (fun hHeld => ?_)
                                    clear hK K
                                    refine nrm (some 68) ?_
                                    refine pur 4 (some 17) #[true, true, true, true, true] (by kernel_rfl) ?_
                                    refine done_ (by kernel_rfl) ?_
                                    have hnb88 := NB7313_7301.out
                                    have hnc88 := NB7301_7313.out
                                    have hnb89 := NB7313_7302.out
                                    have hnc89 := NB7302_7313.out
                                    have hnb90 := NB7313_7308.out
                                    have hnc90 := NB7308_7313.out
                                    have ⟨hcz91_0, hcz91_1, hcz91_2, hfz91_0, hfz91_1, hfz91_2⟩ := kz3f BK7313
                                    obtain ⟨Ao92, co92, eo92⟩ := Kd.R_slice HO_13.out
                                    subst eo92
                                    try go_wp2_with (first | ((with_reducible refine gate_callee (f := 20) rfl ?_); refine goesL_ (some 71) rfl rfl Try.func20 (by kernel_rfl) rfl #[.agg #[.int .u64 t7309, .int .u64 t7310, .int .u64 t7311], .slice Ao92 t7329.length co92] rfl pa ?_; (with_reducible refine (flyballlaw01_is3.calls k1 t7309 t7310 t7311 _ _ t7329 true _ ?side1 ?side2 A60.out).mono ?_); (case side1 => repeat (first | exact (Kd.R_reads' HO_13.out).2.2 | (with_reducible refine Kd.C_alloc ?_ _) | (with_reducible refine Kd.C_drewN ?_ _) | (with_reducible refine Kd.C_drew ?_))); (case side2 => exact (Kd.R_reads' HO_13.out).2.1); rintro e w93 ⟨rfl, hb⟩; refine ⟨_, rfl, ?_⟩; have n0_ := Aside0.mk (Kd.R_below (by (with_reducible repeat (first | apply Kd.R_alloc | apply Kd.R_drewN | apply Kd.R_drew)); exact HO_12.out) hb); have n1_ := Aside0.mk (Kd.R_below (by (with_reducible repeat (first | apply Kd.R_alloc | apply Kd.R_drewN | apply Kd.R_drew)); exact HO_13.out) hb); have n2_ := Aside0.mk (Kd.R_below (by (with_reducible repeat (first | apply Kd.R_alloc | apply Kd.R_drewN | apply Kd.R_drew)); exact HO_15.out) hb); (first | have n3_ := flyballlaw01_WideThrees.kb0 BK7301 hb | have n3_ := flyballlaw01_WideThrees.kb1 BK7301 hb | have n3_ := flyballlaw01_WideThrees.kb2 BK7301 hb | have n3_ := kb BK7301 hb); (first | have n4_ := flyballlaw01_WideThrees.kb0 BK7302 hb | have n4_ := flyballlaw01_WideThrees.kb1 BK7302 hb | have n4_ := flyballlaw01_WideThrees.kb2 BK7302 hb | have n4_ := kb BK7302 hb); (first | have n5_ := flyballlaw01_WideThrees.kb0 BK7308 hb | have n5_ := flyballlaw01_WideThrees.kb1 BK7308 hb | have n5_ := flyballlaw01_WideThrees.kb2 BK7308 hb | have n5_ := kb BK7308 hb); (first | have n6_ := flyballlaw01_WideThrees.kb0 BK7313 hb | have n6_ := flyballlaw01_WideThrees.kb1 BK7313 hb | have n6_ := flyballlaw01_WideThrees.kb2 BK7313 hb | have n6_ := kb BK7313 hb); (first | (with_reducible have n7_ := Aside0.mk (Kd.C_below HR7343.out hb)) | (with_reducible have n7_ := Aside0.mk (Kd.C_below (Kd.C_drewN HR7343.out _) hb)) | (with_reducible have n7_ := Aside0.mk (Kd.C_below (Kd.C_drewN (Kd.C_drewN HR7343.out _) _) hb))); have n8_ := kh HB hb; clear HO_12; clear HO_13; clear HO_15; clear BK7301; clear BK7302; clear BK7308; clear BK7313; clear HR7343; clear HB; have HO_12 := n0_; have HO_13 := n1_; have HO_15 := n2_; have BK7301 := n3_; have BK7302 := n4_; have BK7308 := n5_; have BK7313 := n6_; have HR7343 := n7_; have HB := n8_; clear n0_ n1_ n2_ n3_ n4_ n5_ n6_ n7_ n8_; (try clear hb); (try clear hb2); (try clear hk); (try clear hi)))
                                    replace HO_12 := Aside0.mk (Kd.R_drew HO_12.out)
                                    replace HO_13 := Aside0.mk (Kd.R_drew HO_13.out)
                                    replace HO_15 := Aside0.mk (Kd.R_drew HO_15.out)
                                    replace BK7301 := Aside0.mk (blk_drew BK7301.out)
                                    replace BK7302 := Aside0.mk (blk_drew BK7302.out)
                                    replace BK7308 := Aside0.mk (blk_drew BK7308.out)
                                    replace BK7313 := Aside0.mk (blk_drew BK7313.out)
                                    replace HR7343 := Aside0.mk (Kd.C_drew HR7343.out)
                                    replace HB := Aside0.mk (below_drew1 HB.out)
                                    obtain ⟨Ao95, co95, eo95⟩ := Kd.R_slice HO_15.out
                                    (first | subst eo95 | (injection eo95 with f1_ f2_ f3_; have f4_ := f1_.symm; have f5_ := f3_.symm; clear f1_ f2_ f3_; subst f4_; subst f5_))
                                    have q96 : ((ji62) : Int) ≤ ((x15_1.length : Int) : Int) := of_decide_eq_true (by first | (with_reducible assumption) | assumption)
                                    obtain ⟨i096, hi096, _, hsz96, _⟩ := info_parts info4
                                    have hroom96 : x15_1.length ≤ co95 := (Kd.R_reads' HO_15.out).2.1
                                    have hC96 : Kd.C Kd.bool _ Ao95 x15_1.length x15_1 := (Kd.R_reads' HO_15.out).2.2
                                    have hcut96 := cut_to (P := Try.prog) 32 4 .i64 Try.underlying32 hi096 Ao95 x15_1.length co95 (ji62) (of_decide_eq_true (by first | (with_reducible assumption) | assumption)) q96 hroom96
                                    have hr96 := Kd.C_take (m := ((ji62) : Int).toNat) hC96 (by omega)
                                    have hy96 : y7349.length = ((ji62) : Int).toNat := (by rw [Ny7349.out, List.length_take]; omega)
                                    rw [← Ny7349.out] at hr96
                                    rw [← hy96] at hcut96
                                    have HR7352 := Aside0.mk hr96
                                    have HC7352 := Aside0.mk (show y7349.length ≤ co95 from by omega)
                                    clear hr96 hC96 hroom96 hi096 hsz96
                                    have KY96 := Aside0.mk hy96
                                    clear hy96
                                    have KL96 := Aside0.mk (show ((ji62) : Int).toNat ≤ x15_1.length from by omega)
                                    replace q96 := eq_true q96
                                    refine start_ (n := 9) (S := fun w' => True) (ds := []) #[false, false, false, false, false, false, false, false, false] (by kernel_rfl) rfl rfl trivial (fun hHeld => ?_); refine with_tabW flyballlaw01_WideThrees.tab17 flyballlaw01_WideThrees.bits17 (fun HT_ HW_ => ?_)
                                    generalize w93.drew = w94 at HO_12 HO_13 HO_15 BK7301 BK7302 BK7308 BK7313 HR7343 HB HR7352 hHeld ⊢
                                    refine pur 0 (some 72) #[true, false, false, false, false, false, false, false, false] (any_of HT_.out (by kernel_rfl)) ?_
                                    refine pur 2 (some 74) #[true, false, true, false, false, false, false, false, false] (any_of HT_.out (by kernel_rfl)) ?_
                                    refine pur 3 (some 75) #[true, false, true, true, false, false, false, false, false] (any_of HT_.out (by kernel_rfl)) ?_
                                    refine pur 4 (some 76) #[true, false, true, true, true, false, false, false, false] (any_of HT_.out (by kernel_rfl)) ?_
                                    refine pur 5 (some 77) #[true, false, true, true, true, true, false, false, false] (any_of HT_.out (by kernel_rfl)) ?_
                                    refine pur 6 (some 78) #[true, false, true, true, true, true, true, false, false] (any_of HT_.out (by kernel_rfl)) ?_
                                    refine one_ (i := 1) (N := some 73) #[true, true, true, true, true, true, true, false, false] rfl rfl (one_of HT_.out (by kernel_rfl)) (by decide) (fun K hK => ?_)
                                    refine goes_ Try.func38 (by kernel_rfl) rfl #[.slice A2 l2.length c2] (by rfl) rfl rfl pa ?_
                                    with_reducible refine (wide_Sum.calls k1 _ _ l2 t7346 t7347 t7348 _ ?side1 ?side2 A61.out).mono ?_
                                    (case side1 => repeat (first | exact (Kd.C_below HR2.out HB.out) | (with_reducible refine Kd.C_alloc ?_ _) | (with_reducible refine Kd.C_drewN ?_ _) | (with_reducible refine Kd.C_drew ?_)))
                                    (case side2 => exact HC2.out)
                                    rintro e w97 ⟨rfl, hb⟩
                                    refine ⟨_, rfl, ?_⟩
                                    have n0_ := Aside0.mk (Kd.R_below (by (with_reducible repeat (first | apply Kd.R_alloc | apply Kd.R_drewN | apply Kd.R_drew)); exact HO_12.out) hb)
                                    have n1_ := Aside0.mk (Kd.R_below (by (with_reducible repeat (first | apply Kd.R_alloc | apply Kd.R_drewN | apply Kd.R_drew)); exact HO_13.out) hb)
                                    have n2_ := Aside0.mk (Kd.R_below (by (with_reducible repeat (first | apply Kd.R_alloc | apply Kd.R_drewN | apply Kd.R_drew)); exact HO_15.out) hb)
                                    (first | have n3_ := flyballlaw01_WideThrees.kb0 BK7301 hb | have n3_ := flyballlaw01_WideThrees.kb1 BK7301 hb | have n3_ := flyballlaw01_WideThrees.kb2 BK7301 hb | have n3_ := kb BK7301 hb)
                                    (first | have n4_ := flyballlaw01_WideThrees.kb0 BK7302 hb | have n4_ := flyballlaw01_WideThrees.kb1 BK7302 hb | have n4_ := flyballlaw01_WideThrees.kb2 BK7302 hb | have n4_ := kb BK7302 hb)
                                    (first | have n5_ := flyballlaw01_WideThrees.kb0 BK7308 hb | have n5_ := flyballlaw01_WideThrees.kb1 BK7308 hb | have n5_ := flyballlaw01_WideThrees.kb2 BK7308 hb | have n5_ := kb BK7308 hb)
                                    (first | have n6_ := flyballlaw01_WideThrees.kb0 BK7313 hb | have n6_ := flyballlaw01_WideThrees.kb1 BK7313 hb | have n6_ := flyballlaw01_WideThrees.kb2 BK7313 hb | have n6_ := kb BK7313 hb)
                                    (first | (with_reducible have n7_ := Aside0.mk (Kd.C_below HR7343.out hb)) | (with_reducible have n7_ := Aside0.mk (Kd.C_below (Kd.C_drewN HR7343.out _) hb)) | (with_reducible have n7_ := Aside0.mk (Kd.C_below (Kd.C_drewN (Kd.C_drewN HR7343.out _) _) hb)))
                                    (first | (with_reducible have n8_ := Aside0.mk (Kd.C_below HR7352.out hb)) | (with_reducible have n8_ := Aside0.mk (Kd.C_below (Kd.C_drewN HR7352.out _) hb)) | (with_reducible have n8_ := Aside0.mk (Kd.C_below (Kd.C_drewN (Kd.C_drewN HR7352.out _) _) hb)))
                                    have n9_ := kh HB hb
                                    clear HO_12
                                    clear HO_13
                                    clear HO_15
                                    clear BK7301
                                    clear BK7302
                                    clear BK7308
                                    clear BK7313
                                    clear HR7343
                                    clear HR7352
                                    clear HB
                                    have HO_12 := n0_
                                    have HO_13 := n1_
                                    have HO_15 := n2_
                                    have BK7301 := n3_
                                    have BK7302 := n4_
                                    have BK7308 := n5_
                                    have BK7313 := n6_
                                    have HR7343 := n7_
                                    have HR7352 := n8_
                                    have HB := n9_
                                    clear n0_ n1_ n2_ n3_ n4_ n5_ n6_ n7_ n8_ n9_
                                    (try clear hb)
                                    (try clear hb2)
                                    (try clear hk)
                                    (try clear hi)
                                    refine hK.out _ _ trivial (fun hHeld => ?_)
                                    clear hK K
                                    refine nrm (some 73) ?_
                                    refine one_ (i := 7) (N := some 79) #[true, true, true, true, true, true, true, true, false] rfl rfl (one_of HT_.out (by kernel_rfl)) (by decide) (fun K hK => ?_)
                                    refine goes_ Try.func20 (by kernel_rfl) rfl #[.agg #[.int .u64 t7346, .int .u64 t7347, .int .u64 t7348], .slice Ao95 y7349.length co95] (by rfl) rfl rfl pa ?_
                                    with_reducible refine (flyballlaw01_is3.calls k1 t7346 t7347 t7348 _ _ y7349 true _ ?side1 ?side2 A65.out).mono ?_
                                    (case side1 => repeat (first | exact (by repeat (first | (with_reducible exact HR7352.out) | (with_reducible refine Kd.C_alloc ?_ _) | (with_reducible refine Kd.C_drewN ?_ _) | (with_reducible refine Kd.C_drew ?_) | exact HR7352.out)) | (with_reducible refine Kd.C_alloc ?_ _) | (with_reducible refine Kd.C_drewN ?_ _) | (with_reducible refine Kd.C_drew ?_)))
                                    (case side2 => exact HC7352.out)
                                    rintro e w98 ⟨rfl, hb⟩
                                    refine ⟨_, rfl, ?_⟩
                                    have n0_ := Aside0.mk (Kd.R_below (by (with_reducible repeat (first | apply Kd.R_alloc | apply Kd.R_drewN | apply Kd.R_drew)); exact HO_12.out) hb)
                                    have n1_ := Aside0.mk (Kd.R_below (by (with_reducible repeat (first | apply Kd.R_alloc | apply Kd.R_drewN | apply Kd.R_drew)); exact HO_13.out) hb)
                                    have n2_ := Aside0.mk (Kd.R_below (by (with_reducible repeat (first | apply Kd.R_alloc | apply Kd.R_drewN | apply Kd.R_drew)); exact HO_15.out) hb)
                                    (first | have n3_ := flyballlaw01_WideThrees.kb0 BK7301 hb | have n3_ := flyballlaw01_WideThrees.kb1 BK7301 hb | have n3_ := flyballlaw01_WideThrees.kb2 BK7301 hb | have n3_ := kb BK7301 hb)
                                    (first | have n4_ := flyballlaw01_WideThrees.kb0 BK7302 hb | have n4_ := flyballlaw01_WideThrees.kb1 BK7302 hb | have n4_ := flyballlaw01_WideThrees.kb2 BK7302 hb | have n4_ := kb BK7302 hb)
                                    (first | have n5_ := flyballlaw01_WideThrees.kb0 BK7308 hb | have n5_ := flyballlaw01_WideThrees.kb1 BK7308 hb | have n5_ := flyballlaw01_WideThrees.kb2 BK7308 hb | have n5_ := kb BK7308 hb)
                                    (first | have n6_ := flyballlaw01_WideThrees.kb0 BK7313 hb | have n6_ := flyballlaw01_WideThrees.kb1 BK7313 hb | have n6_ := flyballlaw01_WideThrees.kb2 BK7313 hb | have n6_ := kb BK7313 hb)
                                    (first | (with_reducible have n7_ := Aside0.mk (Kd.C_below HR7343.out hb)) | (with_reducible have n7_ := Aside0.mk (Kd.C_below (Kd.C_drewN HR7343.out _) hb)) | (with_reducible have n7_ := Aside0.mk (Kd.C_below (Kd.C_drewN (Kd.C_drewN HR7343.out _) _) hb)))
                                    (first | (with_reducible have n8_ := Aside0.mk (Kd.C_below HR7352.out hb)) | (with_reducible have n8_ := Aside0.mk (Kd.C_below (Kd.C_drewN HR7352.out _) hb)) | (with_reducible have n8_ := Aside0.mk (Kd.C_below (Kd.C_drewN (Kd.C_drewN HR7352.out _) _) hb)))
                                    have n9_ := kh HB hb
                                    clear HO_12
                                    clear HO_13
                                    clear HO_15
                                    clear BK7301
                                    clear BK7302
                                    clear BK7308
                                    clear BK7313
                                    clear HR7343
                                    clear HR7352
                                    clear HB
                                    have HO_12 := n0_
                                    have HO_13 := n1_
                                    have HO_15 := n2_
                                    have BK7301 := n3_
                                    have BK7302 := n4_
                                    have BK7308 := n5_
                                    have BK7313 := n6_
                                    have HR7343 := n7_
                                    have HR7352 := n8_
                                    have HB := n9_
                                    clear n0_ n1_ n2_ n3_ n4_ n5_ n6_ n7_ n8_ n9_
                                    (try clear hb)
                                    (try clear hb2)
                                    (try clear hk)
                                    (try clear hi)
                                    refine hK.out _ _ trivial (fun hHeld => ?_)
                                    clear hK K
                                    refine nrm (some 79) ?_
                                    refine pur 8 (some 19) #[true, true, true, true, true, true, true, true, true] (any_of HT_.out (by kernel_rfl)) ?_
                                    refine done_ (done_of HT_.out (by kernel_rfl)) ?_
                                    try go_wp2
                                    replace HO_12 := Aside0.mk (Kd.R_drew HO_12.out)
                                    replace HO_13 := Aside0.mk (Kd.R_drew HO_13.out)
                                    replace HO_15 := Aside0.mk (Kd.R_drew HO_15.out)
                                    replace BK7301 := Aside0.mk (blk_drew BK7301.out)
                                    replace BK7302 := Aside0.mk (blk_drew BK7302.out)
                                    replace BK7308 := Aside0.mk (blk_drew BK7308.out)
                                    replace BK7313 := Aside0.mk (blk_drew BK7313.out)
                                    replace HR7343 := Aside0.mk (Kd.C_drew HR7343.out)
                                    replace HR7352 := Aside0.mk (Kd.C_drew HR7352.out)
                                    replace HB := Aside0.mk (below_drew1 HB.out)
                                    have p7354 : 0 ≤ (192 : Int) := (by omega)
                                    have q7354 : 192 < (t7320.length : Int) := of_decide_eq_true (by first | (with_reducible assumption) | assumption)
                                    obtain ⟨ad7354, e7354, hx7354_0⟩ := Kd.at_bool (Kd.R_reads' HO_12.out).2.2 192 p7354 q7354
                                    cases e7354
                                    (try simp only [show (192 : Int).toNat = 192 from rfl, Nat.reduceMul, Nat.reduceEqDiff, Go.Addr.add, ↓reduceIte] at hx7354_0)
                                    have qi7354 : (192 < t7320.length) = True := eq_true (by omega)
                                    (try rw [show ((192 : Int)).toNat = 192 from rfl] at hx7354_0)
                                    replace p7354 := eq_true p7354
                                    replace q7354 := eq_true q7354
                                    refine start_ (n := 49) (S := fun w' => w'.cell? ⟨gb7301, 0, none⟩ = some (.int .u64 a0_0) ∧ w'.cell? ⟨gb7301, 1, none⟩ = some (.int .u64 a0_1) ∧ w'.cell? ⟨gb7301, 2, none⟩ = some (.int .u64 a0_2) ∧ w'.cell? ⟨gb7302, 0, none⟩ = some (.int .u64 a1_0) ∧ w'.cell? ⟨gb7302, 1, none⟩ = some (.int .u64 a1_1) ∧ w'.cell? ⟨gb7302, 2, none⟩ = some (.int .u64 a1_2) ∧ w'.cell? ⟨ad7354.block, ad7354.off + 192, none⟩ = some (.bool (rdOf false t7320 192))) (ds := []) #[false, false, false, false, false, false, false, false, false, false, false, false, false, false, false, false, false, false, false, false, false, false, false, false, false, false, false, false, false, false, false, false, false, false, false, false, false, false, false, false, false, false, false, false, false, false, false, false, false] (by kernel_rfl) rfl rfl ⟨bc BK7301 0, bc BK7301 1, bc BK7301 2, bc BK7302 0, bc BK7302 1, bc BK7302 2, hx7354_0⟩ (fun hHeld => ?_); refine with_tabW flyballlaw01_WideThrees.tab18 flyballlaw01_WideThrees.bits18 (fun HT_ HW_ => ?_)
                                    generalize w98.drew = w99 at HO_12 HO_13 HO_15 BK7301 BK7302 BK7308 BK7313 HR7343 HR7352 HB hx7354_0 hHeld ⊢
                                    refine pur 0 (some 80) #[true, false, false, false, false, false, false, false, false, false, false, false, false, false, false, false, false, false, false, false, false, false, false, false, false, false, false, false, false, false, false, false, false, false, false, false, false, false, false, false, false, false, false, false, false, false, false, false, false] (any_of HT_.out (by kernel_rfl)) ?_
                                    refine pur 1 (some 81) #[true, true, false, false, false, false, false, false, false, false, false, false, false, false, false, false, false, false, false, false, false, false, false, false, false, false, false, false, false, false, false, false, false, false, false, false, false, false, false, false, false, false, false, false, false, false, false, false, false] (any_of HT_.out (by kernel_rfl)) ?_
                                    refine pur 2 (some 82) #[true, true, true, false, false, false, false, false, false, false, false, false, false, false, false, false, false, false, false, false, false, false, false, false, false, false, false, false, false, false, false, false, false, false, false, false, false, false, false, false, false, false, false, false, false, false, false, false, false] (any_of HT_.out (by kernel_rfl)) ?_
                                    refine pur 3 (some 83) #[true, true, true, true, false, false, false, false, false, false, false, false, false, false, false, false, false, false, false, false, false, false, false, false, false, false, false, false, false, false, false, false, false, false, false, false, false, false, false, false, false, false, false, false, false, false, false, false, false] (any_of HT_.out (by kernel_rfl)) ?_
                                    refine pur 4 (some 84) #[true, true, true, true, true, false, false, false, false, false, false, false, false, false, false, false, false, false, false, false, false, false, false, false, false, false, false, false, false, false, false, false, false, false, false, false, false, false, false, false, false, false, false, false, false, false, false, false, false] (any_of HT_.out (by kernel_rfl)) ?_
                                    refine pur 5 (some 85) #[true, true, true, true, true, true, false, false, false, false, false, false, false, false, false, false, false, false, false, false, false, false, false, false, false, false, false, false, false, false, false, false, false, false, false, false, false, false, false, false, false, false, false, false, false, false, false, false, false] (any_of HT_.out (by kernel_rfl)) ?_
                                    refine pur 6 (some 86) #[true, true, true, true, true, true, true, false, false, false, false, false, false, false, false, false, false, false, false, false, false, false, false, false, false, false, false, false, false, false, false, false, false, false, false, false, false, false, false, false, false, false, false, false, false, false, false, false, false] (any_of HT_.out (by kernel_rfl)) ?_
                                    refine pur 7 (some 87) #[true, true, true, true, true, true, true, true, false, false, false, false, false, false, false, false, false, false, false, false, false, false, false, false, false, false, false, false, false, false, false, false, false, false, false, false, false, false, false, false, false, false, false, false, false, false, false, false, false] (any_of HT_.out (by kernel_rfl)) ?_
                                    refine pur 8 (some 88) #[true, true, true, true, true, true, true, true, true, false, false, false, false, false, false, false, false, false, false, false, false, false, false, false, false, false, false, false, false, false, false, false, false, false, false, false, false, false, false, false, false, false, false, false, false, false, false, false, false] (any_of HT_.out (by kernel_rfl)) ?_
                                    refine pur 9 (some 89) #[true, true, true, true, true, true, true, true, true, true, false, false, false, false, false, false, false, false, false, false, false, false, false, false, false, false, false, false, false, false, false, false, false, false, false, false, false, false, false, false, false, false, false, false, false, false, false, false, false] (any_of HT_.out (by kernel_rfl)) ?_
                                    refine pur 10 (some 90) #[true, true, true, true, true, true, true, true, true, true, true, false, false, false, false, false, false, false, false, false, false, false, false, false, false, false, false, false, false, false, false, false, false, false, false, false, false, false, false, false, false, false, false, false, false, false, false, false, false] (any_of HT_.out (by kernel_rfl)) ?_
                                    refine pur 11 (some 91) #[true, true, true, true, true, true, true, true, true, true, true, true, false, false, false, false, false, false, false, false, false, false, false, false, false, false, false, false, false, false, false, false, false, false, false, false, false, false, false, false, false, false, false, false, false, false, false, false, false] (any_of HT_.out (by kernel_rfl)) ?_
                                    refine pur 12 (some 92) #[true, true, true, true, true, true, true, true, true, true, true, true, true, false, false, false, false, false, false, false, false, false, false, false, false, false, false, false, false, false, false, false, false, false, false, false, false, false, false, false, false, false, false, false, false, false, false, false, false] (any_of HT_.out (by kernel_rfl)) ?_
                                    refine pur 13 (some 93) #[true, true, true, true, true, true, true, true, true, true, true, true, true, true, false, false, false, false, false, false, false, false, false, false, false, false, false, false, false, false, false, false, false, false, false, false, false, false, false, false, false, false, false, false, false, false, false, false, false] (any_of HT_.out (by kernel_rfl)) ?_
                                    refine pur 14 (some 94) #[true, true, true, true, true, true, true, true, true, true, true, true, true, true, true, false, false, false, false, false, false, false, false, false, false, false, false, false, false, false, false, false, false, false, false, false, false, false, false, false, false, false, false, false, false, false, false, false, false] (any_of HT_.out (by kernel_rfl)) ?_
                                    refine pur 15 (some 95) #[true, true, true, true, true, true, true, true, true, true, true, true, true, true, true, true, false, false, false, false, false, false, false, false, false, false, false, false, false, false, false, false, false, false, false, false, false, false, false, false, false, false, false, false, false, false, false, false, false] (any_of HT_.out (by kernel_rfl)) ?_
                                    refine pur 16 (some 96) #[true, true, true, true, true, true, true, true, true, true, true, true, true, true, true, true, true, false, false, false, false, false, false, false, false, false, false, false, false, false, false, false, false, false, false, false, false, false, false, false, false, false, false, false, false, false, false, false, false] (any_of HT_.out (by kernel_rfl)) ?_
                                    refine pur 17 (some 97) #[true, true, true, true, true, true, true, true, true, true, true, true, true, true, true, true, true, true, false, false, false, false, false, false, false, false, false, false, false, false, false, false, false, false, false, false, false, false, false, false, false, false, false, false, false, false, false, false, false] (any_of HT_.out (by kernel_rfl)) ?_
                                    refine tak 18 (some 98) #[true, true, true, true, true, true, true, true, true, true, true, true, true, true, true, true, true, true, true, false, false, false, false, false, false, false, false, false, false, false, false, false, false, false, false, false, false, false, false, false, false, false, false, false, false, false, false, false, false] (take_ofW HT_.out HW_.out (by kernel_rfl)) hHeld ?_
                                    refine pur 19 (some 99) #[true, true, true, true, true, true, true, true, true, true, true, true, true, true, true, true, true, true, true, true, false, false, false, false, false, false, false, false, false, false, false, false, false, false, false, false, false, false, false, false, false, false, false, false, false, false, false, false, false] (any_of HT_.out (by kernel_rfl)) ?_
                                    refine one_ (i := 20) (N := some 100) #[true, true, true, true, true, true, true, true, true, true, true, true, true, true, true, true, true, true, true, true, true, false, false, false, false, false, false, false, false, false, false, false, false, false, false, false, false, false, false, false, false, false, false, false, false, false, false, false, false] rfl rfl (one_of HT_.out (by kernel_rfl)) (by decide) (fun K hK => ?_)
                                    refine goes_ Try.func33 (by kernel_rfl) rfl #[.bool (rdOf false t7320 192)] (by rfl) rfl rfl pa ?_
                                    with_reducible refine (flyballlaw01_one.calls (rdOf false t7320 192) t7355 _ A72.out).mono ?_
                                    rintro e w' ⟨rfl, ⟨nd, rfl⟩⟩
                                    refine ⟨_, rfl, ?_⟩
                                    refine hK.out _ _ ⟨bc BK7301 0, bc BK7301 1, bc BK7301 2, bc BK7302 0, bc BK7302 1, bc BK7302 2, hHeld.2.2.2.2.2.2⟩ (fun hHeld => ?_)
                                    clear hK K
                                    refine nrm (some 100) ?_
                                    refine pur 21 (some 101) #[true, true, true, true, true, true, true, true, true, true, true, true, true, true, true, true, true, true, true, true, true, true, false, false, false, false, false, false, false, false, false, false, false, false, false, false, false, false, false, false, false, false, false, false, false, false, false, false, false] (any_of HT_.out (by kernel_rfl)) ?_
                                    refine pur 22 (some 102) #[true, true, true, true, true, true, true, true, true, true, true, true, true, true, true, true, true, true, true, true, true, true, true, false, false, false, false, false, false, false, false, false, false, false, false, false, false, false, false, false, false, false, false, false, false, false, false, false, false] (any_of HT_.out (by kernel_rfl)) ?_
                                    refine pur 23 (some 103) #[true, true, true, true, true, true, true, true, true, true, true, true, true, true, true, true, true, true, true, true, true, true, true, true, false, false, false, false, false, false, false, false, false, false, false, false, false, false, false, false, false, false, false, false, false, false, false, false, false] (any_of HT_.out (by kernel_rfl)) ?_
                                    refine pur 24 (some 104) #[true, true, true, true, true, true, true, true, true, true, true, true, true, true, true, true, true, true, true, true, true, true, true, true, true, false, false, false, false, false, false, false, false, false, false, false, false, false, false, false, false, false, false, false, false, false, false, false, false] (any_of HT_.out (by kernel_rfl)) ?_
                                    refine pur 25 (some 105) #[true, true, true, true, true, true, true, true, true, true, true, true, true, true, true, true, true, true, true, true, true, true, true, true, true, true, false, false, false, false, false, false, false, false, false, false, false, false, false, false, false, false, false, false, false, false, false, false, false] (any_of HT_.out (by kernel_rfl)) ?_
                                    refine one_ (i := 26) (N := some 106) #[true, true, true, true, true, true, true, true, true, true, true, true, true, true, true, true, true, true, true, true, true, true, true, true, true, true, true, false, false, false, false, false, false, false, false, false, false, false, false, false, false, false, false, false, false, false, false, false, false] rfl rfl (one_of HT_.out (by kernel_rfl)) (by decide) (fun K hK => ?_)
                                    refine goes_ Try.func33 (by kernel_rfl) rfl #[.bool t7330] (by rfl) rfl rfl pa ?_
                                    with_reducible refine (flyballlaw01_one.calls t7330 t7356 _ A74.out).mono ?_
                                    rintro e w' ⟨rfl, ⟨nd, rfl⟩⟩
                                    refine ⟨_, rfl, ?_⟩
                                    refine hK.out _ _ ⟨bc BK7301 0, bc BK7301 1, bc BK7301 2, bc BK7302 0, bc BK7302 1, bc BK7302 2, hHeld.2.2.2.2.2.2⟩ (fun hHeld => ?_)
                                    clear hK K
                                    refine nrm (some 106) ?_
                                    refine pur 27 (some 107) #[true, true, true, true, true, true, true, true, true, true, true, true, true, true, true, true, true, true, true, true, true, true, true, true, true, true, true, true, false, false, false, false, false, false, false, false, false, false, false, false, false, false, false, false, false, false, false, false, false] (any_of HT_.out (by kernel_rfl)) ?_
                                    refine pur 28 (some 108) #[true, true, true, true, true, true, true, true, true, true, true, true, true, true, true, true, true, true, true, true, true, true, true, true, true, true, true, true, true, false, false, false, false, false, false, false, false, false, false, false, false, false, false, false, false, false, false, false, false] (any_of HT_.out (by kernel_rfl)) ?_
                                    refine pur 29 (some 109) #[true, true, true, true, true, true, true, true, true, true, true, true, true, true, true, true, true, true, true, true, true, true, true, true, true, true, true, true, true, true, false, false, false, false, false, false, false, false, false, false, false, false, false, false, false, false, false, false, false] (any_of HT_.out (by kernel_rfl)) ?_
                                    refine tak 30 (some 110) #[true, true, true, true, true, true, true, true, true, true, true, true, true, true, true, true, true, true, true, true, true, true, true, true, true, true, true, true, true, true, true, false, false, false, false, false, false, false, false, false, false, false, false, false, false, false, false, false, false] (take_ofW HT_.out HW_.out (by kernel_rfl)) hHeld ?_
                                    refine tak 31 (some 111) #[true, true, true, true, true, true, true, true, true, true, true, true, true, true, true, true, true, true, true, true, true, true, true, true, true, true, true, true, true, true, true, true, false, false, false, false, false, false, false, false, false, false, false, false, false, false, false, false, false] (take_ofW HT_.out HW_.out (by kernel_rfl)) hHeld ?_
                                    refine tak 33 (some 113) #[true, true, true, true, true, true, true, true, true, true, true, true, true, true, true, true, true, true, true, true, true, true, true, true, true, true, true, true, true, true, true, true, false, true, false, false, false, false, false, false, false, false, false, false, false, false, false, false, false] (take_ofW HT_.out HW_.out (by kernel_rfl)) hHeld ?_
                                    refine tak 35 (some 115) #[true, true, true, true, true, true, true, true, true, true, true, true, true, true, true, true, true, true, true, true, true, true, true, true, true, true, true, true, true, true, true, true, false, true, false, true, false, false, false, false, false, false, false, false, false, false, false, false, false] (take_ofW HT_.out HW_.out (by kernel_rfl)) hHeld ?_
                                    refine one_ (i := 32) (N := some 112) #[true, true, true, true, true, true, true, true, true, true, true, true, true, true, true, true, true, true, true, true, true, true, true, true, true, true, true, true, true, true, true, true, true, true, false, true, false, false, false, false, false, false, false, false, false, false, false, false, false] rfl rfl (one_of HT_.out (by kernel_rfl)) (by decide) (fun K hK => ?_)
                                    refine goes_ Try.func39 (by kernel_rfl) rfl #[.agg #[.int .u64 a0_0, .int .u64 a0_1, .int .u64 a0_2], .agg #[.int .u64 a1_0, .int .u64 a1_1, .int .u64 a1_2]] (by rfl) rfl rfl pa ?_
                                    with_reducible refine (wide_U192_Cmp.calls k1 a0_0 a0_1 a0_2 a1_0 a1_1 a1_2 t7357 _ A76.out).mono ?_
                                    rintro e w100 ⟨rfl, hb⟩
                                    have HS6_ := (hb.cell (World.block_lt_of_cell? _ _ (hHeld.2.2.2.2.2.2))).trans (hHeld.2.2.2.2.2.2)
                                    refine ⟨_, rfl, ?_⟩
                                    have n0_ := Aside0.mk (Kd.R_below (by (with_reducible repeat (first | apply Kd.R_alloc | apply Kd.R_drewN | apply Kd.R_drew)); exact HO_12.out) hb)
                                    have n1_ := Aside0.mk (Kd.R_below (by (with_reducible repeat (first | apply Kd.R_alloc | apply Kd.R_drewN | apply Kd.R_drew)); exact HO_13.out) hb)
                                    have n2_ := Aside0.mk (Kd.R_below (by (with_reducible repeat (first | apply Kd.R_alloc | apply Kd.R_drewN | apply Kd.R_drew)); exact HO_15.out) hb)
                                    (first | have n3_ := flyballlaw01_WideThrees.kb0 BK7301 hb | have n3_ := flyballlaw01_WideThrees.kb1 BK7301 hb | have n3_ := flyballlaw01_WideThrees.kb2 BK7301 hb | have n3_ := kb BK7301 hb)
                                    (first | have n4_ := flyballlaw01_WideThrees.kb0 BK7302 hb | have n4_ := flyballlaw01_WideThrees.kb1 BK7302 hb | have n4_ := flyballlaw01_WideThrees.kb2 BK7302 hb | have n4_ := kb BK7302 hb)
                                    (first | have n5_ := flyballlaw01_WideThrees.kb0 BK7308 hb | have n5_ := flyballlaw01_WideThrees.kb1 BK7308 hb | have n5_ := flyballlaw01_WideThrees.kb2 BK7308 hb | have n5_ := kb BK7308 hb)
                                    (first | have n6_ := flyballlaw01_WideThrees.kb0 BK7313 hb | have n6_ := flyballlaw01_WideThrees.kb1 BK7313 hb | have n6_ := flyballlaw01_WideThrees.kb2 BK7313 hb | have n6_ := kb BK7313 hb)
                                    (first | (with_reducible have n7_ := Aside0.mk (Kd.C_below HR7343.out hb)) | (with_reducible have n7_ := Aside0.mk (Kd.C_below (Kd.C_drewN HR7343.out _) hb)) | (with_reducible have n7_ := Aside0.mk (Kd.C_below (Kd.C_drewN (Kd.C_drewN HR7343.out _) _) hb)))
                                    (first | (with_reducible have n8_ := Aside0.mk (Kd.C_below HR7352.out hb)) | (with_reducible have n8_ := Aside0.mk (Kd.C_below (Kd.C_drewN HR7352.out _) hb)) | (with_reducible have n8_ := Aside0.mk (Kd.C_below (Kd.C_drewN (Kd.C_drewN HR7352.out _) _) hb)))
                                    have n9_ := kh HB hb
                                    clear HO_12
                                    clear HO_13
                                    clear HO_15
                                    clear BK7301
                                    clear BK7302
                                    clear BK7308
                                    clear BK7313
                                    clear HR7343
                                    clear HR7352
                                    clear HB
                                    have HO_12 := n0_
                                    have HO_13 := n1_
                                    have HO_15 := n2_
                                    have BK7301 := n3_
                                    have BK7302 := n4_
                                    have BK7308 := n5_
                                    have BK7313 := n6_
                                    have HR7343 := n7_
                                    have HR7352 := n8_
                                    have HB := n9_
                                    clear n0_ n1_ n2_ n3_ n4_ n5_ n6_ n7_ n8_ n9_
                                    (try clear hb)
                                    (try clear hb2)
                                    (try clear hk)
                                    (try clear hi)
                                    refine hK.out _ _ ⟨bc BK7301 0, bc BK7301 1, bc BK7301 2, bc BK7302 0, bc BK7302 1, bc BK7302 2, HS6_⟩ (fun hHeld => ?_)
                                    clear hK K
                                    refine nrm (some 112) ?_
                                    refine one_ (i := 34) (N := some 114) #[true, true, true, true, true, true, true, true, true, true, true, true, true, true, true, true, true, true, true, true, true, true, true, true, true, true, true, true, true, true, true, true, true, true, true, true, false, false, false, false, false, false, false, false, false, false, false, false, false] rfl rfl (one_of HT_.out (by kernel_rfl)) (by decide) (fun K hK => ?_)
                                    refine goes_ Try.func19 (by kernel_rfl) rfl #[.agg #[.int .u64 a0_0, .int .u64 a0_1, .int .u64 a0_2]] (by rfl) rfl rfl pa ?_
                                    with_reducible refine (flyballlaw01_of3.calls k1 a0_0 a0_1 a0_2 t7358 _ A77.out).mono ?_
                                    rintro e w101 ⟨v7359, rfl, ho0, hb⟩
                                    have HS6_ := (hb.cell (World.block_lt_of_cell? _ _ (hHeld.2.2.2.2.2.2))).trans (hHeld.2.2.2.2.2.2)
                                    refine ⟨_, rfl, ?_⟩
                                    have n0_ := Aside0.mk (Kd.R_elder' (by (with_reducible repeat (first | apply Kd.R_alloc | apply Kd.R_drewN | apply Kd.R_drew)); exact HO_12.out) (Kd.R_base ho0) hb)
                                    have n1_ := Aside0.mk (Kd.R_elder' (by (with_reducible repeat (first | apply Kd.R_alloc | apply Kd.R_drewN | apply Kd.R_drew)); exact HO_13.out) (Kd.R_base ho0) hb)
                                    have n2_ := Aside0.mk (Kd.R_elder' (by (with_reducible repeat (first | apply Kd.R_alloc | apply Kd.R_drewN | apply Kd.R_drew)); exact HO_15.out) (Kd.R_base ho0) hb)
                                    have n3_ := Aside0.mk (Kd.R_lower (Kd.R_new' (Kd.R_new' (Kd.R_new' ho0 (Kd.R_lt (by (with_reducible repeat (first | apply Kd.R_alloc | apply Kd.R_drewN | apply Kd.R_drew)); exact HO_12.out))) (Kd.R_lt (by (with_reducible repeat (first | apply Kd.R_alloc | apply Kd.R_drewN | apply Kd.R_drew)); exact HO_13.out))) (Kd.R_lt (by (with_reducible repeat (first | apply Kd.R_alloc | apply Kd.R_drewN | apply Kd.R_drew)); exact HO_15.out))) (below_size (pl HB)))
                                    (first | have n4_ := flyballlaw01_WideThrees.kb0 BK7301 hb | have n4_ := flyballlaw01_WideThrees.kb1 BK7301 hb | have n4_ := flyballlaw01_WideThrees.kb2 BK7301 hb | have n4_ := kb BK7301 hb)
                                    (first | have n5_ := flyballlaw01_WideThrees.kb0 BK7302 hb | have n5_ := flyballlaw01_WideThrees.kb1 BK7302 hb | have n5_ := flyballlaw01_WideThrees.kb2 BK7302 hb | have n5_ := kb BK7302 hb)
                                    (first | have n6_ := flyballlaw01_WideThrees.kb0 BK7308 hb | have n6_ := flyballlaw01_WideThrees.kb1 BK7308 hb | have n6_ := flyballlaw01_WideThrees.kb2 BK7308 hb | have n6_ := kb BK7308 hb)
                                    (first | have n7_ := flyballlaw01_WideThrees.kb0 BK7313 hb | have n7_ := flyballlaw01_WideThrees.kb1 BK7313 hb | have n7_ := flyballlaw01_WideThrees.kb2 BK7313 hb | have n7_ := kb BK7313 hb)
                                    (first | (with_reducible have n8_ := Aside0.mk (Kd.C_below HR7343.out hb)) | (with_reducible have n8_ := Aside0.mk (Kd.C_below (Kd.C_drewN HR7343.out _) hb)) | (with_reducible have n8_ := Aside0.mk (Kd.C_below (Kd.C_drewN (Kd.C_drewN HR7343.out _) _) hb)))
                                    (first | (with_reducible have n9_ := Aside0.mk (Kd.C_below HR7352.out hb)) | (with_reducible have n9_ := Aside0.mk (Kd.C_below (Kd.C_drewN HR7352.out _) hb)) | (with_reducible have n9_ := Aside0.mk (Kd.C_below (Kd.C_drewN (Kd.C_drewN HR7352.out _) _) hb)))
                                    have n10_ := kh HB hb
                                    clear HO_12
                                    clear HO_13
                                    clear HO_15
                                    clear BK7301
                                    clear BK7302
                                    clear BK7308
                                    clear BK7313
                                    clear HR7343
                                    clear HR7352
                                    clear HB
                                    have HO_12 := n0_
                                    have HO_13 := n1_
                                    have HO_15 := n2_
                                    have HO7360 := n3_
                                    have BK7301 := n4_
                                    have BK7302 := n5_
                                    have BK7308 := n6_
                                    have BK7313 := n7_
                                    have HR7343 := n8_
                                    have HR7352 := n9_
                                    have HB := n10_
                                    clear n0_ n1_ n2_ n3_ n4_ n5_ n6_ n7_ n8_ n9_ n10_
                                    (try clear hb)
                                    (try clear hb2)
                                    (try clear hk)
                                    (try clear hi)
                                    (try clear ho0)
                                    refine hK.out _ _ ⟨bc BK7301 0, bc BK7301 1, bc BK7301 2, bc BK7302 0, bc BK7302 1, bc BK7302 2, HS6_⟩ (fun hHeld => ?_)
                                    clear hK K
                                    refine nrm (some 114) ?_
                                    refine one_ (i := 36) (N := some 116) #[true, true, true, true, true, true, true, true, true, true, true, true, true, true, true, true, true, true, true, true, true, true, true, true, true, true, true, true, true, true, true, true, true, true, true, true, true, false, false, false, false, false, false, false, false, false, false, false, false] rfl rfl (one_of HT_.out (by kernel_rfl)) (by decide) (fun K hK => ?_)
                                    refine goes_ Try.func19 (by kernel_rfl) rfl #[.agg #[.int .u64 a1_0, .int .u64 a1_1, .int .u64 a1_2]] (by rfl) rfl rfl pa ?_
                                    with_reducible refine (flyballlaw01_of3.calls k1 a1_0 a1_1 a1_2 t7361 _ A78.out).mono ?_
                                    rintro e w102 ⟨v7362, rfl, ho0, hb⟩
                                    have HS6_ := (hb.cell (World.block_lt_of_cell? _ _ (hHeld.2.2.2.2.2.2))).trans (hHeld.2.2.2.2.2.2)
                                    refine ⟨_, rfl, ?_⟩
                                    have n0_ := Aside0.mk (Kd.R_elder' (by (with_reducible repeat (first | apply Kd.R_alloc | apply Kd.R_drewN | apply Kd.R_drew)); exact HO_12.out) (Kd.R_base ho0) hb)
                                    have n1_ := Aside0.mk (Kd.R_elder' (by (with_reducible repeat (first | apply Kd.R_alloc | apply Kd.R_drewN | apply Kd.R_drew)); exact HO_13.out) (Kd.R_base ho0) hb)
                                    have n2_ := Aside0.mk (Kd.R_elder' (by (with_reducible repeat (first | apply Kd.R_alloc | apply Kd.R_drewN | apply Kd.R_drew)); exact HO_15.out) (Kd.R_base ho0) hb)
                                    have n3_ := Aside0.mk (Kd.R_elder' (by (with_reducible repeat (first | apply Kd.R_alloc | apply Kd.R_drewN | apply Kd.R_drew)); exact HO7360.out) (Kd.R_base ho0) hb)
                                    have n4_ := Aside0.mk (Kd.R_lower (Kd.R_new' (Kd.R_new' (Kd.R_new' (Kd.R_new' ho0 (Kd.R_lt (by (with_reducible repeat (first | apply Kd.R_alloc | apply Kd.R_drewN | apply Kd.R_drew)); exact HO_12.out))) (Kd.R_lt (by (with_reducible repeat (first | apply Kd.R_alloc | apply Kd.R_drewN | apply Kd.R_drew)); exact HO_13.out))) (Kd.R_lt (by (with_reducible repeat (first | apply Kd.R_alloc | apply Kd.R_drewN | apply Kd.R_drew)); exact HO_15.out))) (Kd.R_lt (by (with_reducible repeat (first | apply Kd.R_alloc | apply Kd.R_drewN | apply Kd.R_drew)); exact HO7360.out))) (below_size (pl HB)))
                                    (first | have n5_ := flyballlaw01_WideThrees.kb0 BK7301 hb | have n5_ := flyballlaw01_WideThrees.kb1 BK7301 hb | have n5_ := flyballlaw01_WideThrees.kb2 BK7301 hb | have n5_ := kb BK7301 hb)
                                    (first | have n6_ := flyballlaw01_WideThrees.kb0 BK7302 hb | have n6_ := flyballlaw01_WideThrees.kb1 BK7302 hb | have n6_ := flyballlaw01_WideThrees.kb2 BK7302 hb | have n6_ := kb BK7302 hb)
                                    (first | have n7_ := flyballlaw01_WideThrees.kb0 BK7308 hb | have n7_ := flyballlaw01_WideThrees.kb1 BK7308 hb | have n7_ := flyballlaw01_WideThrees.kb2 BK7308 hb | have n7_ := kb BK7308 hb)
                                    (first | have n8_ := flyballlaw01_WideThrees.kb0 BK7313 hb | have n8_ := flyballlaw01_WideThrees.kb1 BK7313 hb | have n8_ := flyballlaw01_WideThrees.kb2 BK7313 hb | have n8_ := kb BK7313 hb)
                                    (first | (with_reducible have n9_ := Aside0.mk (Kd.C_below HR7343.out hb)) | (with_reducible have n9_ := Aside0.mk (Kd.C_below (Kd.C_drewN HR7343.out _) hb)) | (with_reducible have n9_ := Aside0.mk (Kd.C_below (Kd.C_drewN (Kd.C_drewN HR7343.out _) _) hb)))
                                    (first | (with_reducible have n10_ := Aside0.mk (Kd.C_below HR7352.out hb)) | (with_reducible have n10_ := Aside0.mk (Kd.C_below (Kd.C_drewN HR7352.out _) hb)) | (with_reducible have n10_ := Aside0.mk (Kd.C_below (Kd.C_drewN (Kd.C_drewN HR7352.out _) _) hb)))
                                    have n11_ := kh HB hb
                                    clear HO_12
                                    clear HO_13
                                    clear HO_15
                                    clear HO7360
                                    clear BK7301
                                    clear BK7302
                                    clear BK7308
                                    clear BK7313
                                    clear HR7343
                                    clear HR7352
                                    clear HB
                                    have HO_12 := n0_
                                    have HO_13 := n1_
                                    have HO_15 := n2_
                                    have HO7360 := n3_
                                    have HO7363 := n4_
                                    have BK7301 := n5_
                                    have BK7302 := n6_
                                    have BK7308 := n7_
                                    have BK7313 := n8_
                                    have HR7343 := n9_
                                    have HR7352 := n10_
                                    have HB := n11_
                                    clear n0_ n1_ n2_ n3_ n4_ n5_ n6_ n7_ n8_ n9_ n10_ n11_
                                    (try clear hb)
                                    (try clear hb2)
                                    (try clear hk)
                                    (try clear hi)
                                    (try clear ho0)
                                    obtain ⟨Ao103, co103, eo103⟩ := Kd.R_slice HO7360.out
                                    (first | subst eo103 | (injection eo103 with f1_ f2_ f3_; have f4_ := f1_.symm; have f5_ := f3_.symm; clear f1_ f2_ f3_; subst f4_; subst f5_))
                                    obtain ⟨Ao104, co104, eo104⟩ := Kd.R_slice HO7363.out
                                    (first | subst eo104 | (injection eo104 with f1_ f2_ f3_; have f4_ := f1_.symm; have f5_ := f3_.symm; clear f1_ f2_ f3_; subst f4_; subst f5_))
                                    refine hK.out _ _ ⟨bc BK7301 0, bc BK7301 1, bc BK7301 2, bc BK7302 0, bc BK7302 1, bc BK7302 2, HS6_⟩ (fun hHeld => ?_)
                                    clear hK K
                                    refine nrm (some 116) ?_
                                    refine one_ (i := 37) (N := some 117) #[true, true, true, true, true, true, true, true, true, true, true, true, true, true, true, true, true, true, true, true, true, true, true, true, true, true, true, true, true, true, true, true, true, true, true, true, true, true, false, false, false, false, false, false, false, false, false, false, false] rfl rfl (one_of HT_.out (by kernel_rfl)) (by decide) (fun K hK => ?_)
                                    refine goes_ Try.func18 (by kernel_rfl) rfl #[.slice Ao103 t7358.length co103, .slice Ao104 t7361.length co104] (by rfl) rfl rfl pa ?_
                                    with_reducible refine (flyballref01_Cmp.calls k1 _ _ t7358 _ _ t7361 t7364 _ ?side1 ?side2 ?side3 ?side4 A79.out).mono ?_
                                    (case side1 => repeat (first | exact (Kd.R_reads' HO7360.out).2.2 | (with_reducible refine Kd.C_alloc ?_ _) | (with_reducible refine Kd.C_drewN ?_ _) | (with_reducible refine Kd.C_drew ?_)))
                                    (case side2 => exact (Kd.R_reads' HO7360.out).2.1)
                                    (case side3 => repeat (first | exact (Kd.R_reads' HO7363.out).2.2 | (with_reducible refine Kd.C_alloc ?_ _) | (with_reducible refine Kd.C_drewN ?_ _) | (with_reducible refine Kd.C_drew ?_)))
                                    (case side4 => exact (Kd.R_reads' HO7363.out).2.1)
                                    rintro e w105 ⟨rfl, hb⟩
                                    have HS6_ := (hb.cell (World.block_lt_of_cell? _ _ (hHeld.2.2.2.2.2.2))).trans (hHeld.2.2.2.2.2.2)
                                    refine ⟨_, rfl, ?_⟩
                                    have n0_ := Aside0.mk (Kd.R_below (by (with_reducible repeat (first | apply Kd.R_alloc | apply Kd.R_drewN | apply Kd.R_drew)); exact HO_12.out) hb)
                                    have n1_ := Aside0.mk (Kd.R_below (by (with_reducible repeat (first | apply Kd.R_alloc | apply Kd.R_drewN | apply Kd.R_drew)); exact HO_13.out) hb)
                                    have n2_ := Aside0.mk (Kd.R_below (by (with_reducible repeat (first | apply Kd.R_alloc | apply Kd.R_drewN | apply Kd.R_drew)); exact HO_15.out) hb)
                                    have n3_ := Aside0.mk (Kd.R_below (by (with_reducible repeat (first | apply Kd.R_alloc | apply Kd.R_drewN | apply Kd.R_drew)); exact HO7360.out) hb)
                                    have n4_ := Aside0.mk (Kd.R_below (by (with_reducible repeat (first | apply Kd.R_alloc | apply Kd.R_drewN | apply Kd.R_drew)); exact HO7363.out) hb)
                                    (first | have n5_ := flyballlaw01_WideThrees.kb0 BK7301 hb | have n5_ := flyballlaw01_WideThrees.kb1 BK7301 hb | have n5_ := flyballlaw01_WideThrees.kb2 BK7301 hb | have n5_ := kb BK7301 hb)
                                    (first | have n6_ := flyballlaw01_WideThrees.kb0 BK7302 hb | have n6_ := flyballlaw01_WideThrees.kb1 BK7302 hb | have n6_ := flyballlaw01_WideThrees.kb2 BK7302 hb | have n6_ := kb BK7302 hb)
                                    (first | have n7_ := flyballlaw01_WideThrees.kb0 BK7308 hb | have n7_ := flyballlaw01_WideThrees.kb1 BK7308 hb | have n7_ := flyballlaw01_WideThrees.kb2 BK7308 hb | have n7_ := kb BK7308 hb)
                                    (first | have n8_ := flyballlaw01_WideThrees.kb0 BK7313 hb | have n8_ := flyballlaw01_WideThrees.kb1 BK7313 hb | have n8_ := flyballlaw01_WideThrees.kb2 BK7313 hb | have n8_ := kb BK7313 hb)
                                    (first | (with_reducible have n9_ := Aside0.mk (Kd.C_below HR7343.out hb)) | (with_reducible have n9_ := Aside0.mk (Kd.C_below (Kd.C_drewN HR7343.out _) hb)) | (with_reducible have n9_ := Aside0.mk (Kd.C_below (Kd.C_drewN (Kd.C_drewN HR7343.out _) _) hb)))
                                    (first | (with_reducible have n10_ := Aside0.mk (Kd.C_below HR7352.out hb)) | (with_reducible have n10_ := Aside0.mk (Kd.C_below (Kd.C_drewN HR7352.out _) hb)) | (with_reducible have n10_ := Aside0.mk (Kd.C_below (Kd.C_drewN (Kd.C_drewN HR7352.out _) _) hb)))
                                    have n11_ := kh HB hb
                                    clear HO_12
                                    clear HO_13
                                    clear HO_15
                                    clear HO7360
                                    clear HO7363
                                    clear BK7301
                                    clear BK7302
                                    clear BK7308
                                    clear BK7313
                                    clear HR7343
                                    clear HR7352
                                    clear HB
                                    have HO_12 := n0_
                                    have HO_13 := n1_
                                    have HO_15 := n2_
                                    have HO7360 := n3_
                                    have HO7363 := n4_
                                    have BK7301 := n5_
                                    have BK7302 := n6_
                                    have BK7308 := n7_
                                    have BK7313 := n8_
                                    have HR7343 := n9_
                                    have HR7352 := n10_
                                    have HB := n11_
                                    clear n0_ n1_ n2_ n3_ n4_ n5_ n6_ n7_ n8_ n9_ n10_ n11_
                                    (try clear hb)
                                    (try clear hb2)
                                    (try clear hk)
                                    (try clear hi)
                                    refine hK.out _ _ ⟨bc BK7301 0, bc BK7301 1, bc BK7301 2, bc BK7302 0, bc BK7302 1, bc BK7302 2, HS6_⟩ (fun hHeld => ?_)
                                    clear hK K
                                    refine nrm (some 117) ?_
                                    refine pur 38 (some 118) #[true, true, true, true, true, true, true, true, true, true, true, true, true, true, true, true, true, true, true, true, true, true, true, true, true, true, true, true, true, true, true, true, true, true, true, true, true, true, true, false, false, false, false, false, false, false, false, false, false] (any_of HT_.out (by kernel_rfl)) ?_
                                    refine pur 39 (some 119) #[true, true, true, true, true, true, true, true, true, true, true, true, true, true, true, true, true, true, true, true, true, true, true, true, true, true, true, true, true, true, true, true, true, true, true, true, true, true, true, true, false, false, false, false, false, false, false, false, false] (any_of HT_.out (by kernel_rfl)) ?_
                                    refine pur 40 (some 120) #[true, true, true, true, true, true, true, true, true, true, true, true, true, true, true, true, true, true, true, true, true, true, true, true, true, true, true, true, true, true, true, true, true, true, true, true, true, true, true, true, true, false, false, false, false, false, false, false, false] (any_of HT_.out (by kernel_rfl)) ?_
                                    refine tak 41 (some 121) #[true, true, true, true, true, true, true, true, true, true, true, true, true, true, true, true, true, true, true, true, true, true, true, true, true, true, true, true, true, true, true, true, true, true, true, true, true, true, true, true, true, true, false, false, false, false, false, false, false] (take_ofW HT_.out HW_.out (by kernel_rfl)) hHeld ?_
                                    refine tak 43 (some 123) #[true, true, true, true, true, true, true, true, true, true, true, true, true, true, true, true, true, true, true, true, true, true, true, true, true, true, true, true, true, true, true, true, true, true, true, true, true, true, true, true, true, true, false, true, false, false, false, false, false] (take_ofW HT_.out HW_.out (by kernel_rfl)) hHeld ?_
                                    refine one_ (i := 42) (N := some 122) #[true, true, true, true, true, true, true, true, true, true, true, true, true, true, true, true, true, true, true, true, true, true, true, true, true, true, true, true, true, true, true, true, true, true, true, true, true, true, true, true, true, true, true, true, false, false, false, false, false] rfl rfl (one_of HT_.out (by kernel_rfl)) (by decide) (fun K hK => ?_)
                                    refine goes_ Try.func40 (by kernel_rfl) rfl #[.agg #[.int .u64 a0_0, .int .u64 a0_1, .int .u64 a0_2]] (by rfl) rfl rfl pa ?_
                                    with_reducible refine (wide_U192_Len.calls k1 a0_0 a0_1 a0_2 t7365 _ A81.out).mono ?_
                                    rintro e w106 ⟨rfl, hb⟩
                                    have HS6_ := (hb.cell (World.block_lt_of_cell? _ _ (hHeld.2.2.2.2.2.2))).trans (hHeld.2.2.2.2.2.2)
                                    refine ⟨_, rfl, ?_⟩
                                    have n0_ := Aside0.mk (Kd.R_below (by (with_reducible repeat (first | apply Kd.R_alloc | apply Kd.R_drewN | apply Kd.R_drew)); exact HO_12.out) hb)
                                    have n1_ := Aside0.mk (Kd.R_below (by (with_reducible repeat (first | apply Kd.R_alloc | apply Kd.R_drewN | apply Kd.R_drew)); exact HO_13.out) hb)
                                    have n2_ := Aside0.mk (Kd.R_below (by (with_reducible repeat (first | apply Kd.R_alloc | apply Kd.R_drewN | apply Kd.R_drew)); exact HO_15.out) hb)
                                    have n3_ := Aside0.mk (Kd.R_below (by (with_reducible repeat (first | apply Kd.R_alloc | apply Kd.R_drewN | apply Kd.R_drew)); exact HO7360.out) hb)
                                    have n4_ := Aside0.mk (Kd.R_below (by (with_reducible repeat (first | apply Kd.R_alloc | apply Kd.R_drewN | apply Kd.R_drew)); exact HO7363.out) hb)
                                    (first | have n5_ := flyballlaw01_WideThrees.kb0 BK7301 hb | have n5_ := flyballlaw01_WideThrees.kb1 BK7301 hb | have n5_ := flyballlaw01_WideThrees.kb2 BK7301 hb | have n5_ := kb BK7301 hb)
                                    (first | have n6_ := flyballlaw01_WideThrees.kb0 BK7302 hb | have n6_ := flyballlaw01_WideThrees.kb1 BK7302 hb | have n6_ := flyballlaw01_WideThrees.kb2 BK7302 hb | have n6_ := kb BK7302 hb)
                                    (first | have n7_ := flyballlaw01_WideThrees.kb0 BK7308 hb | have n7_ := flyballlaw01_WideThrees.kb1 BK7308 hb | have n7_ := flyballlaw01_WideThrees.kb2 BK7308 hb | have n7_ := kb BK7308 hb)
                                    (first | have n8_ := flyballlaw01_WideThrees.kb0 BK7313 hb | have n8_ := flyballlaw01_WideThrees.kb1 BK7313 hb | have n8_ := flyballlaw01_WideThrees.kb2 BK7313 hb | have n8_ := kb BK7313 hb)
                                    (first | (with_reducible have n9_ := Aside0.mk (Kd.C_below HR7343.out hb)) | (with_reducible have n9_ := Aside0.mk (Kd.C_below (Kd.C_drewN HR7343.out _) hb)) | (with_reducible have n9_ := Aside0.mk (Kd.C_below (Kd.C_drewN (Kd.C_drewN HR7343.out _) _) hb)))
                                    (first | (with_reducible have n10_ := Aside0.mk (Kd.C_below HR7352.out hb)) | (with_reducible have n10_ := Aside0.mk (Kd.C_below (Kd.C_drewN HR7352.out _) hb)) | (with_reducible have n10_ := Aside0.mk (Kd.C_below (Kd.C_drewN (Kd.C_drewN HR7352.out _) _) hb)))
                                    have n11_ := kh HB hb
                                    clear HO_12
                                    clear HO_13
                                    clear HO_15
                                    clear HO7360
                                    clear HO7363
                                    clear BK7301
                                    clear BK7302
                                    clear BK7308
                                    clear BK7313
                                    clear HR7343
                                    clear HR7352
                                    clear HB
                                    have HO_12 := n0_
                                    have HO_13 := n1_
                                    have HO_15 := n2_
                                    have HO7360 := n3_
                                    have HO7363 := n4_
                                    have BK7301 := n5_
                                    have BK7302 := n6_
                                    have BK7308 := n7_
                                    have BK7313 := n8_
                                    have HR7343 := n9_
                                    have HR7352 := n10_
                                    have HB := n11_
                                    clear n0_ n1_ n2_ n3_ n4_ n5_ n6_ n7_ n8_ n9_ n10_ n11_
                                    (try clear hb)
                                    (try clear hb2)
                                    (try clear hk)
                                    (try clear hi)
                                    refine hK.out _ _ ⟨bc BK7301 0, bc BK7301 1, bc BK7301 2, bc BK7302 0, bc BK7302 1, bc BK7302 2, HS6_⟩ (fun hHeld => ?_)
                                    clear hK K
                                    refine nrm (some 122) ?_
                                    refine one_ (i := 44) (N := some 124) #[true, true, true, true, true, true, true, true, true, true, true, true, true, true, true, true, true, true, true, true, true, true, true, true, true, true, true, true, true, true, true, true, true, true, true, true, true, true, true, true, true, true, true, true, true, false, false, false, false] rfl rfl (one_of HT_.out (by kernel_rfl)) (by decide) (fun K hK => ?_)
                                    refine goes_ Try.func19 (by kernel_rfl) rfl #[.agg #[.int .u64 a0_0, .int .u64 a0_1, .int .u64 a0_2]] (by rfl) rfl rfl pa ?_
                                    with_reducible refine (flyballlaw01_of3.calls k1 a0_0 a0_1 a0_2 t7366 _ A82.out).mono ?_
                                    rintro e w107 ⟨v7367, rfl, ho0, hb⟩
                                    have HS6_ := (hb.cell (World.block_lt_of_cell? _ _ (hHeld.2.2.2.2.2.2))).trans (hHeld.2.2.2.2.2.2)
                                    refine ⟨_, rfl, ?_⟩
                                    have n0_ := Aside0.mk (Kd.R_elder' (by (with_reducible repeat (first | apply Kd.R_alloc | apply Kd.R_drewN | apply Kd.R_drew)); exact HO_12.out) (Kd.R_base ho0) hb)
                                    have n1_ := Aside0.mk (Kd.R_elder' (by (with_reducible repeat (first | apply Kd.R_alloc | apply Kd.R_drewN | apply Kd.R_drew)); exact HO_13.out) (Kd.R_base ho0) hb)
                                    have n2_ := Aside0.mk (Kd.R_elder' (by (with_reducible repeat (first | apply Kd.R_alloc | apply Kd.R_drewN | apply Kd.R_drew)); exact HO_15.out) (Kd.R_base ho0) hb)
                                    have n3_ := Aside0.mk (Kd.R_elder' (by (with_reducible repeat (first | apply Kd.R_alloc | apply Kd.R_drewN | apply Kd.R_drew)); exact HO7360.out) (Kd.R_base ho0) hb)
                                    have n4_ := Aside0.mk (Kd.R_elder' (by (with_reducible repeat (first | apply Kd.R_alloc | apply Kd.R_drewN | apply Kd.R_drew)); exact HO7363.out) (Kd.R_base ho0) hb)
                                    have n5_ := Aside0.mk (Kd.R_lower (Kd.R_new' (Kd.R_new' (Kd.R_new' (Kd.R_new' (Kd.R_new' ho0 (Kd.R_lt (by (with_reducible repeat (first | apply Kd.R_alloc | apply Kd.R_drewN | apply Kd.R_drew)); exact HO_12.out))) (Kd.R_lt (by (with_reducible repeat (first | apply Kd.R_alloc | apply Kd.R_drewN | apply Kd.R_drew)); exact HO_13.out))) (Kd.R_lt (by (with_reducible repeat (first | apply Kd.R_alloc | apply Kd.R_drewN | apply Kd.R_drew)); exact HO_15.out))) (Kd.R_lt (by (with_reducible repeat (first | apply Kd.R_alloc | apply Kd.R_drewN | apply Kd.R_drew)); exact HO7360.out))) (Kd.R_lt (by (with_reducible repeat (first | apply Kd.R_alloc | apply Kd.R_drewN | apply Kd.R_drew)); exact HO7363.out))) (below_size (pl HB)))
                                    (first | have n6_ := flyballlaw01_WideThrees.kb0 BK7301 hb | have n6_ := flyballlaw01_WideThrees.kb1 BK7301 hb | have n6_ := flyballlaw01_WideThrees.kb2 BK7301 hb | have n6_ := kb BK7301 hb)
                                    (first | have n7_ := flyballlaw01_WideThrees.kb0 BK7302 hb | have n7_ := flyballlaw01_WideThrees.kb1 BK7302 hb | have n7_ := flyballlaw01_WideThrees.kb2 BK7302 hb | have n7_ := kb BK7302 hb)
                                    (first | have n8_ := flyballlaw01_WideThrees.kb0 BK7308 hb | have n8_ := flyballlaw01_WideThrees.kb1 BK7308 hb | have n8_ := flyballlaw01_WideThrees.kb2 BK7308 hb | have n8_ := kb BK7308 hb)
                                    (first | have n9_ := flyballlaw01_WideThrees.kb0 BK7313 hb | have n9_ := flyballlaw01_WideThrees.kb1 BK7313 hb | have n9_ := flyballlaw01_WideThrees.kb2 BK7313 hb | have n9_ := kb BK7313 hb)
                                    (first | (with_reducible have n10_ := Aside0.mk (Kd.C_below HR7343.out hb)) | (with_reducible have n10_ := Aside0.mk (Kd.C_below (Kd.C_drewN HR7343.out _) hb)) | (with_reducible have n10_ := Aside0.mk (Kd.C_below (Kd.C_drewN (Kd.C_drewN HR7343.out _) _) hb)))
                                    (first | (with_reducible have n11_ := Aside0.mk (Kd.C_below HR7352.out hb)) | (with_reducible have n11_ := Aside0.mk (Kd.C_below (Kd.C_drewN HR7352.out _) hb)) | (with_reducible have n11_ := Aside0.mk (Kd.C_below (Kd.C_drewN (Kd.C_drewN HR7352.out _) _) hb)))
                                    have n12_ := kh HB hb
                                    clear HO_12
                                    clear HO_13
                                    clear HO_15
                                    clear HO7360
                                    clear HO7363
                                    clear BK7301
                                    clear BK7302
                                    clear BK7308
                                    clear BK7313
                                    clear HR7343
                                    clear HR7352
                                    clear HB
                                    have HO_12 := n0_
                                    have HO_13 := n1_
                                    have HO_15 := n2_
                                    have HO7360 := n3_
                                    have HO7363 := n4_
                                    have HO7368 := n5_
                                    have BK7301 := n6_
                                    have BK7302 := n7_
                                    have BK7308 := n8_
                                    have BK7313 := n9_
                                    have HR7343 := n10_
                                    have HR7352 := n11_
                                    have HB := n12_
                                    clear n0_ n1_ n2_ n3_ n4_ n5_ n6_ n7_ n8_ n9_ n10_ n11_ n12_
                                    (try clear hb)
                                    (try clear hb2)
                                    (try clear hk)
                                    (try clear hi)
                                    (try clear ho0)
                                    obtain ⟨Ao108, co108, eo108⟩ := Kd.R_slice HO7368.out
                                    (first | subst eo108 | (injection eo108 with f1_ f2_ f3_; have f4_ := f1_.symm; have f5_ := f3_.symm; clear f1_ f2_ f3_; subst f4_; subst f5_))
                                    refine hK.out _ _ ⟨bc BK7301 0, bc BK7301 1, bc BK7301 2, bc BK7302 0, bc BK7302 1, bc BK7302 2, HS6_⟩ (fun hHeld => ?_)
                                    clear hK K
                                    refine nrm (some 124) ?_
                                    refine one_ (i := 45) (N := some 125) #[true, true, true, true, true, true, true, true, true, true, true, true, true, true, true, true, true, true, true, true, true, true, true, true, true, true, true, true, true, true, true, true, true, true, true, true, true, true, true, true, true, true, true, true, true, true, false, false, false] rfl rfl (one_of HT_.out (by kernel_rfl)) (by decide) (fun K hK => ?_)
                                    refine goes_ Try.func35 (by kernel_rfl) rfl #[.slice Ao108 t7366.length co108] (by rfl) rfl rfl pa ?_
                                    with_reducible refine (flyballref01_Len.calls k1 _ _ t7366 t7369 _ ?side1 ?side2 A83.out).mono ?_
                                    (case side1 => repeat (first | exact (Kd.R_reads' HO7368.out).2.2 | (with_reducible refine Kd.C_alloc ?_ _) | (with_reducible refine Kd.C_drewN ?_ _) | (with_reducible refine Kd.C_drew ?_)))
                                    (case side2 => exact (Kd.R_reads' HO7368.out).2.1)
                                    rintro e w' ⟨rfl, ⟨nd, rfl⟩⟩
                                    refine ⟨_, rfl, ?_⟩
                                    refine hK.out _ _ ⟨bc BK7301 0, bc BK7301 1, bc BK7301 2, bc BK7302 0, bc BK7302 1, bc BK7302 2, hHeld.2.2.2.2.2.2⟩ (fun hHeld => ?_)
                                    clear hK K
                                    refine nrm (some 125) ?_
                                    refine pur 46 (some 126) #[true, true, true, true, true, true, true, true, true, true, true, true, true, true, true, true, true, true, true, true, true, true, true, true, true, true, true, true, true, true, true, true, true, true, true, true, true, true, true, true, true, true, true, true, true, true, true, false, false] (any_of HT_.out (by kernel_rfl)) ?_
                                    refine pur 47 (some 127) #[true, true, true, true, true, true, true, true, true, true, true, true, true, true, true, true, true, true, true, true, true, true, true, true, true, true, true, true, true, true, true, true, true, true, true, true, true, true, true, true, true, true, true, true, true, true, true, true, false] (any_of HT_.out (by kernel_rfl)) ?_
                                    refine pur 48 (some 6) #[true, true, true, true, true, true, true, true, true, true, true, true, true, true, true, true, true, true, true, true, true, true, true, true, true, true, true, true, true, true, true, true, true, true, true, true, true, true, true, true, true, true, true, true, true, true, true, true, true] (any_of HT_.out (by kernel_rfl)) ?_
                                    refine done_ (done_of HT_.out (by kernel_rfl)) ?_
                                    try go_wp2
                                    go_ret
                                    exact ⟨by first | rfl | (simp [errW_none, errW_some] <;> rfl) | (simp only [← hji62]; first | rfl | (simp [errW_none, errW_some] <;> rfl)) | (simp [*, errW_none, errW_some] <;> rfl), pl HB⟩
                                  · rw [if_neg c80] at H
                                    exact absurd H (by simp)
                                · rw [if_neg c75] at H
                                  exact absurd H (by simp)
                              · rw [if_neg c73] at H
                                exact absurd H (by simp)
                            · rw [if_neg c71] at H
                              exact absurd H (by simp)
                          · rw [if_neg c70] at H
                            have c70b0 : decide (192 < (t7320.length : Int)) = false := decide_eq_false c70
                            have c70b1 : decide (192 < t7320.length) = false := decide_eq_false (by omega)
                            clear c70
                            obtain ⟨t7370, A1090, H⟩ := Option.bind_eq_some_iff.mp H
                            have A109 := Aside0.mk A1090
                            clear A1090
                            (try dsimp only at H)
                            by_cases c110 : t7307 = t7370
                            · rw [if_pos c110] at H
                              have c110b0 : (t7307 == t7370) = true := beq_iff_eq.mpr c110
                              have c110b1 : (t7307 != t7370) = false := bne_eq_false_iff_eq.mpr c110
                              clear c110
                              obtain ⟨t7371, A1110, H⟩ := Option.bind_eq_some_iff.mp H
                              have A111 := Aside0.mk A1110
                              clear A1110
                              (try dsimp only at H)
                              by_cases c112 : t7312 = t7371
                              · rw [if_pos c112] at H
                                have c112b0 : (t7312 == t7371) = true := beq_iff_eq.mpr c112
                                have c112b1 : (t7312 != t7371) = false := bne_eq_false_iff_eq.mpr c112
                                clear c112
                                obtain ⟨t7372, A1130, H⟩ := Option.bind_eq_some_iff.mp H
                                have A113 := Aside0.mk A1130
                                clear A1130
                                (try dsimp only at H)
                                obtain ⟨t7373, A1140, H⟩ := Option.bind_eq_some_iff.mp H
                                have A114 := Aside0.mk A1140
                                clear A1140
                                (try dsimp only at H)
                                obtain ⟨t7376, A1150, H⟩ := Option.bind_eq_some_iff.mp H
                                have A115 := Aside0.mk A1150
                                clear A1150
                                (try dsimp only at H)
                                obtain ⟨t7379, A1160, H⟩ := Option.bind_eq_some_iff.mp H
                                have A116 := Aside0.mk A1160
                                clear A1160
                                (try dsimp only at H)
                                by_cases c117 : t7372 = t7379
                                · rw [if_pos c117] at H
                                  have c117b0 : (t7372 == t7379) = true := beq_iff_eq.mpr c117
                                  have c117b1 : (t7372 != t7379) = false := bne_eq_false_iff_eq.mpr c117
                                  clear c117
                                  obtain ⟨t7380, A1180, H⟩ := Option.bind_eq_some_iff.mp H
                                  have A118 := Aside0.mk A1180
                                  clear A1180
                                  (try dsimp only at H)
                                  obtain ⟨t7381, A1190, H⟩ := Option.bind_eq_some_iff.mp H
                                  have A119 := Aside0.mk A1190
                                  clear A1190
                                  (try dsimp only at H)
                                  obtain ⟨t7384, A1200, H⟩ := Option.bind_eq_some_iff.mp H
                                  have A120 := Aside0.mk A1200
                                  clear A1200
                                  (try dsimp only at H)
                                  obtain rfl := Option.some.inj H
                                  try go_wp2
                                  replace HO_12 := Aside0.mk (Kd.R_drew HO_12.out)
                                  replace HO_13 := Aside0.mk (Kd.R_drew HO_13.out)
                                  replace HO_15 := Aside0.mk (Kd.R_drew HO_15.out)
                                  replace BK7301 := Aside0.mk (blk_drew BK7301.out)
                                  replace BK7302 := Aside0.mk (blk_drew BK7302.out)
                                  replace BK7308 := Aside0.mk (blk_drew BK7308.out)
                                  replace BK7313 := Aside0.mk (blk_drew BK7313.out)
                                  replace HB := Aside0.mk (below_drew1 HB.out)
                                  obtain ⟨Ao123, co123, eo123⟩ := Kd.R_slice HO_12.out
                                  (first | subst eo123 | (injection eo123 with f1_ f2_ f3_; have f4_ := f1_.symm; have f5_ := f3_.symm; clear f1_ f2_ f3_; subst f4_; subst f5_))
                                  have q122 : (192 : Int) ≤ ((t7320.length : Int) : Int) := of_decide_eq_true (by first | (with_reducible assumption) | assumption)
                                  obtain ⟨i0122, hi0122, _, hsz122, _⟩ := info_parts info4
                                  have hroom122 : t7320.length ≤ co123 := (Kd.R_reads' HO_12.out).2.1
                                  have hC122 : Kd.C Kd.bool _ Ao123 t7320.length t7320 := (Kd.R_reads' HO_12.out).2.2
                                  have hcut122 := cut_to (P := Try.prog) 32 4 .i64 Try.underlying32 hi0122 Ao123 t7320.length co123 192 (by omega) q122 hroom122
                                  have hr122 := Kd.C_take (m := 192) hC122 (by omega)
                                  have hy122 : y7340.length = (192 : Int).toNat := (by rw [Ny7340.out, List.length_take]; omega)
                                  rw [← Ny7340.out] at hr122
                                  rw [← hy122] at hcut122
                                  have HR7343 := Aside0.mk hr122
                                  have HC7343 := Aside0.mk (show y7340.length ≤ co123 from by omega)
                                  clear hr122 hC122 hroom122 hi0122 hsz122
                                  have KY122 := Aside0.mk hy122
                                  clear hy122
                                  have KL122 := Aside0.mk (show 192 ≤ t7320.length from by omega)
                                  replace q122 := eq_true q122
                                  refine start_ (n := 5) (S := fun w' => w'.cell? ⟨gb7308, 0, none⟩ = some (.int .u64 t7304) ∧ w'.cell? ⟨gb7308, 1, none⟩ = some (.int .u64 t7305) ∧ w'.cell? ⟨gb7308, 2, none⟩ = some (.int .u64 t7306)) (ds := []) #[false, false, false, false, false] (by kernel_rfl) rfl rfl ⟨bc BK7308 0, bc BK7308 1, bc BK7308 2⟩ (fun hHeld => ?_)
                                  generalize wr.drew = w121 at HO_12 HO_13 HO_15 BK7301 BK7302 BK7308 BK7313 HB HR7343 hHeld ⊢
                                  refine pur 1 (some 66) #[false, true, false, false, false] (by kernel_rfl) ?_
                                  refine pur 2 (some 67) #[false, true, true, false, false] (by kernel_rfl) ?_
                                  refine tak 0 (some 65) #[true, true, true, false, false] (by kernel_rfl) hHeld ?_
                                  refine one_ (i := 3) (N := some 68) #[true, true, true, true, false] rfl rfl (by kernel_rfl) (by decide) (fun K hK => ?_)
                                  refine goes_ Try.func20 (by kernel_rfl) rfl #[.agg #[.int .u64 t7304, .int .u64 t7305, .int .u64 t7306], .slice Ao123 y7340.length co123] (by rfl) rfl rfl pa ?_
                                  with_reducible refine (flyballlaw01_is3.calls k1 t7304 t7305 t7306 _ _ y7340 true _ ?side1 ?side2 A59.out).mono ?_
                                  (case side1 => repeat (first | exact (by repeat (first | (with_reducible exact HR7343.out) | (with_reducible refine Kd.C_alloc ?_ _) | (with_reducible refine Kd.C_drewN ?_ _) | (with_reducible refine Kd.C_drew ?_) | exact HR7343.out)) | (with_reducible refine Kd.C_alloc ?_ _) | (with_reducible refine Kd.C_drewN ?_ _) | (with_reducible refine Kd.C_drew ?_)))
                                  (case side2 => exact HC7343.out)
                                  rintro e w124 ⟨rfl, hb⟩
                                  refine ⟨_, rfl, ?_⟩
                                  have n0_ := Aside0.mk (Kd.R_below (by (with_reducible repeat (first | apply Kd.R_alloc | apply Kd.R_drewN | apply Kd.R_drew)); exact HO_12.out) hb)
                                  have n1_ := Aside0.mk (Kd.R_below (by (with_reducible repeat (first | apply Kd.R_alloc | apply Kd.R_drewN | apply Kd.R_drew)); exact HO_13.out) hb)
                                  have n2_ := Aside0.mk (Kd.R_below (by (with_reducible repeat (first | apply Kd.R_alloc | apply Kd.R_drewN | apply Kd.R_drew)); exact HO_15.out) hb)
                                  (first | have n3_ := flyballlaw01_WideThrees.kb0 BK7301 hb | have n3_ := flyballlaw01_WideThrees.kb1 BK7301 hb | have n3_ := flyballlaw01_WideThrees.kb2 BK7301 hb | have n3_ := kb BK7301 hb)
                                  (first | have n4_ := flyballlaw01_WideThrees.kb0 BK7302 hb | have n4_ := flyballlaw01_WideThrees.kb1 BK7302 hb | have n4_ := flyballlaw01_WideThrees.kb2 BK7302 hb | have n4_ := kb BK7302 hb)
                                  (first | have n5_ := flyballlaw01_WideThrees.kb0 BK7308 hb | have n5_ := flyballlaw01_WideThrees.kb1 BK7308 hb | have n5_ := flyballlaw01_WideThrees.kb2 BK7308 hb | have n5_ := kb BK7308 hb)
                                  (first | have n6_ := flyballlaw01_WideThrees.kb0 BK7313 hb | have n6_ := flyballlaw01_WideThrees.kb1 BK7313 hb | have n6_ := flyballlaw01_WideThrees.kb2 BK7313 hb | have n6_ := kb BK7313 hb)
                                  (first | (with_reducible have n7_ := Aside0.mk (Kd.C_below HR7343.out hb)) | (with_reducible have n7_ := Aside0.mk (Kd.C_below (Kd.C_drewN HR7343.out _) hb)) | (with_reducible have n7_ := Aside0.mk (Kd.C_below (Kd.C_drewN (Kd.C_drewN HR7343.out _) _) hb)))
                                  have n8_ := kh HB hb
                                  clear HO_12
                                  clear HO_13
                                  clear HO_15
                                  clear BK7301
                                  clear BK7302
                                  clear BK7308
                                  clear BK7313
                                  clear HR7343
                                  clear HB
                                  have HO_12 := n0_
                                  have HO_13 := n1_
                                  have HO_15 := n2_
                                  have BK7301 := n3_
                                  have BK7302 := n4_
                                  have BK7308 := n5_
                                  have BK7313 := n6_
                                  have HR7343 := n7_
                                  have HB := n8_
                                  clear n0_ n1_ n2_ n3_ n4_ n5_ n6_ n7_ n8_
                                  (try clear hb)
                                  (try clear hb2)
                                  (try clear hk)
                                  (try clear hi)
                                  refine hK.out _ _ ⟨bc BK7308 0, bc BK7308 1, bc BK7308 2⟩ (fun hHeld => ?_)
                                  clear hK K
                                  refine nrm (some 68) ?_
                                  refine pur 4 (some 17) #[true, true, true, true, true] (by kernel_rfl) ?_
                                  refine done_ (by kernel_rfl) ?_
                                  have hnb125 := NB7313_7301.out
                                  have hnc125 := NB7301_7313.out
                                  have hnb126 := NB7313_7302.out
                                  have hnc126 := NB7302_7313.out
                                  have hnb127 := NB7313_7308.out
                                  have hnc127 := NB7308_7313.out
                                  have ⟨hcz128_0, hcz128_1, hcz128_2, hfz128_0, hfz128_1, hfz128_2⟩ := kz3f BK7313
                                  obtain ⟨Ao129, co129, eo129⟩ := Kd.R_slice HO_13.out
                                  subst eo129
                                  try go_wp2_with (first | ((with_reducible refine gate_callee (f := 20) rfl ?_); refine goesL_ (some 71) rfl rfl Try.func20 (by kernel_rfl) rfl #[.agg #[.int .u64 t7309, .int .u64 t7310, .int .u64 t7311], .slice Ao129 t7329.length co129] rfl pa ?_; (with_reducible refine (flyballlaw01_is3.calls k1 t7309 t7310 t7311 _ _ t7329 true _ ?side1 ?side2 A60.out).mono ?_); (case side1 => repeat (first | exact (Kd.R_reads' HO_13.out).2.2 | (with_reducible refine Kd.C_alloc ?_ _) | (with_reducible refine Kd.C_drewN ?_ _) | (with_reducible refine Kd.C_drew ?_))); (case side2 => exact (Kd.R_reads' HO_13.out).2.1); rintro e w130 ⟨rfl, hb⟩; refine ⟨_, rfl, ?_⟩; have n0_ := Aside0.mk (Kd.R_below (by (with_reducible repeat (first | apply Kd.R_alloc | apply Kd.R_drewN | apply Kd.R_drew)); exact HO_12.out) hb); have n1_ := Aside0.mk (Kd.R_below (by (with_reducible repeat (first | apply Kd.R_alloc | apply Kd.R_drewN | apply Kd.R_drew)); exact HO_13.out) hb); have n2_ := Aside0.mk (Kd.R_below (by (with_reducible repeat (first | apply Kd.R_alloc | apply Kd.R_drewN | apply Kd.R_drew)); exact HO_15.out) hb); (first | have n3_ := flyballlaw01_WideThrees.kb0 BK7301 hb | have n3_ := flyballlaw01_WideThrees.kb1 BK7301 hb | have n3_ := flyballlaw01_WideThrees.kb2 BK7301 hb | have n3_ := kb BK7301 hb); (first | have n4_ := flyballlaw01_WideThrees.kb0 BK7302 hb | have n4_ := flyballlaw01_WideThrees.kb1 BK7302 hb | have n4_ := flyballlaw01_WideThrees.kb2 BK7302 hb | have n4_ := kb BK7302 hb); (first | have n5_ := flyballlaw01_WideThrees.kb0 BK7308 hb | have n5_ := flyballlaw01_WideThrees.kb1 BK7308 hb | have n5_ := flyballlaw01_WideThrees.kb2 BK7308 hb | have n5_ := kb BK7308 hb); (first | have n6_ := flyballlaw01_WideThrees.kb0 BK7313 hb | have n6_ := flyballlaw01_WideThrees.kb1 BK7313 hb | have n6_ := flyballlaw01_WideThrees.kb2 BK7313 hb | have n6_ := kb BK7313 hb); (first | (with_reducible have n7_ := Aside0.mk (Kd.C_below HR7343.out hb)) | (with_reducible have n7_ := Aside0.mk (Kd.C_below (Kd.C_drewN HR7343.out _) hb)) | (with_reducible have n7_ := Aside0.mk (Kd.C_below (Kd.C_drewN (Kd.C_drewN HR7343.out _) _) hb))); have n8_ := kh HB hb; clear HO_12; clear HO_13; clear HO_15; clear BK7301; clear BK7302; clear BK7308; clear BK7313; clear HR7343; clear HB; have HO_12 := n0_; have HO_13 := n1_; have HO_15 := n2_; have BK7301 := n3_; have BK7302 := n4_; have BK7308 := n5_; have BK7313 := n6_; have HR7343 := n7_; have HB := n8_; clear n0_ n1_ n2_ n3_ n4_ n5_ n6_ n7_ n8_; (try clear hb); (try clear hb2); (try clear hk); (try clear hi)))
                                  replace HO_12 := Aside0.mk (Kd.R_drew HO_12.out)
                                  replace HO_13 := Aside0.mk (Kd.R_drew HO_13.out)
                                  replace HO_15 := Aside0.mk (Kd.R_drew HO_15.out)
                                  replace BK7301 := Aside0.mk (blk_drew BK7301.out)
                                  replace BK7302 := Aside0.mk (blk_drew BK7302.out)
                                  replace BK7308 := Aside0.mk (blk_drew BK7308.out)
                                  replace BK7313 := Aside0.mk (blk_drew BK7313.out)
                                  replace HR7343 := Aside0.mk (Kd.C_drew HR7343.out)
                                  replace HB := Aside0.mk (below_drew1 HB.out)
                                  obtain ⟨Ao132, co132, eo132⟩ := Kd.R_slice HO_15.out
                                  (first | subst eo132 | (injection eo132 with f1_ f2_ f3_; have f4_ := f1_.symm; have f5_ := f3_.symm; clear f1_ f2_ f3_; subst f4_; subst f5_))
                                  have q133 : ((ji62) : Int) ≤ ((x15_1.length : Int) : Int) := of_decide_eq_true (by first | (with_reducible assumption) | assumption)
                                  obtain ⟨i0133, hi0133, _, hsz133, _⟩ := info_parts info4
                                  have hroom133 : x15_1.length ≤ co132 := (Kd.R_reads' HO_15.out).2.1
                                  have hC133 : Kd.C Kd.bool _ Ao132 x15_1.length x15_1 := (Kd.R_reads' HO_15.out).2.2
                                  have hcut133 := cut_to (P := Try.prog) 32 4 .i64 Try.underlying32 hi0133 Ao132 x15_1.length co132 (ji62) (of_decide_eq_true (by first | (with_reducible assumption) | assumption)) q133 hroom133
                                  have hr133 := Kd.C_take (m := ((ji62) : Int).toNat) hC133 (by omega)
                                  have hy133 : y7349.length = ((ji62) : Int).toNat := (by rw [Ny7349.out, List.length_take]; omega)
                                  rw [← Ny7349.out] at hr133
                                  rw [← hy133] at hcut133
                                  have HR7352 := Aside0.mk hr133
                                  have HC7352 := Aside0.mk (show y7349.length ≤ co132 from by omega)
                                  clear hr133 hC133 hroom133 hi0133 hsz133
                                  have KY133 := Aside0.mk hy133
                                  clear hy133
                                  have KL133 := Aside0.mk (show ((ji62) : Int).toNat ≤ x15_1.length from by omega)
                                  replace q133 := eq_true q133
                                  refine start_ (n := 9) (S := fun w' => True) (ds := []) #[false, false, false, false, false, false, false, false, false] (by kernel_rfl) rfl rfl trivial (fun hHeld => ?_); refine with_tabW flyballlaw01_WideThrees.tab17 flyballlaw01_WideThrees.bits17 (fun HT_ HW_ => ?_)
                                  generalize w130.drew = w131 at HO_12 HO_13 HO_15 BK7301 BK7302 BK7308 BK7313 HR7343 HB HR7352 hHeld ⊢
                                  refine pur 0 (some 72) #[true, false, false, false, false, false, false, false, false] (any_of HT_.out (by kernel_rfl)) ?_
                                  refine pur 2 (some 74) #[true, false, true, false, false, false, false, false, false] (any_of HT_.out (by kernel_rfl)) ?_
                                  refine pur 3 (some 75) #[true, false, true, true, false, false, false, false, false] (any_of HT_.out (by kernel_rfl)) ?_
                                  refine pur 4 (some 76) #[true, false, true, true, true, false, false, false, false] (any_of HT_.out (by kernel_rfl)) ?_
                                  refine pur 5 (some 77) #[true, false, true, true, true, true, false, false, false] (any_of HT_.out (by kernel_rfl)) ?_
                                  refine pur 6 (some 78) #[true, false, true, true, true, true, true, false, false] (any_of HT_.out (by kernel_rfl)) ?_
                                  refine one_ (i := 1) (N := some 73) #[true, true, true, true, true, true, true, false, false] rfl rfl (one_of HT_.out (by kernel_rfl)) (by decide) (fun K hK => ?_)
                                  refine goes_ Try.func38 (by kernel_rfl) rfl #[.slice A2 l2.length c2] (by rfl) rfl rfl pa ?_
                                  with_reducible refine (wide_Sum.calls k1 _ _ l2 t7346 t7347 t7348 _ ?side1 ?side2 A61.out).mono ?_
                                  (case side1 => repeat (first | exact (Kd.C_below HR2.out HB.out) | (with_reducible refine Kd.C_alloc ?_ _) | (with_reducible refine Kd.C_drewN ?_ _) | (with_reducible refine Kd.C_drew ?_)))
                                  (case side2 => exact HC2.out)
                                  rintro e w134 ⟨rfl, hb⟩
                                  refine ⟨_, rfl, ?_⟩
                                  have n0_ := Aside0.mk (Kd.R_below (by (with_reducible repeat (first | apply Kd.R_alloc | apply Kd.R_drewN | apply Kd.R_drew)); exact HO_12.out) hb)
                                  have n1_ := Aside0.mk (Kd.R_below (by (with_reducible repeat (first | apply Kd.R_alloc | apply Kd.R_drewN | apply Kd.R_drew)); exact HO_13.out) hb)
                                  have n2_ := Aside0.mk (Kd.R_below (by (with_reducible repeat (first | apply Kd.R_alloc | apply Kd.R_drewN | apply Kd.R_drew)); exact HO_15.out) hb)
                                  (first | have n3_ := flyballlaw01_WideThrees.kb0 BK7301 hb | have n3_ := flyballlaw01_WideThrees.kb1 BK7301 hb | have n3_ := flyballlaw01_WideThrees.kb2 BK7301 hb | have n3_ := kb BK7301 hb)
                                  (first | have n4_ := flyballlaw01_WideThrees.kb0 BK7302 hb | have n4_ := flyballlaw01_WideThrees.kb1 BK7302 hb | have n4_ := flyballlaw01_WideThrees.kb2 BK7302 hb | have n4_ := kb BK7302 hb)
                                  (first | have n5_ := flyballlaw01_WideThrees.kb0 BK7308 hb | have n5_ := flyballlaw01_WideThrees.kb1 BK7308 hb | have n5_ := flyballlaw01_WideThrees.kb2 BK7308 hb | have n5_ := kb BK7308 hb)
                                  (first | have n6_ := flyballlaw01_WideThrees.kb0 BK7313 hb | have n6_ := flyballlaw01_WideThrees.kb1 BK7313 hb | have n6_ := flyballlaw01_WideThrees.kb2 BK7313 hb | have n6_ := kb BK7313 hb)
                                  (first | (with_reducible have n7_ := Aside0.mk (Kd.C_below HR7343.out hb)) | (with_reducible have n7_ := Aside0.mk (Kd.C_below (Kd.C_drewN HR7343.out _) hb)) | (with_reducible have n7_ := Aside0.mk (Kd.C_below (Kd.C_drewN (Kd.C_drewN HR7343.out _) _) hb)))
                                  (first | (with_reducible have n8_ := Aside0.mk (Kd.C_below HR7352.out hb)) | (with_reducible have n8_ := Aside0.mk (Kd.C_below (Kd.C_drewN HR7352.out _) hb)) | (with_reducible have n8_ := Aside0.mk (Kd.C_below (Kd.C_drewN (Kd.C_drewN HR7352.out _) _) hb)))
                                  have n9_ := kh HB hb
                                  clear HO_12
                                  clear HO_13
                                  clear HO_15
                                  clear BK7301
                                  clear BK7302
                                  clear BK7308
                                  clear BK7313
                                  clear HR7343
                                  clear HR7352
                                  clear HB
                                  have HO_12 := n0_
                                  have HO_13 := n1_
                                  have HO_15 := n2_
                                  have BK7301 := n3_
                                  have BK7302 := n4_
                                  have BK7308 := n5_
                                  have BK7313 := n6_
                                  have HR7343 := n7_
                                  have HR7352 := n8_
                                  have HB := n9_
                                  clear n0_ n1_ n2_ n3_ n4_ n5_ n6_ n7_ n8_ n9_
                                  (try clear hb)
                                  (try clear hb2)
                                  (try clear hk)
                                  (try clear hi)
                                  refine hK.out _ _ trivial (fun hHeld => ?_)
                                  clear hK K
                                  refine nrm (some 73) ?_
                                  refine one_ (i := 7) (N := some 79) #[true, true, true, true, true, true, true, true, false] rfl rfl (one_of HT_.out (by kernel_rfl)) (by decide) (fun K hK => ?_)
                                  refine goes_ Try.func20 (by kernel_rfl) rfl #[.agg #[.int .u64 t7346, .int .u64 t7347, .int .u64 t7348], .slice Ao132 y7349.length co132] (by rfl) rfl rfl pa ?_
                                  with_reducible refine (flyballlaw01_is3.calls k1 t7346 t7347 t7348 _ _ y7349 true _ ?side1 ?side2 A65.out).mono ?_
                                  (case side1 => repeat (first | exact (by repeat (first | (with_reducible exact HR7352.out) | (with_reducible refine Kd.C_alloc ?_ _) | (with_reducible refine Kd.C_drewN ?_ _) | (with_reducible refine Kd.C_drew ?_) | exact HR7352.out)) | (with_reducible refine Kd.C_alloc ?_ _) | (with_reducible refine Kd.C_drewN ?_ _) | (with_reducible refine Kd.C_drew ?_)))
                                  (case side2 => exact HC7352.out)
                                  rintro e w135 ⟨rfl, hb⟩
                                  refine ⟨_, rfl, ?_⟩
                                  have n0_ := Aside0.mk (Kd.R_below (by (with_reducible repeat (first | apply Kd.R_alloc | apply Kd.R_drewN | apply Kd.R_drew)); exact HO_12.out) hb)
                                  have n1_ := Aside0.mk (Kd.R_below (by (with_reducible repeat (first | apply Kd.R_alloc | apply Kd.R_drewN | apply Kd.R_drew)); exact HO_13.out) hb)
                                  have n2_ := Aside0.mk (Kd.R_below (by (with_reducible repeat (first | apply Kd.R_alloc | apply Kd.R_drewN | apply Kd.R_drew)); exact HO_15.out) hb)
                                  (first | have n3_ := flyballlaw01_WideThrees.kb0 BK7301 hb | have n3_ := flyballlaw01_WideThrees.kb1 BK7301 hb | have n3_ := flyballlaw01_WideThrees.kb2 BK7301 hb | have n3_ := kb BK7301 hb)
                                  (first | have n4_ := flyballlaw01_WideThrees.kb0 BK7302 hb | have n4_ := flyballlaw01_WideThrees.kb1 BK7302 hb | have n4_ := flyballlaw01_WideThrees.kb2 BK7302 hb | have n4_ := kb BK7302 hb)
                                  (first | have n5_ := flyballlaw01_WideThrees.kb0 BK7308 hb | have n5_ := flyballlaw01_WideThrees.kb1 BK7308 hb | have n5_ := flyballlaw01_WideThrees.kb2 BK7308 hb | have n5_ := kb BK7308 hb)
                                  (first | have n6_ := flyballlaw01_WideThrees.kb0 BK7313 hb | have n6_ := flyballlaw01_WideThrees.kb1 BK7313 hb | have n6_ := flyballlaw01_WideThrees.kb2 BK7313 hb | have n6_ := kb BK7313 hb)
                                  (first | (with_reducible have n7_ := Aside0.mk (Kd.C_below HR7343.out hb)) | (with_reducible have n7_ := Aside0.mk (Kd.C_below (Kd.C_drewN HR7343.out _) hb)) | (with_reducible have n7_ := Aside0.mk (Kd.C_below (Kd.C_drewN (Kd.C_drewN HR7343.out _) _) hb)))
                                  (first | (with_reducible have n8_ := Aside0.mk (Kd.C_below HR7352.out hb)) | (with_reducible have n8_ := Aside0.mk (Kd.C_below (Kd.C_drewN HR7352.out _) hb)) | (with_reducible have n8_ := Aside0.mk (Kd.C_below (Kd.C_drewN (Kd.C_drewN HR7352.out _) _) hb)))
                                  have n9_ := kh HB hb
                                  clear HO_12
                                  clear HO_13
                                  clear HO_15
                                  clear BK7301
                                  clear BK7302
                                  clear BK7308
                                  clear BK7313
                                  clear HR7343
                                  clear HR7352
                                  clear HB
                                  have HO_12 := n0_
                                  have HO_13 := n1_
                                  have HO_15 := n2_
                                  have BK7301 := n3_
                                  have BK7302 := n4_
                                  have BK7308 := n5_
                                  have BK7313 := n6_
                                  have HR7343 := n7_
                                  have HR7352 := n8_
                                  have HB := n9_
                                  clear n0_ n1_ n2_ n3_ n4_ n5_ n6_ n7_ n8_ n9_
                                  (try clear hb)
                                  (try clear hb2)
                                  (try clear hk)
                                  (try clear hi)
                                  refine hK.out _ _ trivial (fun hHeld => ?_)
                                  clear hK K
                                  refine nrm (some 79) ?_
                                  refine pur 8 (some 19) #[true, true, true, true, true, true, true, true, true] (any_of HT_.out (by kernel_rfl)) ?_
                                  refine done_ (done_of HT_.out (by kernel_rfl)) ?_
                                  try go_wp2
                                  replace HO_12 := Aside0.mk (Kd.R_drew HO_12.out)
                                  replace HO_13 := Aside0.mk (Kd.R_drew HO_13.out)
                                  replace HO_15 := Aside0.mk (Kd.R_drew HO_15.out)
                                  replace BK7301 := Aside0.mk (blk_drew BK7301.out)
                                  replace BK7302 := Aside0.mk (blk_drew BK7302.out)
                                  replace BK7308 := Aside0.mk (blk_drew BK7308.out)
                                  replace BK7313 := Aside0.mk (blk_drew BK7313.out)
                                  replace HR7343 := Aside0.mk (Kd.C_drew HR7343.out)
                                  replace HR7352 := Aside0.mk (Kd.C_drew HR7352.out)
                                  replace HB := Aside0.mk (below_drew1 HB.out)
                                  refine start_ (n := 49) (S := fun w' => w'.cell? ⟨gb7301, 0, none⟩ = some (.int .u64 a0_0) ∧ w'.cell? ⟨gb7301, 1, none⟩ = some (.int .u64 a0_1) ∧ w'.cell? ⟨gb7301, 2, none⟩ = some (.int .u64 a0_2) ∧ w'.cell? ⟨gb7302, 0, none⟩ = some (.int .u64 a1_0) ∧ w'.cell? ⟨gb7302, 1, none⟩ = some (.int .u64 a1_1) ∧ w'.cell? ⟨gb7302, 2, none⟩ = some (.int .u64 a1_2)) (ds := []) #[false, false, false, false, false, false, false, false, false, false, false, false, false, false, false, false, false, false, false, false, false, false, false, false, false, false, false, false, false, false, false, false, false, false, false, false, false, false, false, false, false, false, false, false, false, false, false, false, false] (by kernel_rfl) rfl rfl ⟨bc BK7301 0, bc BK7301 1, bc BK7301 2, bc BK7302 0, bc BK7302 1, bc BK7302 2⟩ (fun hHeld => ?_); refine with_tabW flyballlaw01_WideThrees.tab18 flyballlaw01_WideThrees.bits18 (fun HT_ HW_ => ?_)
                                  generalize w135.drew = w136 at HO_12 HO_13 HO_15 BK7301 BK7302 BK7308 BK7313 HR7343 HR7352 HB hHeld ⊢
                                  refine pur 0 (some 80) #[true, false, false, false, false, false, false, false, false, false, false, false, false, false, false, false, false, false, false, false, false, false, false, false, false, false, false, false, false, false, false, false, false, false, false, false, false, false, false, false, false, false, false, false, false, false, false, false, false] (any_of HT_.out (by kernel_rfl)) ?_
                                  refine pur 1 (some 81) #[true, true, false, false, false, false, false, false, false, false, false, false, false, false, false, false, false, false, false, false, false, false, false, false, false, false, false, false, false, false, false, false, false, false, false, false, false, false, false, false, false, false, false, false, false, false, false, false, false] (any_of HT_.out (by kernel_rfl)) ?_
                                  refine pur 2 (some 82) #[true, true, true, false, false, false, false, false, false, false, false, false, false, false, false, false, false, false, false, false, false, false, false, false, false, false, false, false, false, false, false, false, false, false, false, false, false, false, false, false, false, false, false, false, false, false, false, false, false] (any_of HT_.out (by kernel_rfl)) ?_
                                  refine pur 3 (some 83) #[true, true, true, true, false, false, false, false, false, false, false, false, false, false, false, false, false, false, false, false, false, false, false, false, false, false, false, false, false, false, false, false, false, false, false, false, false, false, false, false, false, false, false, false, false, false, false, false, false] (any_of HT_.out (by kernel_rfl)) ?_
                                  refine pur 4 (some 84) #[true, true, true, true, true, false, false, false, false, false, false, false, false, false, false, false, false, false, false, false, false, false, false, false, false, false, false, false, false, false, false, false, false, false, false, false, false, false, false, false, false, false, false, false, false, false, false, false, false] (any_of HT_.out (by kernel_rfl)) ?_
                                  refine pur 5 (some 85) #[true, true, true, true, true, true, false, false, false, false, false, false, false, false, false, false, false, false, false, false, false, false, false, false, false, false, false, false, false, false, false, false, false, false, false, false, false, false, false, false, false, false, false, false, false, false, false, false, false] (any_of HT_.out (by kernel_rfl)) ?_
                                  refine pur 6 (some 86) #[true, true, true, true, true, true, true, false, false, false, false, false, false, false, false, false, false, false, false, false, false, false, false, false, false, false, false, false, false, false, false, false, false, false, false, false, false, false, false, false, false, false, false, false, false, false, false, false, false] (any_of HT_.out (by kernel_rfl)) ?_
                                  refine pur 7 (some 87) #[true, true, true, true, true, true, true, true, false, false, false, false, false, false, false, false, false, false, false, false, false, false, false, false, false, false, false, false, false, false, false, false, false, false, false, false, false, false, false, false, false, false, false, false, false, false, false, false, false] (any_of HT_.out (by kernel_rfl)) ?_
                                  refine pur 8 (some 88) #[true, true, true, true, true, true, true, true, true, false, false, false, false, false, false, false, false, false, false, false, false, false, false, false, false, false, false, false, false, false, false, false, false, false, false, false, false, false, false, false, false, false, false, false, false, false, false, false, false] (any_of HT_.out (by kernel_rfl)) ?_
                                  refine pur 9 (some 89) #[true, true, true, true, true, true, true, true, true, true, false, false, false, false, false, false, false, false, false, false, false, false, false, false, false, false, false, false, false, false, false, false, false, false, false, false, false, false, false, false, false, false, false, false, false, false, false, false, false] (any_of HT_.out (by kernel_rfl)) ?_
                                  refine pur 10 (some 90) #[true, true, true, true, true, true, true, true, true, true, true, false, false, false, false, false, false, false, false, false, false, false, false, false, false, false, false, false, false, false, false, false, false, false, false, false, false, false, false, false, false, false, false, false, false, false, false, false, false] (any_of HT_.out (by kernel_rfl)) ?_
                                  refine pur 11 (some 91) #[true, true, true, true, true, true, true, true, true, true, true, true, false, false, false, false, false, false, false, false, false, false, false, false, false, false, false, false, false, false, false, false, false, false, false, false, false, false, false, false, false, false, false, false, false, false, false, false, false] (any_of HT_.out (by kernel_rfl)) ?_
                                  refine pur 12 (some 92) #[true, true, true, true, true, true, true, true, true, true, true, true, true, false, false, false, false, false, false, false, false, false, false, false, false, false, false, false, false, false, false, false, false, false, false, false, false, false, false, false, false, false, false, false, false, false, false, false, false] (any_of HT_.out (by kernel_rfl)) ?_
                                  refine pur 13 (some 93) #[true, true, true, true, true, true, true, true, true, true, true, true, true, true, false, false, false, false, false, false, false, false, false, false, false, false, false, false, false, false, false, false, false, false, false, false, false, false, false, false, false, false, false, false, false, false, false, false, false] (any_of HT_.out (by kernel_rfl)) ?_
                                  refine pur 14 (some 94) #[true, true, true, true, true, true, true, true, true, true, true, true, true, true, true, false, false, false, false, false, false, false, false, false, false, false, false, false, false, false, false, false, false, false, false, false, false, false, false, false, false, false, false, false, false, false, false, false, false] (any_of HT_.out (by kernel_rfl)) ?_
                                  refine pur 15 (some 95) #[true, true, true, true, true, true, true, true, true, true, true, true, true, true, true, true, false, false, false, false, false, false, false, false, false, false, false, false, false, false, false, false, false, false, false, false, false, false, false, false, false, false, false, false, false, false, false, false, false] (any_of HT_.out (by kernel_rfl)) ?_
                                  refine pure_ (i := 16) (N := some 96) (v := undef) (a' := ?_) #[true, true, true, true, true, true, true, true, true, true, true, true, true, true, true, true, true, false, false, false, false, false, false, false, false, false, false, false, false, false, false, false, false, false, false, false, false, false, false, false, false, false, false, false, false, false, false, false, false] rfl rfl (any_of HT_.out (by kernel_rfl)) (fun _ _ _ h => h) (Or.inr ⟨by rfl, rfl⟩) ?_ ?_
                                  rotate_left
                                  · simp only [Act.put, List.setIfInBounds_toArray, List.set_cons_zero, List.set_cons_succ, i64_w, i32_w]
                                    rfl
                                  refine pure_ (i := 17) (N := some 97) (v := undef) (a' := ?_) #[true, true, true, true, true, true, true, true, true, true, true, true, true, true, true, true, true, true, false, false, false, false, false, false, false, false, false, false, false, false, false, false, false, false, false, false, false, false, false, false, false, false, false, false, false, false, false, false, false] rfl rfl (any_of HT_.out (by kernel_rfl)) (fun _ _ _ h => h) (Or.inr ⟨by rfl, rfl⟩) ?_ ?_
                                  rotate_left
                                  · simp only [Act.put, List.setIfInBounds_toArray, List.set_cons_zero, List.set_cons_succ, i64_w, i32_w]
                                    rfl
                                  refine pure_ (i := 18) (N := some 98) (v := undef) (a' := ?_) #[true, true, true, true, true, true, true, true, true, true, true, true, true, true, true, true, true, true, true, false, false, false, false, false, false, false, false, false, false, false, false, false, false, false, false, false, false, false, false, false, false, false, false, false, false, false, false, false, false] rfl rfl (any_of HT_.out (by kernel_rfl)) (fun _ _ _ h => h) (Or.inr ⟨by rfl, rfl⟩) ?_ ?_
                                  rotate_left
                                  · simp only [Act.put, List.setIfInBounds_toArray, List.set_cons_zero, List.set_cons_succ, i64_w, i32_w]
                                    rfl
                                  refine pur 19 (some 99) #[true, true, true, true, true, true, true, true, true, true, true, true, true, true, true, true, true, true, true, true, false, false, false, false, false, false, false, false, false, false, false, false, false, false, false, false, false, false, false, false, false, false, false, false, false, false, false, false, false] (any_of HT_.out (by kernel_rfl)) ?_
                                  refine one_ (i := 20) (N := some 100) #[true, true, true, true, true, true, true, true, true, true, true, true, true, true, true, true, true, true, true, true, true, false, false, false, false, false, false, false, false, false, false, false, false, false, false, false, false, false, false, false, false, false, false, false, false, false, false, false, false] rfl rfl (one_of HT_.out (by kernel_rfl)) (by decide) (fun K hK => ?_)
                                  refine goes_ Try.func33 (by kernel_rfl) rfl #[.bool false] (by rfl) rfl rfl pa ?_
                                  with_reducible refine (flyballlaw01_one.calls false t7370 _ A109.out).mono ?_
                                  rintro e w' ⟨rfl, ⟨nd, rfl⟩⟩
                                  refine ⟨_, rfl, ?_⟩
                                  refine hK.out _ _ ⟨bc BK7301 0, bc BK7301 1, bc BK7301 2, bc BK7302 0, bc BK7302 1, bc BK7302 2⟩ (fun hHeld => ?_)
                                  clear hK K
                                  refine nrm (some 100) ?_
                                  refine pur 21 (some 101) #[true, true, true, true, true, true, true, true, true, true, true, true, true, true, true, true, true, true, true, true, true, true, false, false, false, false, false, false, false, false, false, false, false, false, false, false, false, false, false, false, false, false, false, false, false, false, false, false, false] (any_of HT_.out (by kernel_rfl)) ?_
                                  refine pur 22 (some 102) #[true, true, true, true, true, true, true, true, true, true, true, true, true, true, true, true, true, true, true, true, true, true, true, false, false, false, false, false, false, false, false, false, false, false, false, false, false, false, false, false, false, false, false, false, false, false, false, false, false] (any_of HT_.out (by kernel_rfl)) ?_
                                  refine pur 23 (some 103) #[true, true, true, true, true, true, true, true, true, true, true, true, true, true, true, true, true, true, true, true, true, true, true, true, false, false, false, false, false, false, false, false, false, false, false, false, false, false, false, false, false, false, false, false, false, false, false, false, false] (any_of HT_.out (by kernel_rfl)) ?_
                                  refine pur 24 (some 104) #[true, true, true, true, true, true, true, true, true, true, true, true, true, true, true, true, true, true, true, true, true, true, true, true, true, false, false, false, false, false, false, false, false, false, false, false, false, false, false, false, false, false, false, false, false, false, false, false, false] (any_of HT_.out (by kernel_rfl)) ?_
                                  refine pur 25 (some 105) #[true, true, true, true, true, true, true, true, true, true, true, true, true, true, true, true, true, true, true, true, true, true, true, true, true, true, false, false, false, false, false, false, false, false, false, false, false, false, false, false, false, false, false, false, false, false, false, false, false] (any_of HT_.out (by kernel_rfl)) ?_
                                  refine one_ (i := 26) (N := some 106) #[true, true, true, true, true, true, true, true, true, true, true, true, true, true, true, true, true, true, true, true, true, true, true, true, true, true, true, false, false, false, false, false, false, false, false, false, false, false, false, false, false, false, false, false, false, false, false, false, false] rfl rfl (one_of HT_.out (by kernel_rfl)) (by decide) (fun K hK => ?_)
                                  refine goes_ Try.func33 (by kernel_rfl) rfl #[.bool t7330] (by rfl) rfl rfl pa ?_
                                  with_reducible refine (flyballlaw01_one.calls t7330 t7371 _ A111.out).mono ?_
                                  rintro e w' ⟨rfl, ⟨nd, rfl⟩⟩
                                  refine ⟨_, rfl, ?_⟩
                                  refine hK.out _ _ ⟨bc BK7301 0, bc BK7301 1, bc BK7301 2, bc BK7302 0, bc BK7302 1, bc BK7302 2⟩ (fun hHeld => ?_)
                                  clear hK K
                                  refine nrm (some 106) ?_
                                  refine pur 27 (some 107) #[true, true, true, true, true, true, true, true, true, true, true, true, true, true, true, true, true, true, true, true, true, true, true, true, true, true, true, true, false, false, false, false, false, false, false, false, false, false, false, false, false, false, false, false, false, false, false, false, false] (any_of HT_.out (by kernel_rfl)) ?_
                                  refine pur 28 (some 108) #[true, true, true, true, true, true, true, true, true, true, true, true, true, true, true, true, true, true, true, true, true, true, true, true, true, true, true, true, true, false, false, false, false, false, false, false, false, false, false, false, false, false, false, false, false, false, false, false, false] (any_of HT_.out (by kernel_rfl)) ?_
                                  refine pur 29 (some 109) #[true, true, true, true, true, true, true, true, true, true, true, true, true, true, true, true, true, true, true, true, true, true, true, true, true, true, true, true, true, true, false, false, false, false, false, false, false, false, false, false, false, false, false, false, false, false, false, false, false] (any_of HT_.out (by kernel_rfl)) ?_
                                  refine tak 30 (some 110) #[true, true, true, true, true, true, true, true, true, true, true, true, true, true, true, true, true, true, true, true, true, true, true, true, true, true, true, true, true, true, true, false, false, false, false, false, false, false, false, false, false, false, false, false, false, false, false, false, false] (take_ofW HT_.out HW_.out (by kernel_rfl)) hHeld ?_
                                  refine tak 31 (some 111) #[true, true, true, true, true, true, true, true, true, true, true, true, true, true, true, true, true, true, true, true, true, true, true, true, true, true, true, true, true, true, true, true, false, false, false, false, false, false, false, false, false, false, false, false, false, false, false, false, false] (take_ofW HT_.out HW_.out (by kernel_rfl)) hHeld ?_
                                  refine tak 33 (some 113) #[true, true, true, true, true, true, true, true, true, true, true, true, true, true, true, true, true, true, true, true, true, true, true, true, true, true, true, true, true, true, true, true, false, true, false, false, false, false, false, false, false, false, false, false, false, false, false, false, false] (take_ofW HT_.out HW_.out (by kernel_rfl)) hHeld ?_
                                  refine tak 35 (some 115) #[true, true, true, true, true, true, true, true, true, true, true, true, true, true, true, true, true, true, true, true, true, true, true, true, true, true, true, true, true, true, true, true, false, true, false, true, false, false, false, false, false, false, false, false, false, false, false, false, false] (take_ofW HT_.out HW_.out (by kernel_rfl)) hHeld ?_
                                  refine one_ (i := 32) (N := some 112) #[true, true, true, true, true, true, true, true, true, true, true, true, true, true, true, true, true, true, true, true, true, true, true, true, true, true, true, true, true, true, true, true, true, true, false, true, false, false, false, false, false, false, false, false, false, false, false, false, false] rfl rfl (one_of HT_.out (by kernel_rfl)) (by decide) (fun K hK => ?_)
                                  refine gc Try.func39 #[.agg #[.int .u64 a0_0, .int .u64 a0_1, .int .u64 a0_2], .agg #[.int .u64 a1_0, .int .u64 a1_1, .int .u64 a1_2]] (wide_U192_Cmp.calls k1 a0_0 a0_1 a0_2 a1_0 a1_1 a1_2 t7372 _ A113.out) ?_
                                  intro w137 hb
                                  have n0_ := Aside0.mk (Kd.R_below (by (with_reducible repeat (first | apply Kd.R_alloc | apply Kd.R_drewN | apply Kd.R_drew)); exact HO_12.out) hb)
                                  have n1_ := Aside0.mk (Kd.R_below (by (with_reducible repeat (first | apply Kd.R_alloc | apply Kd.R_drewN | apply Kd.R_drew)); exact HO_13.out) hb)
                                  have n2_ := Aside0.mk (Kd.R_below (by (with_reducible repeat (first | apply Kd.R_alloc | apply Kd.R_drewN | apply Kd.R_drew)); exact HO_15.out) hb)
                                  (first | have n3_ := flyballlaw01_WideThrees.kb0 BK7301 hb | have n3_ := flyballlaw01_WideThrees.kb1 BK7301 hb | have n3_ := flyballlaw01_WideThrees.kb2 BK7301 hb | have n3_ := kb BK7301 hb)
                                  (first | have n4_ := flyballlaw01_WideThrees.kb0 BK7302 hb | have n4_ := flyballlaw01_WideThrees.kb1 BK7302 hb | have n4_ := flyballlaw01_WideThrees.kb2 BK7302 hb | have n4_ := kb BK7302 hb)
                                  (first | have n5_ := flyballlaw01_WideThrees.kb0 BK7308 hb | have n5_ := flyballlaw01_WideThrees.kb1 BK7308 hb | have n5_ := flyballlaw01_WideThrees.kb2 BK7308 hb | have n5_ := kb BK7308 hb)
                                  (first | have n6_ := flyballlaw01_WideThrees.kb0 BK7313 hb | have n6_ := flyballlaw01_WideThrees.kb1 BK7313 hb | have n6_ := flyballlaw01_WideThrees.kb2 BK7313 hb | have n6_ := kb BK7313 hb)
                                  (first | (with_reducible have n7_ := Aside0.mk (Kd.C_below HR7343.out hb)) | (with_reducible have n7_ := Aside0.mk (Kd.C_below (Kd.C_drewN HR7343.out _) hb)) | (with_reducible have n7_ := Aside0.mk (Kd.C_below (Kd.C_drewN (Kd.C_drewN HR7343.out _) _) hb)))
                                  (first | (with_reducible have n8_ := Aside0.mk (Kd.C_below HR7352.out hb)) | (with_reducible have n8_ := Aside0.mk (Kd.C_below (Kd.C_drewN HR7352.out _) hb)) | (with_reducible have n8_ := Aside0.mk (Kd.C_below (Kd.C_drewN (Kd.C_drewN HR7352.out _) _) hb)))
                                  have n9_ := kh HB hb
                                  clear HO_12
                                  clear HO_13
                                  clear HO_15
                                  clear BK7301
                                  clear BK7302
                                  clear BK7308
                                  clear BK7313
                                  clear HR7343
                                  clear HR7352
                                  clear HB
                                  have HO_12 := n0_
                                  have HO_13 := n1_
                                  have HO_15 := n2_
                                  have BK7301 := n3_
                                  have BK7302 := n4_
                                  have BK7308 := n5_
                                  have BK7313 := n6_
                                  have HR7343 := n7_
                                  have HR7352 := n8_
                                  have HB := n9_
                                  clear n0_ n1_ n2_ n3_ n4_ n5_ n6_ n7_ n8_ n9_
                                  (try clear hb)
                                  (try clear hb2)
                                  (try clear hk)
                                  (try clear hi)
                                  refine hK.out _ _ ⟨bc BK7301 0, bc BK7301 1, bc BK7301 2, bc BK7302 0, bc BK7302 1, bc BK7302 2⟩ (fun hHeld => ?_)
                                  clear hK K
                                  refine nrm (some 112) ?_
                                  refine one_ (i := 34) (N := some 114) #[true, true, true, true, true, true, true, true, true, true, true, true, true, true, true, true, true, true, true, true, true, true, true, true, true, true, true, true, true, true, true, true, true, true, true, true, false, false, false, false, false, false, false, false, false, false, false, false, false] rfl rfl (one_of HT_.out (by kernel_rfl)) (by decide) (fun K hK => ?_)
                                  refine goes_ Try.func19 (by kernel_rfl) rfl #[.agg #[.int .u64 a0_0, .int .u64 a0_1, .int .u64 a0_2]] (by rfl) rfl rfl pa ?_
                                  with_reducible refine (flyballlaw01_of3.calls k1 a0_0 a0_1 a0_2 t7373 _ A114.out).mono ?_
                                  rintro e w138 ⟨v7374, rfl, ho0, hb⟩
                                  refine ⟨_, rfl, ?_⟩
                                  have n0_ := Aside0.mk (Kd.R_elder' (by (with_reducible repeat (first | apply Kd.R_alloc | apply Kd.R_drewN | apply Kd.R_drew)); exact HO_12.out) (Kd.R_base ho0) hb)
                                  have n1_ := Aside0.mk (Kd.R_elder' (by (with_reducible repeat (first | apply Kd.R_alloc | apply Kd.R_drewN | apply Kd.R_drew)); exact HO_13.out) (Kd.R_base ho0) hb)
                                  have n2_ := Aside0.mk (Kd.R_elder' (by (with_reducible repeat (first | apply Kd.R_alloc | apply Kd.R_drewN | apply Kd.R_drew)); exact HO_15.out) (Kd.R_base ho0) hb)
                                  have n3_ := Aside0.mk (Kd.R_lower (Kd.R_new' (Kd.R_new' (Kd.R_new' ho0 (Kd.R_lt (by (with_reducible repeat (first | apply Kd.R_alloc | apply Kd.R_drewN | apply Kd.R_drew)); exact HO_12.out))) (Kd.R_lt (by (with_reducible repeat (first | apply Kd.R_alloc | apply Kd.R_drewN | apply Kd.R_drew)); exact HO_13.out))) (Kd.R_lt (by (with_reducible repeat (first | apply Kd.R_alloc | apply Kd.R_drewN | apply Kd.R_drew)); exact HO_15.out))) (below_size (pl HB)))
                                  (first | have n4_ := flyballlaw01_WideThrees.kb0 BK7301 hb | have n4_ := flyballlaw01_WideThrees.kb1 BK7301 hb | have n4_ := flyballlaw01_WideThrees.kb2 BK7301 hb | have n4_ := kb BK7301 hb)
                                  (first | have n5_ := flyballlaw01_WideThrees.kb0 BK7302 hb | have n5_ := flyballlaw01_WideThrees.kb1 BK7302 hb | have n5_ := flyballlaw01_WideThrees.kb2 BK7302 hb | have n5_ := kb BK7302 hb)
                                  (first | have n6_ := flyballlaw01_WideThrees.kb0 BK7308 hb | have n6_ := flyballlaw01_WideThrees.kb1 BK7308 hb | have n6_ := flyballlaw01_WideThrees.kb2 BK7308 hb | have n6_ := kb BK7308 hb)
                                  (first | have n7_ := flyballlaw01_WideThrees.kb0 BK7313 hb | have n7_ := flyballlaw01_WideThrees.kb1 BK7313 hb | have n7_ := flyballlaw01_WideThrees.kb2 BK7313 hb | have n7_ := kb BK7313 hb)
                                  (first | (with_reducible have n8_ := Aside0.mk (Kd.C_below HR7343.out hb)) | (with_reducible have n8_ := Aside0.mk (Kd.C_below (Kd.C_drewN HR7343.out _) hb)) | (with_reducible have n8_ := Aside0.mk (Kd.C_below (Kd.C_drewN (Kd.C_drewN HR7343.out _) _) hb)))
                                  (first | (with_reducible have n9_ := Aside0.mk (Kd.C_below HR7352.out hb)) | (with_reducible have n9_ := Aside0.mk (Kd.C_below (Kd.C_drewN HR7352.out _) hb)) | (with_reducible have n9_ := Aside0.mk (Kd.C_below (Kd.C_drewN (Kd.C_drewN HR7352.out _) _) hb)))
                                  have n10_ := kh HB hb
                                  clear HO_12
                                  clear HO_13
                                  clear HO_15
                                  clear BK7301
                                  clear BK7302
                                  clear BK7308
                                  clear BK7313
                                  clear HR7343
                                  clear HR7352
                                  clear HB
                                  have HO_12 := n0_
                                  have HO_13 := n1_
                                  have HO_15 := n2_
                                  have HO7375 := n3_
                                  have BK7301 := n4_
                                  have BK7302 := n5_
                                  have BK7308 := n6_
                                  have BK7313 := n7_
                                  have HR7343 := n8_
                                  have HR7352 := n9_
                                  have HB := n10_
                                  clear n0_ n1_ n2_ n3_ n4_ n5_ n6_ n7_ n8_ n9_ n10_
                                  (try clear hb)
                                  (try clear hb2)
                                  (try clear hk)
                                  (try clear hi)
                                  (try clear ho0)
                                  refine hK.out _ _ ⟨bc BK7301 0, bc BK7301 1, bc BK7301 2, bc BK7302 0, bc BK7302 1, bc BK7302 2⟩ (fun hHeld => ?_)
                                  clear hK K
                                  refine nrm (some 114) ?_
                                  refine one_ (i := 36) (N := some 116) #[true, true, true, true, true, true, true, true, true, true, true, true, true, true, true, true, true, true, true, true, true, true, true, true, true, true, true, true, true, true, true, true, true, true, true, true, true, false, false, false, false, false, false, false, false, false, false, false, false] rfl rfl (one_of HT_.out (by kernel_rfl)) (by decide) (fun K hK => ?_)
                                  refine goes_ Try.func19 (by kernel_rfl) rfl #[.agg #[.int .u64 a1_0, .int .u64 a1_1, .int .u64 a1_2]] (by rfl) rfl rfl pa ?_
                                  with_reducible refine (flyballlaw01_of3.calls k1 a1_0 a1_1 a1_2 t7376 _ A115.out).mono ?_
                                  rintro e w139 ⟨v7377, rfl, ho0, hb⟩
                                  refine ⟨_, rfl, ?_⟩
                                  have n0_ := Aside0.mk (Kd.R_elder' (by (with_reducible repeat (first | apply Kd.R_alloc | apply Kd.R_drewN | apply Kd.R_drew)); exact HO_12.out) (Kd.R_base ho0) hb)
                                  have n1_ := Aside0.mk (Kd.R_elder' (by (with_reducible repeat (first | apply Kd.R_alloc | apply Kd.R_drewN | apply Kd.R_drew)); exact HO_13.out) (Kd.R_base ho0) hb)
                                  have n2_ := Aside0.mk (Kd.R_elder' (by (with_reducible repeat (first | apply Kd.R_alloc | apply Kd.R_drewN | apply Kd.R_drew)); exact HO_15.out) (Kd.R_base ho0) hb)
                                  have n3_ := Aside0.mk (Kd.R_elder' (by (with_reducible repeat (first | apply Kd.R_alloc | apply Kd.R_drewN | apply Kd.R_drew)); exact HO7375.out) (Kd.R_base ho0) hb)
                                  have n4_ := Aside0.mk (Kd.R_lower (Kd.R_new' (Kd.R_new' (Kd.R_new' (Kd.R_new' ho0 (Kd.R_lt (by (with_reducible repeat (first | apply Kd.R_alloc | apply Kd.R_drewN | apply Kd.R_drew)); exact HO_12.out))) (Kd.R_lt (by (with_reducible repeat (first | apply Kd.R_alloc | apply Kd.R_drewN | apply Kd.R_drew)); exact HO_13.out))) (Kd.R_lt (by (with_reducible repeat (first | apply Kd.R_alloc | apply Kd.R_drewN | apply Kd.R_drew)); exact HO_15.out))) (Kd.R_lt (by (with_reducible repeat (first | apply Kd.R_alloc | apply Kd.R_drewN | apply Kd.R_drew)); exact HO7375.out))) (below_size (pl HB)))
                                  (first | have n5_ := flyballlaw01_WideThrees.kb0 BK7301 hb | have n5_ := flyballlaw01_WideThrees.kb1 BK7301 hb | have n5_ := flyballlaw01_WideThrees.kb2 BK7301 hb | have n5_ := kb BK7301 hb)
                                  (first | have n6_ := flyballlaw01_WideThrees.kb0 BK7302 hb | have n6_ := flyballlaw01_WideThrees.kb1 BK7302 hb | have n6_ := flyballlaw01_WideThrees.kb2 BK7302 hb | have n6_ := kb BK7302 hb)
                                  (first | have n7_ := flyballlaw01_WideThrees.kb0 BK7308 hb | have n7_ := flyballlaw01_WideThrees.kb1 BK7308 hb | have n7_ := flyballlaw01_WideThrees.kb2 BK7308 hb | have n7_ := kb BK7308 hb)
                                  (first | have n8_ := flyballlaw01_WideThrees.kb0 BK7313 hb | have n8_ := flyballlaw01_WideThrees.kb1 BK7313 hb | have n8_ := flyballlaw01_WideThrees.kb2 BK7313 hb | have n8_ := kb BK7313 hb)
                                  (first | (with_reducible have n9_ := Aside0.mk (Kd.C_below HR7343.out hb)) | (with_reducible have n9_ := Aside0.mk (Kd.C_below (Kd.C_drewN HR7343.out _) hb)) | (with_reducible have n9_ := Aside0.mk (Kd.C_below (Kd.C_drewN (Kd.C_drewN HR7343.out _) _) hb)))
                                  (first | (with_reducible have n10_ := Aside0.mk (Kd.C_below HR7352.out hb)) | (with_reducible have n10_ := Aside0.mk (Kd.C_below (Kd.C_drewN HR7352.out _) hb)) | (with_reducible have n10_ := Aside0.mk (Kd.C_below (Kd.C_drewN (Kd.C_drewN HR7352.out _) _) hb)))
                                  have n11_ := kh HB hb
                                  clear HO_12
                                  clear HO_13
                                  clear HO_15
                                  clear HO7375
                                  clear BK7301
                                  clear BK7302
                                  clear BK7308
                                  clear BK7313
                                  clear HR7343
                                  clear HR7352
                                  clear HB
                                  have HO_12 := n0_
                                  have HO_13 := n1_
                                  have HO_15 := n2_
                                  have HO7375 := n3_
                                  have HO7378 := n4_
                                  have BK7301 := n5_
                                  have BK7302 := n6_
                                  have BK7308 := n7_
                                  have BK7313 := n8_
                                  have HR7343 := n9_
                                  have HR7352 := n10_
                                  have HB := n11_
                                  clear n0_ n1_ n2_ n3_ n4_ n5_ n6_ n7_ n8_ n9_ n10_ n11_
                                  (try clear hb)
                                  (try clear hb2)
                                  (try clear hk)
                                  (try clear hi)
                                  (try clear ho0)
                                  obtain ⟨Ao140, co140, eo140⟩ := Kd.R_slice HO7375.out
                                  (first | subst eo140 | (injection eo140 with f1_ f2_ f3_; have f4_ := f1_.symm; have f5_ := f3_.symm; clear f1_ f2_ f3_; subst f4_; subst f5_))
                                  obtain ⟨Ao141, co141, eo141⟩ := Kd.R_slice HO7378.out
                                  (first | subst eo141 | (injection eo141 with f1_ f2_ f3_; have f4_ := f1_.symm; have f5_ := f3_.symm; clear f1_ f2_ f3_; subst f4_; subst f5_))
                                  refine hK.out _ _ ⟨bc BK7301 0, bc BK7301 1, bc BK7301 2, bc BK7302 0, bc BK7302 1, bc BK7302 2⟩ (fun hHeld => ?_)
                                  clear hK K
                                  refine nrm (some 116) ?_
                                  refine one_ (i := 37) (N := some 117) #[true, true, true, true, true, true, true, true, true, true, true, true, true, true, true, true, true, true, true, true, true, true, true, true, true, true, true, true, true, true, true, true, true, true, true, true, true, true, false, false, false, false, false, false, false, false, false, false, false] rfl rfl (one_of HT_.out (by kernel_rfl)) (by decide) (fun K hK => ?_)
                                  refine goes_ Try.func18 (by kernel_rfl) rfl #[.slice Ao140 t7373.length co140, .slice Ao141 t7376.length co141] (by rfl) rfl rfl pa ?_
                                  with_reducible refine (flyballref01_Cmp.calls k1 _ _ t7373 _ _ t7376 t7379 _ ?side1 ?side2 ?side3 ?side4 A116.out).mono ?_
                                  (case side1 => repeat (first | exact (Kd.R_reads' HO7375.out).2.2 | (with_reducible refine Kd.C_alloc ?_ _) | (with_reducible refine Kd.C_drewN ?_ _) | (with_reducible refine Kd.C_drew ?_)))
                                  (case side2 => exact (Kd.R_reads' HO7375.out).2.1)
                                  (case side3 => repeat (first | exact (Kd.R_reads' HO7378.out).2.2 | (with_reducible refine Kd.C_alloc ?_ _) | (with_reducible refine Kd.C_drewN ?_ _) | (with_reducible refine Kd.C_drew ?_)))
                                  (case side4 => exact (Kd.R_reads' HO7378.out).2.1)
                                  rintro e w142 ⟨rfl, hb⟩
                                  refine ⟨_, rfl, ?_⟩
                                  have n0_ := Aside0.mk (Kd.R_below (by (with_reducible repeat (first | apply Kd.R_alloc | apply Kd.R_drewN | apply Kd.R_drew)); exact HO_12.out) hb)
                                  have n1_ := Aside0.mk (Kd.R_below (by (with_reducible repeat (first | apply Kd.R_alloc | apply Kd.R_drewN | apply Kd.R_drew)); exact HO_13.out) hb)
                                  have n2_ := Aside0.mk (Kd.R_below (by (with_reducible repeat (first | apply Kd.R_alloc | apply Kd.R_drewN | apply Kd.R_drew)); exact HO_15.out) hb)
                                  have n3_ := Aside0.mk (Kd.R_below (by (with_reducible repeat (first | apply Kd.R_alloc | apply Kd.R_drewN | apply Kd.R_drew)); exact HO7375.out) hb)
                                  have n4_ := Aside0.mk (Kd.R_below (by (with_reducible repeat (first | apply Kd.R_alloc | apply Kd.R_drewN | apply Kd.R_drew)); exact HO7378.out) hb)
                                  (first | have n5_ := flyballlaw01_WideThrees.kb0 BK7301 hb | have n5_ := flyballlaw01_WideThrees.kb1 BK7301 hb | have n5_ := flyballlaw01_WideThrees.kb2 BK7301 hb | have n5_ := kb BK7301 hb)
                                  (first | have n6_ := flyballlaw01_WideThrees.kb0 BK7302 hb | have n6_ := flyballlaw01_WideThrees.kb1 BK7302 hb | have n6_ := flyballlaw01_WideThrees.kb2 BK7302 hb | have n6_ := kb BK7302 hb)
                                  (first | have n7_ := flyballlaw01_WideThrees.kb0 BK7308 hb | have n7_ := flyballlaw01_WideThrees.kb1 BK7308 hb | have n7_ := flyballlaw01_WideThrees.kb2 BK7308 hb | have n7_ := kb BK7308 hb)
                                  (first | have n8_ := flyballlaw01_WideThrees.kb0 BK7313 hb | have n8_ := flyballlaw01_WideThrees.kb1 BK7313 hb | have n8_ := flyballlaw01_WideThrees.kb2 BK7313 hb | have n8_ := kb BK7313 hb)
                                  (first | (with_reducible have n9_ := Aside0.mk (Kd.C_below HR7343.out hb)) | (with_reducible have n9_ := Aside0.mk (Kd.C_below (Kd.C_drewN HR7343.out _) hb)) | (with_reducible have n9_ := Aside0.mk (Kd.C_below (Kd.C_drewN (Kd.C_drewN HR7343.out _) _) hb)))
                                  (first | (with_reducible have n10_ := Aside0.mk (Kd.C_below HR7352.out hb)) | (with_reducible have n10_ := Aside0.mk (Kd.C_below (Kd.C_drewN HR7352.out _) hb)) | (with_reducible have n10_ := Aside0.mk (Kd.C_below (Kd.C_drewN (Kd.C_drewN HR7352.out _) _) hb)))
                                  have n11_ := kh HB hb
                                  clear HO_12
                                  clear HO_13
                                  clear HO_15
                                  clear HO7375
                                  clear HO7378
                                  clear BK7301
                                  clear BK7302
                                  clear BK7308
                                  clear BK7313
                                  clear HR7343
                                  clear HR7352
                                  clear HB
                                  have HO_12 := n0_
                                  have HO_13 := n1_
                                  have HO_15 := n2_
                                  have HO7375 := n3_
                                  have HO7378 := n4_
                                  have BK7301 := n5_
                                  have BK7302 := n6_
                                  have BK7308 := n7_
                                  have BK7313 := n8_
                                  have HR7343 := n9_
                                  have HR7352 := n10_
                                  have HB := n11_
                                  clear n0_ n1_ n2_ n3_ n4_ n5_ n6_ n7_ n8_ n9_ n10_ n11_
                                  (try clear hb)
                                  (try clear hb2)
                                  (try clear hk)
                                  (try clear hi)
                                  refine hK.out _ _ ⟨bc BK7301 0, bc BK7301 1, bc BK7301 2, bc BK7302 0, bc BK7302 1, bc BK7302 2⟩ (fun hHeld => ?_)
                                  clear hK K
                                  refine nrm (some 117) ?_
                                  refine pur 38 (some 118) #[true, true, true, true, true, true, true, true, true, true, true, true, true, true, true, true, true, true, true, true, true, true, true, true, true, true, true, true, true, true, true, true, true, true, true, true, true, true, true, false, false, false, false, false, false, false, false, false, false] (any_of HT_.out (by kernel_rfl)) ?_
                                  refine pur 39 (some 119) #[true, true, true, true, true, true, true, true, true, true, true, true, true, true, true, true, true, true, true, true, true, true, true, true, true, true, true, true, true, true, true, true, true, true, true, true, true, true, true, true, false, false, false, false, false, false, false, false, false] (any_of HT_.out (by kernel_rfl)) ?_
                                  refine pur 40 (some 120) #[true, true, true, true, true, true, true, true, true, true, true, true, true, true, true, true, true, true, true, true, true, true, true, true, true, true, true, true, true, true, true, true, true, true, true, true, true, true, true, true, true, false, false, false, false, false, false, false, false] (any_of HT_.out (by kernel_rfl)) ?_
                                  refine tak 41 (some 121) #[true, true, true, true, true, true, true, true, true, true, true, true, true, true, true, true, true, true, true, true, true, true, true, true, true, true, true, true, true, true, true, true, true, true, true, true, true, true, true, true, true, true, false, false, false, false, false, false, false] (take_ofW HT_.out HW_.out (by kernel_rfl)) hHeld ?_
                                  refine tak 43 (some 123) #[true, true, true, true, true, true, true, true, true, true, true, true, true, true, true, true, true, true, true, true, true, true, true, true, true, true, true, true, true, true, true, true, true, true, true, true, true, true, true, true, true, true, false, true, false, false, false, false, false] (take_ofW HT_.out HW_.out (by kernel_rfl)) hHeld ?_
                                  refine one_ (i := 42) (N := some 122) #[true, true, true, true, true, true, true, true, true, true, true, true, true, true, true, true, true, true, true, true, true, true, true, true, true, true, true, true, true, true, true, true, true, true, true, true, true, true, true, true, true, true, true, true, false, false, false, false, false] rfl rfl (one_of HT_.out (by kernel_rfl)) (by decide) (fun K hK => ?_)
                                  refine gc Try.func40 #[.agg #[.int .u64 a0_0, .int .u64 a0_1, .int .u64 a0_2]] (wide_U192_Len.calls k1 a0_0 a0_1 a0_2 t7380 _ A118.out) ?_
                                  intro w143 hb
                                  have n0_ := Aside0.mk (Kd.R_below (by (with_reducible repeat (first | apply Kd.R_alloc | apply Kd.R_drewN | apply Kd.R_drew)); exact HO_12.out) hb)
                                  have n1_ := Aside0.mk (Kd.R_below (by (with_reducible repeat (first | apply Kd.R_alloc | apply Kd.R_drewN | apply Kd.R_drew)); exact HO_13.out) hb)
                                  have n2_ := Aside0.mk (Kd.R_below (by (with_reducible repeat (first | apply Kd.R_alloc | apply Kd.R_drewN | apply Kd.R_drew)); exact HO_15.out) hb)
                                  have n3_ := Aside0.mk (Kd.R_below (by (with_reducible repeat (first | apply Kd.R_alloc | apply Kd.R_drewN | apply Kd.R_drew)); exact HO7375.out) hb)
                                  have n4_ := Aside0.mk (Kd.R_below (by (with_reducible repeat (first | apply Kd.R_alloc | apply Kd.R_drewN | apply Kd.R_drew)); exact HO7378.out) hb)
                                  (first | have n5_ := flyballlaw01_WideThrees.kb0 BK7301 hb | have n5_ := flyballlaw01_WideThrees.kb1 BK7301 hb | have n5_ := flyballlaw01_WideThrees.kb2 BK7301 hb | have n5_ := kb BK7301 hb)
                                  (first | have n6_ := flyballlaw01_WideThrees.kb0 BK7302 hb | have n6_ := flyballlaw01_WideThrees.kb1 BK7302 hb | have n6_ := flyballlaw01_WideThrees.kb2 BK7302 hb | have n6_ := kb BK7302 hb)
                                  (first | have n7_ := flyballlaw01_WideThrees.kb0 BK7308 hb | have n7_ := flyballlaw01_WideThrees.kb1 BK7308 hb | have n7_ := flyballlaw01_WideThrees.kb2 BK7308 hb | have n7_ := kb BK7308 hb)
                                  (first | have n8_ := flyballlaw01_WideThrees.kb0 BK7313 hb | have n8_ := flyballlaw01_WideThrees.kb1 BK7313 hb | have n8_ := flyballlaw01_WideThrees.kb2 BK7313 hb | have n8_ := kb BK7313 hb)
                                  (first | (with_reducible have n9_ := Aside0.mk (Kd.C_below HR7343.out hb)) | (with_reducible have n9_ := Aside0.mk (Kd.C_below (Kd.C_drewN HR7343.out _) hb)) | (with_reducible have n9_ := Aside0.mk (Kd.C_below (Kd.C_drewN (Kd.C_drewN HR7343.out _) _) hb)))
                                  (first | (with_reducible have n10_ := Aside0.mk (Kd.C_below HR7352.out hb)) | (with_reducible have n10_ := Aside0.mk (Kd.C_below (Kd.C_drewN HR7352.out _) hb)) | (with_reducible have n10_ := Aside0.mk (Kd.C_below (Kd.C_drewN (Kd.C_drewN HR7352.out _) _) hb)))
                                  have n11_ := kh HB hb
                                  clear HO_12
                                  clear HO_13
                                  clear HO_15
                                  clear HO7375
                                  clear HO7378
                                  clear BK7301
                                  clear BK7302
                                  clear BK7308
                                  clear BK7313
                                  clear HR7343
                                  clear HR7352
                                  clear HB
                                  have HO_12 := n0_
                                  have HO_13 := n1_
                                  have HO_15 := n2_
                                  have HO7375 := n3_
                                  have HO7378 := n4_
                                  have BK7301 := n5_
                                  have BK7302 := n6_
                                  have BK7308 := n7_
                                  have BK7313 := n8_
                                  have HR7343 := n9_
                                  have HR7352 := n10_
                                  have HB := n11_
                                  clear n0_ n1_ n2_ n3_ n4_ n5_ n6_ n7_ n8_ n9_ n10_ n11_
                                  (try clear hb)
                                  (try clear hb2)
                                  (try clear hk)
                                  (try clear hi)
                                  refine hK.out _ _ ⟨bc BK7301 0, bc BK7301 1, bc BK7301 2, bc BK7302 0, bc BK7302 1, bc BK7302 2⟩ (fun hHeld => ?_)
                                  clear hK K
                                  refine nrm (some 122) ?_
                                  refine one_ (i := 44) (N := some 124) #[true, true, true, true, true, true, true, true, true, true, true, true, true, true, true, true, true, true, true, true, true, true, true, true, true, true, true, true, true, true, true, true, true, true, true, true, true, true, true, true, true, true, true, true, true, false, false, false, false] rfl rfl (one_of HT_.out (by kernel_rfl)) (by decide) (fun K hK => ?_)
                                  refine goes_ Try.func19 (by kernel_rfl) rfl #[.agg #[.int .u64 a0_0, .int .u64 a0_1, .int .u64 a0_2]] (by rfl) rfl rfl pa ?_
                                  with_reducible refine (flyballlaw01_of3.calls k1 a0_0 a0_1 a0_2 t7381 _ A119.out).mono ?_
                                  rintro e w144 ⟨v7382, rfl, ho0, hb⟩
                                  refine ⟨_, rfl, ?_⟩
                                  have n0_ := Aside0.mk (Kd.R_elder' (by (with_reducible repeat (first | apply Kd.R_alloc | apply Kd.R_drewN | apply Kd.R_drew)); exact HO_12.out) (Kd.R_base ho0) hb)
                                  have n1_ := Aside0.mk (Kd.R_elder' (by (with_reducible repeat (first | apply Kd.R_alloc | apply Kd.R_drewN | apply Kd.R_drew)); exact HO_13.out) (Kd.R_base ho0) hb)
                                  have n2_ := Aside0.mk (Kd.R_elder' (by (with_reducible repeat (first | apply Kd.R_alloc | apply Kd.R_drewN | apply Kd.R_drew)); exact HO_15.out) (Kd.R_base ho0) hb)
                                  have n3_ := Aside0.mk (Kd.R_elder' (by (with_reducible repeat (first | apply Kd.R_alloc | apply Kd.R_drewN | apply Kd.R_drew)); exact HO7375.out) (Kd.R_base ho0) hb)
                                  have n4_ := Aside0.mk (Kd.R_elder' (by (with_reducible repeat (first | apply Kd.R_alloc | apply Kd.R_drewN | apply Kd.R_drew)); exact HO7378.out) (Kd.R_base ho0) hb)
                                  have n5_ := Aside0.mk (Kd.R_lower (Kd.R_new' (Kd.R_new' (Kd.R_new' (Kd.R_new' (Kd.R_new' ho0 (Kd.R_lt (by (with_reducible repeat (first | apply Kd.R_alloc | apply Kd.R_drewN | apply Kd.R_drew)); exact HO_12.out))) (Kd.R_lt (by (with_reducible repeat (first | apply Kd.R_alloc | apply Kd.R_drewN | apply Kd.R_drew)); exact HO_13.out))) (Kd.R_lt (by (with_reducible repeat (first | apply Kd.R_alloc | apply Kd.R_drewN | apply Kd.R_drew)); exact HO_15.out))) (Kd.R_lt (by (with_reducible repeat (first | apply Kd.R_alloc | apply Kd.R_drewN | apply Kd.R_drew)); exact HO7375.out))) (Kd.R_lt (by (with_reducible repeat (first | apply Kd.R_alloc | apply Kd.R_drewN | apply Kd.R_drew)); exact HO7378.out))) (below_size (pl HB)))
                                  (first | have n6_ := flyballlaw01_WideThrees.kb0 BK7301 hb | have n6_ := flyballlaw01_WideThrees.kb1 BK7301 hb | have n6_ := flyballlaw01_WideThrees.kb2 BK7301 hb | have n6_ := kb BK7301 hb)
                                  (first | have n7_ := flyballlaw01_WideThrees.kb0 BK7302 hb | have n7_ := flyballlaw01_WideThrees.kb1 BK7302 hb | have n7_ := flyballlaw01_WideThrees.kb2 BK7302 hb | have n7_ := kb BK7302 hb)
                                  (first | have n8_ := flyballlaw01_WideThrees.kb0 BK7308 hb | have n8_ := flyballlaw01_WideThrees.kb1 BK7308 hb | have n8_ := flyballlaw01_WideThrees.kb2 BK7308 hb | have n8_ := kb BK7308 hb)
                                  (first | have n9_ := flyballlaw01_WideThrees.kb0 BK7313 hb | have n9_ := flyballlaw01_WideThrees.kb1 BK7313 hb | have n9_ := flyballlaw01_WideThrees.kb2 BK7313 hb | have n9_ := kb BK7313 hb)
                                  (first | (with_reducible have n10_ := Aside0.mk (Kd.C_below HR7343.out hb)) | (with_reducible have n10_ := Aside0.mk (Kd.C_below (Kd.C_drewN HR7343.out _) hb)) | (with_reducible have n10_ := Aside0.mk (Kd.C_below (Kd.C_drewN (Kd.C_drewN HR7343.out _) _) hb)))
                                  (first | (with_reducible have n11_ := Aside0.mk (Kd.C_below HR7352.out hb)) | (with_reducible have n11_ := Aside0.mk (Kd.C_below (Kd.C_drewN HR7352.out _) hb)) | (with_reducible have n11_ := Aside0.mk (Kd.C_below (Kd.C_drewN (Kd.C_drewN HR7352.out _) _) hb)))
                                  have n12_ := kh HB hb
                                  clear HO_12
                                  clear HO_13
                                  clear HO_15
                                  clear HO7375
                                  clear HO7378
                                  clear BK7301
                                  clear BK7302
                                  clear BK7308
                                  clear BK7313
                                  clear HR7343
                                  clear HR7352
                                  clear HB
                                  have HO_12 := n0_
                                  have HO_13 := n1_
                                  have HO_15 := n2_
                                  have HO7375 := n3_
                                  have HO7378 := n4_
                                  have HO7383 := n5_
                                  have BK7301 := n6_
                                  have BK7302 := n7_
                                  have BK7308 := n8_
                                  have BK7313 := n9_
                                  have HR7343 := n10_
                                  have HR7352 := n11_
                                  have HB := n12_
                                  clear n0_ n1_ n2_ n3_ n4_ n5_ n6_ n7_ n8_ n9_ n10_ n11_ n12_
                                  (try clear hb)
                                  (try clear hb2)
                                  (try clear hk)
                                  (try clear hi)
                                  (try clear ho0)
                                  obtain ⟨Ao145, co145, eo145⟩ := Kd.R_slice HO7383.out
                                  (first | subst eo145 | (injection eo145 with f1_ f2_ f3_; have f4_ := f1_.symm; have f5_ := f3_.symm; clear f1_ f2_ f3_; subst f4_; subst f5_))
                                  refine hK.out _ _ ⟨bc BK7301 0, bc BK7301 1, bc BK7301 2, bc BK7302 0, bc BK7302 1, bc BK7302 2⟩ (fun hHeld => ?_)
                                  clear hK K
                                  refine nrm (some 124) ?_
                                  refine one_ (i := 45) (N := some 125) #[true, true, true, true, true, true, true, true, true, true, true, true, true, true, true, true, true, true, true, true, true, true, true, true, true, true, true, true, true, true, true, true, true, true, true, true, true, true, true, true, true, true, true, true, true, true, false, false, false] rfl rfl (one_of HT_.out (by kernel_rfl)) (by decide) (fun K hK => ?_)
                                  refine goes_ Try.func35 (by kernel_rfl) rfl #[.slice Ao145 t7381.length co145] (by rfl) rfl rfl pa ?_
                                  with_reducible refine (flyballref01_Len.calls k1 _ _ t7381 t7384 _ ?side1 ?side2 A120.out).mono ?_
                                  (case side1 => repeat (first | exact (Kd.R_reads' HO7383.out).2.2 | (with_reducible refine Kd.C_alloc ?_ _) | (with_reducible refine Kd.C_drewN ?_ _) | (with_reducible refine Kd.C_drew ?_)))
                                  (case side2 => exact (Kd.R_reads' HO7383.out).2.1)
                                  rintro e w' ⟨rfl, ⟨nd, rfl⟩⟩
                                  refine ⟨_, rfl, ?_⟩
                                  refine hK.out _ _ ⟨bc BK7301 0, bc BK7301 1, bc BK7301 2, bc BK7302 0, bc BK7302 1, bc BK7302 2⟩ (fun hHeld => ?_)
                                  clear hK K
                                  refine nrm (some 125) ?_
                                  refine pur 46 (some 126) #[true, true, true, true, true, true, true, true, true, true, true, true, true, true, true, true, true, true, true, true, true, true, true, true, true, true, true, true, true, true, true, true, true, true, true, true, true, true, true, true, true, true, true, true, true, true, true, false, false] (any_of HT_.out (by kernel_rfl)) ?_
                                  refine pur 47 (some 127) #[true, true, true, true, true, true, true, true, true, true, true, true, true, true, true, true, true, true, true, true, true, true, true, true, true, true, true, true, true, true, true, true, true, true, true, true, true, true, true, true, true, true, true, true, true, true, true, true, false] (any_of HT_.out (by kernel_rfl)) ?_
                                  refine pur 48 (some 6) #[true, true, true, true, true, true, true, true, true, true, true, true, true, true, true, true, true, true, true, true, true, true, true, true, true, true, true, true, true, true, true, true, true, true, true, true, true, true, true, true, true, true, true, true, true, true, true, true, true] (any_of HT_.out (by kernel_rfl)) ?_
                                  refine done_ (done_of HT_.out (by kernel_rfl)) ?_
                                  try go_wp2
                                  go_ret
                                  exact ⟨by first | rfl | (simp [errW_none, errW_some] <;> rfl) | (simp only [← hji62]; first | rfl | (simp [errW_none, errW_some] <;> rfl)) | (simp [*, errW_none, errW_some] <;> rfl), pl HB⟩
                                · rw [if_neg c117] at H
                                  exact absurd H (by simp)
                              · rw [if_neg c112] at H
                                exact absurd H (by simp)
                            · rw [if_neg c110] at H
                              exact absurd H (by simp)
                        · replace c69 := Bool.eq_false_iff.mpr c69
                          subst c69
                          rw [if_neg (show ¬ (false = true) by decide)] at H
                          exact absurd H (by simp)
                      · replace c68 := Bool.eq_false_iff.mpr c68
                        subst c68
                        rw [if_neg (show ¬ (false = true) by decide)] at H
                        exact absurd H (by simp)
                    · replace c67 := Bool.eq_false_iff.mpr c67
                      subst c67
                      rw [if_neg (show ¬ (false = true) by decide)] at H
                      exact absurd H (by simp)
                  · exact absurd rfl c66
                · rw [if_neg c64] at H
                  exact absurd H (by simp)
              · rw [if_neg c63] at H
                exact absurd H (by simp)
            · rw [if_neg c58] at H
              exact absurd H (by simp)
  · replace c5 := Bool.eq_false_iff.mpr c5
    subst c5
    rw [if_neg (show ¬ (false = true) by decide)] at H
    obtain rfl := Option.some.inj H
    go_enter Try.func9, Try.ntmps9
    go_wp2_with (first | ((with_reducible refine gate_dst (N := 3) rfl ?_); (try (refine gate_guard (by rfl) ?_; dsimp only)); refine kx 3 #[.int .u64 a0_0, .int .u64 a0_1, .int .u64 a0_2] 26 ?_; intro gb7301 hg w146 hbox hb; have BK7301 := Aside0.mk (hbox); have GW7301 := kg HB hg; have GE7301 := kg HB hg; replace HB := kh HB hb; clear hb hbox hg) | ((with_reducible refine gate_dst (N := 4) rfl ?_); (try (refine gate_guard (by rfl) ?_; dsimp only)); refine kx 4 #[.int .u64 a1_0, .int .u64 a1_1, .int .u64 a1_2] 26 ?_; intro gb7302 hg w147 hbox hb; have BK7302 := Aside0.mk (hbox); have GW7302 := kg HB hg; have GE7302 := kg HB hg; have NB7301_7302 := kn BK7301 hg; have NB7302_7301 := km BK7301 hg; replace BK7301 := kb BK7301 hb; replace HB := kh HB hb; clear hb hbox hg) | ((with_reducible refine gate_callee (f := 11) rfl ?_); refine kc (some 20) Try.func11 #[] (flyballlaw01_works.calls k  false _ A4.out) ?_; intro w148 hb; replace BK7301 := kb BK7301 hb; replace BK7302 := kb BK7302 hb; replace HB := kh HB hb; (try clear hb); (try clear hb2); (try clear hk); (try clear hi)))
    go_ret
    exact ⟨pe, pl HB⟩
end Go.Proofs.Ytdchdapllehppaa.PAll
end
