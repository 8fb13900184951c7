/- Functions of the print, turned to this claim. -/
import Derived.Test.YtdchdapllehppaaZSW
import Derived.Test.YtdchdapllehppaaZSx0
import Derived.Test.YtdchdapllehppaaZSx5
import Derived.Test.YtdchdapllehppaaZSx7
section
namespace Go.Proofs.Ytdchdapllehppaa.PAll
open Go.RowKit Go.Proofs.YtdchdapllehppaaW.PrintWords Go.Proofs.YtdchdapllehppaaW.PrintLast Go.Proofs.YtdchdapllehppaaW.PrintMore
attribute [local go_sem] max2_int min2_int max_two min_two max_three min_three max_four min_four   -- for this text's walks alone
set_option linter.unusedVariables false
set_option linter.unusedSimpArgs false
/-! ### wide_U128_Cmp: function 34 -/
def wide_U128_Cmp.f (k : Nat) (a0_0 : Int) (a0_1 : Int) (a1_0 : Int) (a1_1 : Int) : Option (Int) := (wide_order.f k (([(⟨a0_0, a1_0⟩ : S82), (⟨a0_1, a1_1⟩ : S82)] : List (S82)))).bind fun t1906 => (some t1906)
theorem wide_U128_Cmp.mono : ∀ a0 a1 a2 a3 k, LeO (wide_U128_Cmp.f k a0 a1 a2 a3) (wide_U128_Cmp.f (k + 1) a0 a1 a2 a3) := by
  intro a0 a1 a2 a3 k
  unfold wide_U128_Cmp.f
  repeat' first
      | (with_reducible exact wide_order.mono _ _)
      | (with_reducible exact LeO.refl _)
      | (with_reducible exact LeO.none _)
      | (with_reducible refine LeO.ite ?_ ?_)
      | (with_reducible refine LeO.bind ?_ (fun _ => ?_))
      | exact wide_order.mono _ _
      | exact LeO.none _
      | refine LeO.ite ?_ ?_
      | refine LeO.bind ?_ (fun _ => ?_)
set_option maxHeartbeats 8000000 in
set_option maxRecDepth 100000 in
theorem wide_U128_Cmp.calls (k : Nat) (a0_0 : Int) (a0_1 : Int) (a1_0 : Int) (a1_1 : Int) (r : Int) (w : World) (h : wide_U128_Cmp.f k a0_0 a0_1 a1_0 a1_1 = some r) :
    Calls Try.prog 34 #[.agg #[.int .u64 a0_0, .int .u64 a0_1], .agg #[.int .u64 a1_0, .int .u64 a1_1]] w fun e w' => e = .returned (.int .i64 r) ∧ Below w.heap.size w w' := by
  have hu24 := Try.underlying24
  have hu82 := Try.underlying82
  have HB := Aside0.mk (Below.refl w.heap.size w)
  have H := h
  clear h
  unfold wide_U128_Cmp.f at H
  obtain ⟨y1903, hy1903⟩ : ∃ y_ : List (S82), y_ = (([(⟨a0_0, a1_0⟩ : S82), (⟨a0_1, a1_1⟩ : S82)] : List (S82))) := ⟨_, rfl⟩
  replace H : ((wide_order.f k y1903).bind fun t1906 => (some t1906)) = some r := by first | (rw [hy1903]; with_reducible exact H) | (have H2_ := (Option.bind_some _ _).symm.trans H; rw [hy1903]; with_reducible exact H2_) | (have H2_ := (Option.bind_some _ _).symm.trans H; with_reducible exact H2_) | with_reducible exact H | (rw [hy1903]; exact H) | exact H
  have Ny1903 := Aside0.mk hy1903
  clear hy1903
  obtain ⟨t1906, A30, H⟩ := Option.bind_eq_some_iff.mp H
  have A3 := Aside0.mk A30
  clear A30
  (try dsimp only at H)
  obtain rfl := Option.some.inj H
  go_enter Try.func34, Try.ntmps34
  go_wp2_with (first | ((with_reducible refine gate_dst (N := 2) rfl ?_); refine kx 2 #[.int .u64 a0_0, .int .u64 a0_1] 24 ?_; intro gb1901 hg w4 hbox hb; have BK1901 := Aside0.mk (hbox); have GW1901 := kg HB hg; have GE1901 := kg HB hg; replace HB := kh HB hb; clear hb hbox hg) | ((with_reducible refine gate_dst (N := 3) rfl ?_); refine kx 3 #[.int .u64 a1_0, .int .u64 a1_1] 24 ?_; intro gb1902 hg w5 hbox hb; have BK1902 := Aside0.mk (hbox); have GW1902 := kg HB hg; have GE1902 := kg HB hg; have NB1901_1902 := kn BK1901 hg; have NB1902_1901 := km BK1901 hg; replace BK1901 := kb BK1901 hb; replace HB := kh HB hb; clear hb hbox hg; have hnb6 := NB1901_1902.out; have hnc6 := NB1902_1901.out; have hcz7_0 : w5.cell? ⟨gb1901, 0, none⟩ = some (.int .u64 a0_0) := bc BK1901 0; have hcz7_1 : w5.cell? ⟨gb1901, 1, none⟩ = some (.int .u64 a0_1) := bc BK1901 1; have hfz7_0 := blk_frozen BK1901.out 0; have hfz7_1 := blk_frozen BK1901.out 1; have hcz8_0 : w5.cell? ⟨gb1902, 0, none⟩ = some (.int .u64 a1_0) := bc BK1902 0; have hcz8_1 : w5.cell? ⟨gb1902, 1, none⟩ = some (.int .u64 a1_1) := bc BK1902 1; have hfz8_0 := blk_frozen BK1902.out 0; have hfz8_1 := blk_frozen BK1902.out 1) | ((with_reducible refine gate_dst (N := 15) rfl ?_); refine Kd.R_lit k82 _ 82 ?hg (N := 15) ?hd (xs := ([(⟨a0_0, a1_0⟩ : S82), (⟨a0_1, a1_1⟩ : S82)] : List (S82))) (inner := [.int .u64 a0_0, .int .u64 a1_0, .int .u64 a0_1, .int .u64 a1_1]) (ok := fun _ => True) (okp := fun _ => True) ?hr ?hp (fun _ hk => hk) trivial (Below.refl _ _) (Nat.le_refl _) (by simp) ?_; (case hd => rfl); (case hg => rfl); (case hr => first | (go_simp; done) | (go_simp; rfl)); (case hp => exact (Reps.c2 (show Kd.M k82 _ _ _ (⟨a0_0, a1_0⟩ : S82) [.int .u64 a0_0, .int .u64 a1_0] from (k82_mkM _ _ _ (⟨a0_0, a1_0⟩ : S82) )) (Reps.c2 (show Kd.M k82 _ _ _ (⟨a0_1, a1_1⟩ : S82) [.int .u64 a0_1, .int .u64 a1_1] from (k82_mkM _ _ _ (⟨a0_1, a1_1⟩ : S82) )) (Reps.none _ _)))); intro v1904 w9 ho10 hb hg_ hnew_; clear hg_ hnew_; (first | rw [← Ny1903.out] at ho10 | (simp only [Int.reduceToNat] at ho10; rw [← Ny1903.out] at ho10)); have HO1905 := Aside0.mk (Kd.R_lower ho10 (below_size (pl HB))); replace BK1901 := kb BK1901 hb; replace BK1902 := kb BK1902 hb; replace HB := kh HB hb; clear hb ho10; obtain ⟨Ao11, co11, eo11⟩ := Kd.R_slice HO1905.out; subst eo11) | ((with_reducible refine gate_callee (f := 52) rfl ?_); refine goesL_ (some 16) rfl rfl Try.func52 (by kernel_rfl) rfl #[.slice Ao11 y1903.length co11] rfl pa ?_; (with_reducible refine (wide_order.calls k _ _ y1903 t1906 _ ?side1 ?side2 A3.out).mono ?_); (case side1 => repeat (first | exact (Kd.R_reads' HO1905.out).2.2 | (with_reducible refine Kd.C_alloc ?_ _) | (with_reducible refine Kd.C_drewN ?_ _) | (with_reducible refine Kd.C_drew ?_))); (case side2 => exact (Kd.R_reads' HO1905.out).2.1); rintro e w12 ⟨rfl, hb⟩; refine ⟨_, rfl, ?_⟩; have n0_ := Aside0.mk (Kd.R_below (by (with_reducible repeat (first | apply Kd.R_alloc | apply Kd.R_drewN | apply Kd.R_drew)); exact HO1905.out) hb); have n1_ := kb BK1901 hb; have n2_ := kb BK1902 hb; have n3_ := kh HB hb; clear HO1905; clear BK1901; clear BK1902; clear HB; have HO1905 := n0_; have BK1901 := n1_; have BK1902 := n2_; have HB := n3_; clear n0_ n1_ n2_ n3_; (try clear hb); (try clear hb2); (try clear hk); (try clear hi)))
  go_ret
  exact ⟨pe, pl HB⟩
/-! ### wide_U128_Sqrt: function 29 -/
def wide_U128_Sqrt.l0 : Nat → Int → Int → Int → Int → Option (Int × Int × Int)
  | 0, _, _, _, _ => none
  | k + 1, x4, x5, x2052000, x2052001 => if x5 > 0 then ((wide_Mul.f (Go.bits .or .u64 x4 x5) (Go.bits .or .u64 x4 x5)).bind fun bt2059 => ((wide_U128_Cmp.f k bt2059.1 bt2059.2 x2052000 x2052001).bind fun t2061 => (if t2061 ≤ 0 then (wide_U128_Sqrt.l0 k (Go.bits .or .u64 x4 x5) (x5 / 2) x2052000 x2052001) else (wide_U128_Sqrt.l0 k x4 (x5 / 2) x2052000 x2052001)))) else ((wide_Mul.f x4 x4).bind fun bt2053 => ((wide_U128_Sub.f x2052000 x2052001 bt2053.1 bt2053.2).bind fun bt2055 => (some (x4, bt2055.1, bt2055.2.1))))
def wide_U128_Sqrt.f (k : Nat) (a0_0 : Int) (a0_1 : Int) : Option (Int × Int × Int) := wide_U128_Sqrt.l0 k 0 9223372036854775808 a0_0 a0_1
theorem wide_U128_Sqrt.mono_l : ∀ k, (∀ y0 y1 y2 y3, LeO (wide_U128_Sqrt.l0 k y0 y1 y2 y3) (wide_U128_Sqrt.l0 (k + 1) y0 y1 y2 y3))
  | 0 => fun _ _ _ _ r h => by simp [wide_U128_Sqrt.l0] at h
  | k + 1 => by
    have ih0 := wide_U128_Sqrt.mono_l k
    · intro y0 y1 y2 y3
      unfold wide_U128_Sqrt.l0
      repeat' first
      | (with_reducible exact ih0 _ _ _ _)
      | (with_reducible exact wide_U128_Cmp.mono _ _ _ _ _)
      | (with_reducible exact LeO.refl _)
      | (with_reducible exact LeO.none _)
      | (with_reducible refine LeO.ite ?_ ?_)
      | (with_reducible refine LeO.bind ?_ (fun _ => ?_))
      | exact ih0 _ _ _ _
      | exact wide_U128_Cmp.mono _ _ _ _ _
      | exact LeO.none _
      | refine LeO.ite ?_ ?_
      | refine LeO.bind ?_ (fun _ => ?_)
theorem wide_U128_Sqrt.mono : ∀ a0 a1 k, LeO (wide_U128_Sqrt.f k a0 a1) (wide_U128_Sqrt.f (k + 1) a0 a1) := by
  intro a0 a1 k
  have ih0 := wide_U128_Sqrt.mono_l k
  unfold wide_U128_Sqrt.f
  repeat' first
      | (with_reducible exact ih0 _ _ _ _)
      | (with_reducible exact wide_U128_Cmp.mono _ _ _ _ _)
      | (with_reducible exact LeO.refl _)
      | (with_reducible exact LeO.none _)
      | (with_reducible refine LeO.ite ?_ ?_)
      | (with_reducible refine LeO.bind ?_ (fun _ => ?_))
      | exact ih0 _ _ _ _
      | exact wide_U128_Cmp.mono _ _ _ _ _
      | exact LeO.none _
      | refine LeO.ite ?_ ?_
      | refine LeO.bind ?_ (fun _ => ?_)
def wide_U128_Sqrt.T5 : Bool × List (List Nat × List Nat) := (true, [([], []), ([], []), ([0, 1], [0, 1]), ([], []), ([], []), ([3, 4], [3, 4]), ([2, 5], [2, 5]), ([], []), ([6, 7, 6], [6, 7]), ([8], [8])])
def wide_U128_Sqrt.B5 : List Nat := [0, 0, 3, 0, 0, 24, 63, 0, 255, 511]
theorem wide_U128_Sqrt.tab5 : rtab .any (opsOf Try.f29 5) = wide_U128_Sqrt.T5 := by kernel_rfl
theorem wide_U128_Sqrt.bits5 : waitsOk wide_U128_Sqrt.T5.2 wide_U128_Sqrt.B5 = true := by kernel_rfl
def wide_U128_Sqrt.T7 : Bool × List (List Nat × List Nat) := (true, [([], []), ([], []), ([], []), ([1, 2], [1, 2]), ([0, 3, 3], [0, 3]), ([4], [4]), ([5], [5]), ([5], [5]), ([], []), ([8, 6, 4, 0, 1, 2, 3, 4, 5, 6, 8], [6, 8]), ([7, 9, 0, 1, 2, 3, 4, 5, 6, 7, 8, 9], [7])])
def wide_U128_Sqrt.B7 : List Nat := [0, 0, 0, 6, 15, 31, 63, 63, 0, 383, 1023]
theorem wide_U128_Sqrt.tab7 : rtab .any (opsOf Try.f29 7) = wide_U128_Sqrt.T7 := by kernel_rfl
theorem wide_U128_Sqrt.bits7 : waitsOk wide_U128_Sqrt.T7.2 wide_U128_Sqrt.B7 = true := by kernel_rfl
set_option maxHeartbeats 8000000 in
set_option maxRecDepth 100000 in
theorem wide_U128_Sqrt.calls (k : Nat) (a0_0 : Int) (a0_1 : Int) (r1 : Int) (r2 : Int) (r3 : Int) (w : World) (h : wide_U128_Sqrt.f k a0_0 a0_1 = some (r1, r2, r3)) :
    Calls Try.prog 29 #[.agg #[.int .u64 a0_0, .int .u64 a0_1]] w fun e w' => e = .returned (.tuple #[.int .u64 r1, .agg #[.int .u64 r2, .int .u64 r3]]) ∧ Below w.heap.size w w' := by
  have hu24 := Try.underlying24
  have HB := Aside0.mk (Below.refl w.heap.size w)
  have H := h
  clear h
  unfold wide_U128_Sqrt.f at H
  have H' := Aside0.mk H
  clear H
  go_enter Try.func29, Try.ntmps29
  go_wp2_with (first | ((with_reducible refine gate_dst (N := 1) rfl ?_); refine kx 1 #[.int .u64 a0_0, .int .u64 a0_1] 24 ?_; intro gb2051 hg w2 hbox hb; have BK2051 := Aside0.mk (hbox); have GW2051 := kg HB hg; have GE2051 := kg HB hg; replace HB := kh HB hb; clear hb hbox hg) | ((with_reducible refine gate_dst (N := 3) rfl ?_); refine kx 3 #[.int .u64 0, .int .u64 0] 24 ?_; intro gb2052 hg w3 hbox hb; have BK2052 := Aside0.mk (hbox); have GW2052 := kg HB hg; have GE2052 := kg HB hg; have NB2051_2052 := kn BK2051 hg; have NB2052_2051 := km BK2051 hg; replace BK2051 := kb BK2051 hb; replace HB := kh HB hb; clear hb hbox hg))
  go_loopg [4, 5] k (fun kq v4 v5 w' => ∃ (x4_1 : Int) (x5_1 : Int), v4 = .int .u64 x4_1 ∧ v5 = .int .u64 x5_1 ∧ Aside0 (wide_U128_Sqrt.l0 kq x4_1 x5_1 a0_0 a0_1 = some (r1, r2, r3)) ∧ Aside0 (kq ≤ k) ∧ Aside0 (w'.heap[gb2051]? = some (.cells #[.int .u64 a0_0, .int .u64 a0_1] 24 (0, 0))) ∧ Aside0 (w'.heap[gb2052]? = some (.cells #[.int .u64 0, .int .u64 0] 24 (0, 0))) ∧ Aside0 (Below w.heap.size w w'))
  case atStart => exact ⟨(0), (9223372036854775808), (by first | rfl | (simp; done) | (simp [*]; done)), (by first | rfl | (simp; done) | (simp [*]; done)), H', ⟨Nat.le_refl _⟩, ⟨pk BK2051⟩, ⟨pk BK2052⟩, ⟨pl HB⟩⟩
  case round =>
    clear H'
    try clear c2
    try clear p2
    obtain ⟨x4_1, x5_1, rfl, rfl, HA, HK1, BK2051, BK2052, HB⟩ := hrel
    cases gk with
    | zero => exact absurd HA.out (by simp [wide_U128_Sqrt.l0])
    | succ k1 =>
      have H := HA.out
      clear HA
      simp only [wide_U128_Sqrt.l0] at H
      by_cases c4 : x5_1 > 0
      · rw [if_pos c4] at H
        have c4b0 : decide (0 < x5_1) = true := decide_eq_true c4
        clear c4
        obtain ⟨⟨t2059, t2060⟩, A50, H⟩ := Option.bind_eq_some_iff.mp H
        have A5 := Aside0.mk A50
        clear A50
        (try dsimp only at H)
        obtain ⟨t2061, A60, H⟩ := Option.bind_eq_some_iff.mp H
        have A6 := Aside0.mk A60
        clear A60
        (try dsimp only at H)
        by_cases c7 : t2061 ≤ 0
        · rw [if_pos c7] at H
          have c7b0 : decide (t2061 ≤ 0) = true := decide_eq_true c7
          clear c7
          have H' := Aside0.mk H
          clear H
          try go_wp2
          replace BK2051 := Aside0.mk (blk_drew BK2051.out)
          replace BK2052 := Aside0.mk (blk_drew BK2052.out)
          replace HB := Aside0.mk (below_drew1 HB.out)
          refine start_ (n := 10) (S := fun w' => w'.cell? ⟨gb2051, 0, none⟩ = some (.int .u64 a0_0) ∧ w'.cell? ⟨gb2051, 1, none⟩ = some (.int .u64 a0_1)) (ds := []) #[false, false, false, false, false, false, false, false, false, false] (by kernel_rfl) rfl rfl ⟨bc BK2051 0, bc BK2051 1⟩ (fun hHeld => ?_); refine with_tabW wide_U128_Sqrt.tab5 wide_U128_Sqrt.bits5 (fun HT_ HW_ => ?_)
          generalize wr.drew = w8 at BK2051 BK2052 HB hHeld ⊢
          refine pur 0 (some 12) #[true, false, false, false, false, false, false, false, false, false] (any_of HT_.out (by kernel_rfl)) ?_
          refine pur 1 (some 13) #[true, true, false, false, false, false, false, false, false, false] (any_of HT_.out (by kernel_rfl)) ?_
          refine pur 2 (some 14) #[true, true, true, false, false, false, false, false, false, false] (any_of HT_.out (by kernel_rfl)) ?_
          refine pur 3 (some 15) #[true, true, true, true, false, false, false, false, false, false] (any_of HT_.out (by kernel_rfl)) ?_
          refine pur 4 (some 16) #[true, true, true, true, true, false, false, false, false, false] (any_of HT_.out (by kernel_rfl)) ?_
          refine pur 5 (some 17) #[true, true, true, true, true, true, false, false, false, false] (any_of HT_.out (by kernel_rfl)) ?_
          refine tak 7 (some 19) #[true, true, true, true, true, true, false, true, false, false] (take_ofW HT_.out HW_.out (by kernel_rfl)) hHeld ?_
          refine one_ (i := 6) (N := some 18) #[true, true, true, true, true, true, true, true, false, false] rfl rfl (one_of HT_.out (by kernel_rfl)) (by decide) (fun K hK => ?_)
          refine gc Try.func27 #[.int .u64 (Go.bits .or .u64 x4_1 x5_1), .int .u64 (Go.bits .or .u64 x4_1 x5_1)] (wide_Mul.calls (Go.bits .or .u64 x4_1 x5_1) (Go.bits .or .u64 x4_1 x5_1) t2059 t2060 _ A5.out) ?_
          intro w9 hb
          replace BK2051 := kb BK2051 hb
          replace BK2052 := kb BK2052 hb
          replace HB := kh HB hb
          (try clear hb)
          refine hK.out _ _ ⟨bc BK2051 0, bc BK2051 1⟩ (fun hHeld => ?_)
          clear hK K
          refine nrm (some 18) ?_
          refine one_ (i := 8) (N := some 20) #[true, true, true, true, true, true, true, true, true, false] rfl rfl (one_of HT_.out (by kernel_rfl)) (by decide) (fun K hK => ?_)
          refine gc Try.func34 #[.agg #[.int .u64 t2059, .int .u64 t2060], .agg #[.int .u64 a0_0, .int .u64 a0_1]] (wide_U128_Cmp.calls k1 t2059 t2060 a0_0 a0_1 t2061 _ A6.out) ?_
          intro w10 hb
          replace BK2051 := kb BK2051 hb
          replace BK2052 := kb BK2052 hb
          replace HB := kh HB hb
          (try clear hb)
          refine hK.out _ _ ⟨bc BK2051 0, bc BK2051 1⟩ (fun hHeld => ?_)
          clear hK K
          refine nrm (some 20) ?_
          refine pur 9 (some 21) #[true, true, true, true, true, true, true, true, true, true] (any_of HT_.out (by kernel_rfl)) ?_
          refine done_ (done_of HT_.out (by kernel_rfl)) ?_
          try go_wp2
          go_roundg k1
          case measure => have := HK1.out; omega
          case rel => exact ⟨(Go.bits .or .u64 x4_1 x5_1), (x5_1 / 2), (by first | rfl | (simp; done) | (simp [*]; done)), (by first | rfl | (simp; done) | (simp [*]; done)), H', ⟨by have := HK1.out; omega⟩, ⟨pk BK2051⟩, ⟨pk BK2052⟩, ⟨pl HB⟩⟩
        · rw [if_neg c7] at H
          have c7b0 : decide (t2061 ≤ 0) = false := decide_eq_false c7
          clear c7
          have H' := Aside0.mk H
          clear H
          try go_wp2
          replace BK2051 := Aside0.mk (blk_drew BK2051.out)
          replace BK2052 := Aside0.mk (blk_drew BK2052.out)
          replace HB := Aside0.mk (below_drew1 HB.out)
          refine start_ (n := 10) (S := fun w' => w'.cell? ⟨gb2051, 0, none⟩ = some (.int .u64 a0_0) ∧ w'.cell? ⟨gb2051, 1, none⟩ = some (.int .u64 a0_1)) (ds := []) #[false, false, false, false, false, false, false, false, false, false] (by kernel_rfl) rfl rfl ⟨bc BK2051 0, bc BK2051 1⟩ (fun hHeld => ?_); refine with_tabW wide_U128_Sqrt.tab5 wide_U128_Sqrt.bits5 (fun HT_ HW_ => ?_)
          generalize wr.drew = w11 at BK2051 BK2052 HB hHeld ⊢
          refine pur 0 (some 12) #[true, false, false, false, false, false, false, false, false, false] (any_of HT_.out (by kernel_rfl)) ?_
          refine pur 1 (some 13) #[true, true, false, false, false, false, false, false, false, false] (any_of HT_.out (by kernel_rfl)) ?_
          refine pur 2 (some 14) #[true, true, true, false, false, false, false, false, false, false] (any_of HT_.out (by kernel_rfl)) ?_
          refine pur 3 (some 15) #[true, true, true, true, false, false, false, false, false, false] (any_of HT_.out (by kernel_rfl)) ?_
          refine pur 4 (some 16) #[true, true, true, true, true, false, false, false, false, false] (any_of HT_.out (by kernel_rfl)) ?_
          refine pur 5 (some 17) #[true, true, true, true, true, true, false, false, false, false] (any_of HT_.out (by kernel_rfl)) ?_
          refine tak 7 (some 19) #[true, true, true, true, true, true, false, true, false, false] (take_ofW HT_.out HW_.out (by kernel_rfl)) hHeld ?_
          refine one_ (i := 6) (N := some 18) #[true, true, true, true, true, true, true, true, false, false] rfl rfl (one_of HT_.out (by kernel_rfl)) (by decide) (fun K hK => ?_)
          refine gc Try.func27 #[.int .u64 (Go.bits .or .u64 x4_1 x5_1), .int .u64 (Go.bits .or .u64 x4_1 x5_1)] (wide_Mul.calls (Go.bits .or .u64 x4_1 x5_1) (Go.bits .or .u64 x4_1 x5_1) t2059 t2060 _ A5.out) ?_
          intro w12 hb
          replace BK2051 := kb BK2051 hb
          replace BK2052 := kb BK2052 hb
          replace HB := kh HB hb
          (try clear hb)
          refine hK.out _ _ ⟨bc BK2051 0, bc BK2051 1⟩ (fun hHeld => ?_)
          clear hK K
          refine nrm (some 18) ?_
          refine one_ (i := 8) (N := some 20) #[true, true, true, true, true, true, true, true, true, false] rfl rfl (one_of HT_.out (by kernel_rfl)) (by decide) (fun K hK => ?_)
          refine gc Try.func34 #[.agg #[.int .u64 t2059, .int .u64 t2060], .agg #[.int .u64 a0_0, .int .u64 a0_1]] (wide_U128_Cmp.calls k1 t2059 t2060 a0_0 a0_1 t2061 _ A6.out) ?_
          intro w13 hb
          replace BK2051 := kb BK2051 hb
          replace BK2052 := kb BK2052 hb
          replace HB := kh HB hb
          (try clear hb)
          refine hK.out _ _ ⟨bc BK2051 0, bc BK2051 1⟩ (fun hHeld => ?_)
          clear hK K
          refine nrm (some 20) ?_
          refine pur 9 (some 21) #[true, true, true, true, true, true, true, true, true, true] (any_of HT_.out (by kernel_rfl)) ?_
          refine done_ (done_of HT_.out (by kernel_rfl)) ?_
          try go_wp2
          go_roundg k1
          case measure => have := HK1.out; omega
          case rel => exact ⟨(x4_1), (x5_1 / 2), (by first | rfl | (simp; done) | (simp [*]; done)), (by first | rfl | (simp; done) | (simp [*]; done)), H', ⟨by have := HK1.out; omega⟩, ⟨pk BK2051⟩, ⟨pk BK2052⟩, ⟨pl HB⟩⟩
      · rw [if_neg c4] at H
        have c4b0 : decide (0 < x5_1) = false := decide_eq_false c4
        clear c4
        obtain ⟨⟨t2053, t2054⟩, A140, H⟩ := Option.bind_eq_some_iff.mp H
        have A14 := Aside0.mk A140
        clear A140
        (try dsimp only at H)
        obtain ⟨⟨t2055, t2056, t2057⟩, A150, H⟩ := Option.bind_eq_some_iff.mp H
        have A15 := Aside0.mk A150
        clear A150
        (try dsimp only at H)
        simp only [Option.some.injEq, Prod.mk.injEq] at H
        obtain ⟨rfl, rfl, rfl⟩ := H
        try go_wp2
        replace BK2051 := Aside0.mk (blk_drew BK2051.out)
        replace BK2052 := Aside0.mk (blk_drew BK2052.out)
        replace HB := Aside0.mk (below_drew1 HB.out)
        refine start_ (n := 11) (S := fun w' => w'.cell? ⟨gb2051, 0, none⟩ = some (.int .u64 a0_0) ∧ w'.cell? ⟨gb2051, 1, none⟩ = some (.int .u64 a0_1)) (ds := []) #[false, false, false, false, false, false, false, false, false, false, false] (by kernel_rfl) rfl rfl ⟨bc BK2051 0, bc BK2051 1⟩ (fun hHeld => ?_); refine with_tabW wide_U128_Sqrt.tab7 wide_U128_Sqrt.bits7 (fun HT_ HW_ => ?_)
        generalize wr.drew = w16 at BK2051 BK2052 HB hHeld ⊢
        refine pur 1 (some 27) #[false, true, false, false, false, false, false, false, false, false, false] (any_of HT_.out (by kernel_rfl)) ?_
        refine pur 2 (some 28) #[false, true, true, false, false, false, false, false, false, false, false] (any_of HT_.out (by kernel_rfl)) ?_
        refine tak 0 (some 26) #[true, true, true, false, false, false, false, false, false, false, false] (take_ofW HT_.out HW_.out (by kernel_rfl)) hHeld ?_
        refine join_ (σ := Nat) 2 #[true, true, true, true, true, true, true, true, true, false, false] (fun s_ => [(29, .agg #[.int .u64 t2053, .int .u64 t2054]), (30, .tuple #[.agg #[.int .u64 t2055, .int .u64 t2056], .int .u64 t2057]), (6, .pointer (some ⟨s_, 0, none⟩)), (25, .tuple #[.agg #[.int .u64 t2055, .int .u64 t2056], .int .u64 t2057]), (31, .agg #[.int .u64 t2055, .int .u64 t2056]), (32, .int .u64 t2057)]) (fun s_ w' => (w'.cell? ⟨gb2051, 0, none⟩ = some (.int .u64 a0_0) ∧ w'.cell? ⟨gb2051, 1, none⟩ = some (.int .u64 a0_1)) ∧ (w'.heap[gb2051]? = some (.cells #[.int .u64 a0_0, .int .u64 a0_1] 24 (0, 0))) ∧ (w'.heap[gb2052]? = some (.cells #[.int .u64 0, .int .u64 0] 24 (0, 0))) ∧ (w'.heap[s_]? = some (.cells #[.int .u64 0, .int .u64 0] 24 (0, 0))) ∧ (w.heap.size ≤ s_) ∧ (w.heap.size ≤ s_) ∧ (gb2051 ≠ s_) ∧ (s_ ≠ gb2051) ∧ (gb2052 ≠ s_) ∧ (s_ ≠ gb2052) ∧ (Below w.heap.size w w')) ?_ ?_
        rotate_left
        · intro hCont
          refine two_ (i := 3) (j := 8) (Ni := some 29) (Nj := some 6) #[true, true, true, true, false, false, false, false, false, false, false] #[true, true, true, false, false, false, false, false, true, false, false] rfl rfl rfl rfl (two_of HT_.out (by kernel_rfl)) (by decide) (by decide) (fun K hK => ?_) (fun K hK => ?_)
          · skip
            refine gc Try.func27 #[.int .u64 x4_1, .int .u64 x4_1] (wide_Mul.calls x4_1 x4_1 t2053 t2054 _ A14.out) ?_
            intro w17 hb
            replace BK2051 := kb BK2051 hb
            replace BK2052 := kb BK2052 hb
            replace HB := kh HB hb
            (try clear hb)
            refine hK.out _ _ ⟨bc BK2051 0, bc BK2051 1⟩ (fun hHeld => ?_)
            clear hK K
            refine nrm (some 29) ?_
            refine two_ (i := 4) (j := 8) (Ni := some 30) (Nj := some 6) #[true, true, true, true, true, false, false, false, false, false, false] #[true, true, true, true, false, false, false, false, true, false, false] rfl rfl rfl rfl (two_of HT_.out (by kernel_rfl)) (by decide) (by decide) (fun K hK => ?_) (fun K hK => ?_)
            · skip
              refine gc Try.func22 #[.agg #[.int .u64 a0_0, .int .u64 a0_1], .agg #[.int .u64 t2053, .int .u64 t2054]] (wide_U128_Sub.calls a0_0 a0_1 t2053 t2054 t2055 t2056 t2057 _ A15.out) ?_
              intro w18 hb
              replace BK2051 := kb BK2051 hb
              replace BK2052 := kb BK2052 hb
              replace HB := kh HB hb
              (try clear hb)
              refine hK.out _ _ ⟨bc BK2051 0, bc BK2051 1⟩ (fun hHeld => ?_)
              clear hK K
              refine nrm (some 30) ?_
              refine pur 5 (some 25) #[true, true, true, true, true, true, false, false, false, false, false] (any_of HT_.out (by kernel_rfl)) ?_
              refine pur 6 (some 31) #[true, true, true, true, true, true, true, false, false, false, false] (any_of HT_.out (by kernel_rfl)) ?_
              refine pur 7 (some 32) #[true, true, true, true, true, true, true, true, false, false, false] (any_of HT_.out (by kernel_rfl)) ?_
              refine one_ (i := 8) (N := some 6) #[true, true, true, true, true, true, true, true, true, false, false] rfl rfl (one_of HT_.out (by kernel_rfl)) (by decide) (fun K hK => ?_)
              refine box_step ?hg (N := 6) ?hd (cs := #[.int .u64 0, .int .u64 0]) (t := 24) ?hr ?_; (case hd => rfl); (case hg => rfl); (case hr => first | (go_simp; done) | (go_simp; rfl))
              intro gb2058 hg w19 hbox hb
              have BK2058 := Aside0.mk (hbox)
              have GW2058 := kg HB hg
              have GE2058 := kg HB hg
              have NB2051_2058 := kn BK2051 hg
              have NB2058_2051 := km BK2051 hg
              have NB2052_2058 := kn BK2052 hg
              have NB2058_2052 := km BK2052 hg
              replace BK2051 := kb BK2051 hb
              replace BK2052 := kb BK2052 hb
              replace HB := kh HB hb
              clear hb hbox hg
              refine hK.out _ _ ⟨bc BK2051 0, bc BK2051 1⟩ (fun hHeld => ?_)
              clear hK K
              refine nrm (some 6) ?_
              exact norm_ (by simp only [putAll, Act.put, List.setIfInBounds_toArray, List.set_cons_zero, List.set_cons_succ]) (hCont (gb2058) _ ⟨hHeld, (pk BK2051), (pk BK2052), (pk BK2058), GW2058.out, GE2058.out, NB2051_2058.out, NB2058_2051.out, NB2052_2058.out, NB2058_2052.out, (pl HB)⟩)
            · skip
              refine box_step ?hg (N := 6) ?hd (cs := #[.int .u64 0, .int .u64 0]) (t := 24) ?hr ?_; (case hd => rfl); (case hg => rfl); (case hr => first | (go_simp; done) | (go_simp; rfl))
              intro gb2058 hg w18 hbox hb
              have BK2058 := Aside0.mk (hbox)
              have GW2058 := kg HB hg
              have GE2058 := kg HB hg
              have NB2051_2058 := kn BK2051 hg
              have NB2058_2051 := km BK2051 hg
              have NB2052_2058 := kn BK2052 hg
              have NB2058_2052 := km BK2052 hg
              replace BK2051 := kb BK2051 hb
              replace BK2052 := kb BK2052 hb
              replace HB := kh HB hb
              clear hb hbox hg
              refine hK.out _ _ ⟨bc BK2051 0, bc BK2051 1⟩ (fun hHeld => ?_)
              clear hK K
              refine nrm (some 6) ?_
              refine one_ (i := 4) (N := some 30) #[true, true, true, true, true, false, false, false, true, false, false] rfl rfl (one_of HT_.out (by kernel_rfl)) (by decide) (fun K hK => ?_)
              refine gc Try.func22 #[.agg #[.int .u64 a0_0, .int .u64 a0_1], .agg #[.int .u64 t2053, .int .u64 t2054]] (wide_U128_Sub.calls a0_0 a0_1 t2053 t2054 t2055 t2056 t2057 _ A15.out) ?_
              intro w19 hb
              replace BK2051 := kb BK2051 hb
              replace BK2052 := kb BK2052 hb
              replace BK2058 := kb BK2058 hb
              replace HB := kh HB hb
              (try clear hb)
              refine hK.out _ _ ⟨bc BK2051 0, bc BK2051 1⟩ (fun hHeld => ?_)
              clear hK K
              refine nrm (some 30) ?_
              refine pur 5 (some 25) #[true, true, true, true, true, true, false, false, true, false, false] (any_of HT_.out (by kernel_rfl)) ?_
              refine pur 6 (some 31) #[true, true, true, true, true, true, true, false, true, false, false] (any_of HT_.out (by kernel_rfl)) ?_
              refine pur 7 (some 32) #[true, true, true, true, true, true, true, true, true, false, false] (any_of HT_.out (by kernel_rfl)) ?_
              exact norm_ (by simp only [putAll, Act.put, List.setIfInBounds_toArray, List.set_cons_zero, List.set_cons_succ]) (hCont (gb2058) _ ⟨hHeld, (pk BK2051), (pk BK2052), (pk BK2058), GW2058.out, GE2058.out, NB2051_2058.out, NB2058_2051.out, NB2052_2058.out, NB2058_2052.out, (pl HB)⟩)
          · skip
            refine box_step ?hg (N := 6) ?hd (cs := #[.int .u64 0, .int .u64 0]) (t := 24) ?hr ?_; (case hd => rfl); (case hg => rfl); (case hr => first | (go_simp; done) | (go_simp; rfl))
            intro gb2058 hg w17 hbox hb
            have BK2058 := Aside0.mk (hbox)
            have GW2058 := kg HB hg
            have GE2058 := kg HB hg
            have NB2051_2058 := kn BK2051 hg
            have NB2058_2051 := km BK2051 hg
            have NB2052_2058 := kn BK2052 hg
            have NB2058_2052 := km BK2052 hg
            replace BK2051 := kb BK2051 hb
            replace BK2052 := kb BK2052 hb
            replace HB := kh HB hb
            clear hb hbox hg
            refine hK.out _ _ ⟨bc BK2051 0, bc BK2051 1⟩ (fun hHeld => ?_)
            clear hK K
            refine nrm (some 6) ?_
            refine one_ (i := 3) (N := some 29) #[true, true, true, true, false, false, false, false, true, false, false] rfl rfl (one_of HT_.out (by kernel_rfl)) (by decide) (fun K hK => ?_)
            refine gc Try.func27 #[.int .u64 x4_1, .int .u64 x4_1] (wide_Mul.calls x4_1 x4_1 t2053 t2054 _ A14.out) ?_
            intro w18 hb
            replace BK2051 := kb BK2051 hb
            replace BK2052 := kb BK2052 hb
            replace BK2058 := kb BK2058 hb
            replace HB := kh HB hb
            (try clear hb)
            refine hK.out _ _ ⟨bc BK2051 0, bc BK2051 1⟩ (fun hHeld => ?_)
            clear hK K
            refine nrm (some 29) ?_
            refine one_ (i := 4) (N := some 30) #[true, true, true, true, true, false, false, false, true, false, false] rfl rfl (one_of HT_.out (by kernel_rfl)) (by decide) (fun K hK => ?_)
            refine gc Try.func22 #[.agg #[.int .u64 a0_0, .int .u64 a0_1], .agg #[.int .u64 t2053, .int .u64 t2054]] (wide_U128_Sub.calls a0_0 a0_1 t2053 t2054 t2055 t2056 t2057 _ A15.out) ?_
            intro w19 hb
            replace BK2051 := kb BK2051 hb
            replace BK2052 := kb BK2052 hb
            replace BK2058 := kb BK2058 hb
            replace HB := kh HB hb
            (try clear hb)
            refine hK.out _ _ ⟨bc BK2051 0, bc BK2051 1⟩ (fun hHeld => ?_)
            clear hK K
            refine nrm (some 30) ?_
            refine pur 5 (some 25) #[true, true, true, true, true, true, false, false, true, false, false] (any_of HT_.out (by kernel_rfl)) ?_
            refine pur 6 (some 31) #[true, true, true, true, true, true, true, false, true, false, false] (any_of HT_.out (by kernel_rfl)) ?_
            refine pur 7 (some 32) #[true, true, true, true, true, true, true, true, true, false, false] (any_of HT_.out (by kernel_rfl)) ?_
            exact norm_ (by simp only [putAll, Act.put, List.setIfInBounds_toArray, List.set_cons_zero, List.set_cons_succ]) (hCont (gb2058) _ ⟨hHeld, (pk BK2051), (pk BK2052), (pk BK2058), GW2058.out, GE2058.out, NB2051_2058.out, NB2058_2051.out, NB2052_2058.out, NB2058_2052.out, (pl HB)⟩)
        rintro gb2058 w20 ⟨hS_, h0_, h1_, h2_, h3_, h4_, h5_, h6_, h7_, h8_, h9_⟩
        have n0_ : Aside0 (w20.heap[gb2051]? = some (.cells #[.int .u64 a0_0, .int .u64 a0_1] 24 (0, 0))) := ⟨h0_⟩
        have n1_ : Aside0 (w20.heap[gb2052]? = some (.cells #[.int .u64 0, .int .u64 0] 24 (0, 0))) := ⟨h1_⟩
        have n2_ : Aside0 (w20.heap[gb2058]? = some (.cells #[.int .u64 0, .int .u64 0] 24 (0, 0))) := ⟨h2_⟩
        have n3_ : Aside0 (w.heap.size ≤ gb2058) := ⟨h3_⟩
        have n4_ : Aside0 (w.heap.size ≤ gb2058) := ⟨h4_⟩
        have n5_ : Aside0 (gb2051 ≠ gb2058) := ⟨h5_⟩
        have n6_ : Aside0 (gb2058 ≠ gb2051) := ⟨h6_⟩
        have n7_ : Aside0 (gb2052 ≠ gb2058) := ⟨h7_⟩
        have n8_ : Aside0 (gb2058 ≠ gb2052) := ⟨h8_⟩
        have n9_ : Aside0 (Below w.heap.size w w20) := ⟨h9_⟩
        clear BK2051
        clear BK2052
        clear HB
        clear h0_ h1_ h2_ h3_ h4_ h5_ h6_ h7_ h8_ h9_
        have BK2051 := n0_
        have BK2052 := n1_
        have BK2058 := n2_
        have GW2058 := n3_
        have GE2058 := n4_
        have NB2051_2058 := n5_
        have NB2058_2051 := n6_
        have NB2052_2058 := n7_
        have NB2058_2052 := n8_
        have HB := n9_
        clear n0_ n1_ n2_ n3_ n4_ n5_ n6_ n7_ n8_ n9_
        have hHeld : w20.cell? ⟨gb2051, 0, none⟩ = some (.int .u64 a0_0) ∧ w20.cell? ⟨gb2051, 1, none⟩ = some (.int .u64 a0_1) := hS_
        refine norm_ (a' := ?_) ?_ ?_
        rotate_left
        · simp only [putAll, Act.put, List.setIfInBounds_toArray, List.set_cons_zero, List.set_cons_succ]
          rfl
        refine one_ (i := 9) (N := none) #[true, true, true, true, true, true, true, true, true, true, false] rfl rfl (one_of HT_.out (by kernel_rfl)) (by decide) (fun K hK => ?_)
        have hs21 : w20.cell? ⟨gb2058, 0, none⟩ = some (.int .u64 0) := bc BK2058 0
        have hfs21 := blk_frozen BK2058.out 0
        have hns21_0 := NB2051_2058.out
        have hns21_1 := NB2052_2058.out
        have hms21_0 := NB2058_2051.out
        have hms21_1 := NB2058_2052.out
        have hs22 : w20.cell? ⟨gb2058, 1, none⟩ = some (.int .u64 0) := bc BK2058 1
        have hfs22 := blk_frozen BK2058.out 1
        refine skip_ (w1 := ?_) (by rfl) rfl ?_ ?_
        rotate_left
        · go_simp
          rfl
        refine hK.out _ _ ⟨cf hHeld.1, cf hHeld.2⟩ (fun hHeld => ?_)
        clear hK K
        refine pur 10 (some 7) #[true, true, true, true, true, true, true, true, true, true, true] (any_of HT_.out (by kernel_rfl)) ?_
        refine done_ (done_of HT_.out (by kernel_rfl)) ?_
        try go_wp2
        generalize hW_ : ((w20.setCell ⟨gb2058, 0, none⟩ (.int .u64 t2055)).setCell ⟨gb2058, 1, none⟩ (.int .u64 t2056)) = w23
        replace BK2051 := kr BK2051 hW_
        replace BK2052 := kr BK2052 hW_
        replace BK2058 := kr (o' := .cells #[.int .u64 t2055, .int .u64 t2056] 24 (0, 0)) BK2058 hW_
        replace HB := kq HB hW_
        clear hW_
        replace BK2051 := Aside0.mk (blk_drew BK2051.out)
        replace BK2052 := Aside0.mk (blk_drew BK2052.out)
        replace BK2058 := Aside0.mk (blk_drew BK2058.out)
        replace HB := Aside0.mk (below_drew1 HB.out)
        refine start_ (n := 4) (S := fun w' => w'.cell? ⟨gb2058, 0, none⟩ = some (.int .u64 t2055) ∧ w'.cell? ⟨gb2058, 1, none⟩ = some (.int .u64 t2056)) (ds := []) #[false, false, false, false] (by kernel_rfl) rfl rfl ⟨bc BK2058 0, bc BK2058 1⟩ (fun hHeld => ?_)
        generalize w23.drew = w24 at BK2051 BK2052 BK2058 HB hHeld ⊢
        refine pur 0 (some 33) #[true, false, false, false] (by kernel_rfl) ?_
        refine pur 2 (some 2) #[true, false, true, false] (by kernel_rfl) ?_
        refine tak 1 (some 34) #[true, true, true, false] (by kernel_rfl) hHeld ?_
        refine one_ (i := 3) (N := none) #[true, true, true, true] rfl rfl (by kernel_rfl) (by decide) (fun K hK => ?_)
        have hs25 : w24.cell? ⟨gb2052, 0, none⟩ = some (.int .u64 0) := bc BK2052 0
        have hfs25 := blk_frozen BK2052.out 0
        have hns25_0 := NB2051_2052.out
        have hns25_2 := NB2058_2052.out
        have hms25_0 := NB2052_2051.out
        have hms25_2 := NB2052_2058.out
        have hs26 : w24.cell? ⟨gb2052, 1, none⟩ = some (.int .u64 0) := bc BK2052 1
        have hfs26 := blk_frozen BK2052.out 1
        refine skip_ (w1 := ?_) (by rfl) rfl ?_ ?_
        rotate_left
        · go_simp
          rfl
        refine hK.out _ _ ⟨cf hHeld.1, cf hHeld.2⟩ (fun hHeld => ?_)
        clear hK K
        refine done_ (by kernel_rfl) ?_
        try go_wp2
        refine bodyPost_ret (results_tc rfl _ _ gb2052 24 #[.int .u64 t2055, .int .u64 t2056] (0, 0) _ rfl (pK BK2052) Try.underlying24 rfl (by kernel_rfl)) rfl ?_
        exact ⟨pe, pl HB⟩
/-! ### wide_U192_Add: function 36 -/
def wide_U192_Add.f (a0_0 : Int) (a0_1 : Int) (a0_2 : Int) (a1_0 : Int) (a1_1 : Int) (a1_2 : Int) : Option (Int × Int × Int × Int) := (bits_Add64.f a0_2 a1_2 0).bind fun bt2204 => ((bits_Add64.f a0_1 a1_1 bt2204.2).bind fun bt2206 => ((bits_Add64.f a0_0 a1_0 bt2206.2).bind fun bt2208 => (some (bt2208.1, bt2206.1, bt2204.1, bt2208.2))))
set_option maxHeartbeats 8000000 in
set_option maxRecDepth 100000 in
theorem wide_U192_Add.calls (a0_0 : Int) (a0_1 : Int) (a0_2 : Int) (a1_0 : Int) (a1_1 : Int) (a1_2 : Int) (r1 : Int) (r2 : Int) (r3 : Int) (r4 : Int) (w : World) (h : wide_U192_Add.f a0_0 a0_1 a0_2 a1_0 a1_1 a1_2 = some (r1, r2, r3, r4)) :
    Calls Try.prog 36 #[.agg #[.int .u64 a0_0, .int .u64 a0_1, .int .u64 a0_2], .agg #[.int .u64 a1_0, .int .u64 a1_1, .int .u64 a1_2]] w fun e w' => e = .returned (.tuple #[.agg #[.int .u64 r1, .int .u64 r2, .int .u64 r3], .int .u64 r4]) ∧ Below w.heap.size w w' := by
  have hu26 := Try.underlying26
  have HB := Aside0.mk (Below.refl w.heap.size w)
  have H := h
  clear h
  unfold wide_U192_Add.f at H
  obtain ⟨⟨t2204, t2205⟩, A30, H⟩ := Option.bind_eq_some_iff.mp H
  have A3 := Aside0.mk A30
  clear A30
  (try dsimp only at H)
  obtain ⟨⟨t2206, t2207⟩, A40, H⟩ := Option.bind_eq_some_iff.mp H
  have A4 := Aside0.mk A40
  clear A40
  (try dsimp only at H)
  obtain ⟨⟨t2208, t2209⟩, A50, H⟩ := Option.bind_eq_some_iff.mp H
  have A5 := Aside0.mk A50
  clear A50
  (try dsimp only at H)
  simp only [Option.some.injEq, Prod.mk.injEq] at H
  obtain ⟨rfl, rfl, rfl, rfl⟩ := H
  go_enter Try.func36, Try.ntmps36
  go_wp2_with (first | ((with_reducible refine gate_dst (N := 2) rfl ?_); refine kx 2 #[.int .u64 a0_0, .int .u64 a0_1, .int .u64 a0_2] 26 ?_; intro gb2201 hg w6 hbox hb; have BK2201 := Aside0.mk (hbox); have GW2201 := kg HB hg; have GE2201 := kg HB hg; replace HB := kh HB hb; clear hb hbox hg) | ((with_reducible refine gate_dst (N := 3) rfl ?_); refine kx 3 #[.int .u64 a1_0, .int .u64 a1_1, .int .u64 a1_2] 26 ?_; intro gb2202 hg w7 hbox hb; have BK2202 := Aside0.mk (hbox); have GW2202 := kg HB hg; have GE2202 := kg HB hg; have NB2201_2202 := kn BK2201 hg; have NB2202_2201 := km BK2201 hg; replace BK2201 := kb BK2201 hb; replace HB := kh HB hb; clear hb hbox hg) | ((with_reducible refine gate_dst (N := 4) rfl ?_); refine kx 4 #[.int .u64 0, .int .u64 0, .int .u64 0] 26 ?_; intro gb2203 hg w8 hbox hb; have BK2203 := Aside0.mk (hbox); have GW2203 := kg HB hg; have GE2203 := kg HB hg; have NB2201_2203 := kn BK2201 hg; have NB2203_2201 := km BK2201 hg; have NB2202_2203 := kn BK2202 hg; have NB2203_2202 := km BK2202 hg; replace BK2201 := kb BK2201 hb; replace BK2202 := kb BK2202 hb; replace HB := kh HB hb; clear hb hbox hg; have hnb9 := NB2201_2202.out; have hnc9 := NB2202_2201.out; have hnb10 := NB2201_2203.out; have hnc10 := NB2203_2201.out; have ⟨hcz11_0, hcz11_1, hcz11_2, hfz11_0, hfz11_1, hfz11_2⟩ := kz3f BK2201; have hnb12 := NB2202_2203.out; have hnc12 := NB2203_2202.out; have ⟨hcz13_0, hcz13_1, hcz13_2, hfz13_0, hfz13_1, hfz13_2⟩ := kz3f BK2202) | ((with_reducible refine gate_callee (f := 47) rfl ?_); refine kcE (some 15) Try.func47 #[.int .u64 a0_2, .int .u64 a1_2, .int .u64 0] (bits_Add64.calls a0_2 a1_2 0 t2204 t2205 _ A3.out) ?_; intro w14 hb; replace BK2201 := kb BK2201 hb; replace BK2202 := kb BK2202 hb; replace BK2203 := kb BK2203 hb; replace HB := kh HB hb; (try clear hb); have ⟨hcz15_0, hcz15_1, hcz15_2, hfz15_0, hfz15_1, hfz15_2⟩ := kz3f BK2201; have ⟨hcz16_0, hcz16_1, hcz16_2, hfz16_0, hfz16_1, hfz16_2⟩ := kz3f BK2202) | ((with_reducible refine gate_callee (f := 47) rfl ?_); refine kcE (some 24) Try.func47 #[.int .u64 a0_1, .int .u64 a1_1, .int .u64 t2205] (bits_Add64.calls a0_1 a1_1 t2205 t2206 t2207 _ A4.out) ?_; intro w17 hb; replace BK2201 := kb BK2201 hb; replace BK2202 := kb BK2202 hb; replace BK2203 := kb BK2203 hb; replace HB := kh HB hb; (try clear hb); have ⟨hcz18_0, hcz18_1, hcz18_2, hfz18_0, hfz18_1, hfz18_2⟩ := kz3f BK2201; have ⟨hcz19_0, hcz19_1, hcz19_2, hfz19_0, hfz19_1, hfz19_2⟩ := kz3f BK2202) | ((with_reducible refine gate_callee (f := 47) rfl ?_); refine kcE (some 33) Try.func47 #[.int .u64 a0_0, .int .u64 a1_0, .int .u64 t2207] (bits_Add64.calls a0_0 a1_0 t2207 t2208 t2209 _ A5.out) ?_; intro w20 hb; replace BK2201 := kb BK2201 hb; replace BK2202 := kb BK2202 hb; replace BK2203 := kb BK2203 hb; replace HB := kh HB hb; (try clear hb); have ⟨hcz21_0, hcz21_1, hcz21_2, hfz21_0, hfz21_1, hfz21_2⟩ := kz3f BK2203))
  refine bodyPost_ret (results_ct rfl _ _ gb2203 26 #[.int .u64 t2208, .int .u64 t2206, .int .u64 t2204] (0, 0) _ rfl (pK BK2203) Try.underlying26 rfl (by kernel_rfl)) rfl ?_
  exact ⟨pe, pl HB⟩
/-! ### wide_Sum: function 38 -/
def wide_Sum.l0 : Nat → List (S24) → Int → Int → Int → Int → Int → Option (Int × Int × Int)
  | 0, _, _, _, _, _, _ => none
  | k + 1, x6, x7, x8, x2353000, x2353001, x2353002 => if x8 < x7 then (if 0 ≤ x8 then (if x8 < (x6.length : Int) then ((wide_U192_Add.f x2353000 x2353001 x2353002 0 ((rd_T24 x6 x8).f0) ((rd_T24 x6 x8).f1)).bind fun bt2355 => (wide_Sum.l0 k x6 x7 (wrap64 (x8 + 1)) bt2355.1 bt2355.2.1 bt2355.2.2.1)) else (none)) else (none)) else (some (x2353000, x2353001, x2353002))
def wide_Sum.f (k : Nat) (l0 : List (S24)) : Option (Int × Int × Int) := wide_Sum.l0 k l0 (l0.length : Int) 0 0 0 0
theorem wide_Sum.mono_l : ∀ k, (∀ y0 y1 y2 y3 y4 y5, LeO (wide_Sum.l0 k y0 y1 y2 y3 y4 y5) (wide_Sum.l0 (k + 1) y0 y1 y2 y3 y4 y5))
  | 0 => fun _ _ _ _ _ _ r h => by simp [wide_Sum.l0] at h
  | k + 1 => by
    have ih0 := wide_Sum.mono_l k
    · intro y0 y1 y2 y3 y4 y5
      unfold wide_Sum.l0
      repeat' first
      | (with_reducible exact ih0 _ _ _ _ _ _)
      | (with_reducible exact LeO.refl _)
      | (with_reducible exact LeO.none _)
      | (with_reducible refine LeO.ite ?_ ?_)
      | (with_reducible refine LeO.bind ?_ (fun _ => ?_))
      | exact ih0 _ _ _ _ _ _
      | exact LeO.none _
      | refine LeO.ite ?_ ?_
      | refine LeO.bind ?_ (fun _ => ?_)
theorem wide_Sum.mono : ∀ a0 k, LeO (wide_Sum.f k a0) (wide_Sum.f (k + 1) a0) := by
  intro a0 k
  have ih0 := wide_Sum.mono_l k
  unfold wide_Sum.f
  repeat' first
      | (with_reducible exact ih0 _ _ _ _ _ _)
      | (with_reducible exact LeO.refl _)
      | (with_reducible exact LeO.none _)
      | (with_reducible refine LeO.ite ?_ ?_)
      | (with_reducible refine LeO.bind ?_ (fun _ => ?_))
      | exact ih0 _ _ _ _ _ _
      | exact LeO.none _
      | refine LeO.ite ?_ ?_
      | refine LeO.bind ?_ (fun _ => ?_)
set_option maxHeartbeats 8000000 in
set_option maxRecDepth 100000 in
theorem wide_Sum.calls (k : Nat) (A0 : Option Addr) (c0 : Nat) (l0 : List (S24)) (r1 : Int) (r2 : Int) (r3 : Int) (w : World) (hr0 : Kd.C k24 w A0 l0.length l0) (hc0 : l0.length ≤ c0) (h : wide_Sum.f k l0 = some (r1, r2, r3)) :
    Calls Try.prog 38 #[.slice A0 l0.length c0] w fun e w' => e = .returned (.agg #[.int .u64 r1, .int .u64 r2, .int .u64 r3]) ∧ Below w.heap.size w w' := by
  have hu26 := Try.underlying26
  have hu24 := Try.underlying24
  have HR0 := Aside0.mk hr0
  have HC0 := Aside0.mk hc0
  clear hr0 hc0
  have HB := Aside0.mk (Below.refl w.heap.size w)
  have H := h
  clear h
  unfold wide_Sum.f at H
  have H' := Aside0.mk H
  clear H
  go_enter Try.func38, Try.ntmps38
  go_wp2_with (first | ((with_reducible refine gate_dst (N := 2) rfl ?_); refine kx 2 #[.int .u64 0, .int .u64 0, .int .u64 0] 26 ?_; intro gb2351 hg w2 hbox hb; have BK2351 := Aside0.mk (hbox); have GW2351 := kg HB hg; have GE2351 := kg HB hg; replace HB := kh HB hb; clear hb hbox hg) | ((with_reducible refine gate_dst (N := 3) rfl ?_); refine kx 3 #[.int .u64 0, .int .u64 0, .int .u64 0] 26 ?_; intro gb2352 hg w3 hbox hb; have BK2352 := Aside0.mk (hbox); have GW2352 := kg HB hg; have GE2352 := kg HB hg; have NB2351_2352 := kn BK2351 hg; have NB2352_2351 := km BK2351 hg; replace BK2351 := kb BK2351 hb; replace HB := kh HB hb; clear hb hbox hg))
  go_loopg [8] k (fun kq v8 w' => ∃ (x8_1 : Int) (x2353000_1 : Int) (x2353001_1 : Int) (x2353002_1 : Int), v8 = .int .i64 x8_1 ∧ Aside0 (wide_Sum.l0 kq l0 (l0.length : Int) x8_1 x2353000_1 x2353001_1 x2353002_1 = some (r1, r2, r3)) ∧ Aside0 (kq ≤ k) ∧ Aside0 (w'.heap[gb2351]? = some (.cells #[.int .u64 0, .int .u64 0, .int .u64 0] 26 (0, 0))) ∧ Aside0 (w'.heap[gb2352]? = some (.cells #[.int .u64 x2353000_1, .int .u64 x2353001_1, .int .u64 x2353002_1] 26 (0, 0))) ∧ Aside0 (Below w.heap.size w w'))
  case atStart => exact ⟨(0), (0), (0), (0), (by first | rfl | (simp; done) | (simp [*]; done)), H', ⟨Nat.le_refl _⟩, ⟨pk BK2351⟩, ⟨pk BK2352⟩, ⟨pl HB⟩⟩
  case round =>
    clear H'
    try clear p2
    try clear c3
    obtain ⟨x8_1, x2353000_1, x2353001_1, x2353002_1, rfl, HA, HK1, BK2351, BK2352, HB⟩ := hrel
    cases gk with
    | zero => exact absurd HA.out (by simp [wide_Sum.l0])
    | succ k1 =>
      have H := HA.out
      clear HA
      simp only [wide_Sum.l0] at H
      by_cases c4 : x8_1 < (l0.length : Int)
      · rw [if_pos c4] at H
        have c4b0 : decide (x8_1 < (l0.length : Int)) = true := decide_eq_true c4
        clear c4
        by_cases c5 : 0 ≤ x8_1
        · rw [if_pos c5] at H
          have c5b0 : decide (0 ≤ x8_1) = true := decide_eq_true c5
          clear c5
          by_cases c6 : x8_1 < (l0.length : Int)
          · rw [if_pos c6] at H
            have c6b0 : decide (x8_1 < (l0.length : Int)) = true := decide_eq_true c6
            clear c6
            obtain ⟨⟨t2355, t2356, t2357, t2358⟩, A70, H⟩ := Option.bind_eq_some_iff.mp H
            have A7 := Aside0.mk A70
            clear A70
            (try dsimp only at H)
            have H' := Aside0.mk H
            clear H
            have p2353 : 0 ≤ (x8_1 : Int) := of_decide_eq_true (by first | (with_reducible assumption) | assumption)
            have q2353 : x8_1 < (l0.length : Int) := of_decide_eq_true (by first | (with_reducible assumption) | assumption)
            obtain ⟨ad2353, e2353, hx2353_0, hx2353_1⟩ := at_T24 HR0.out x8_1 p2353 q2353
            cases e2353
            replace hx2353_0 := (HB.out.cell (World.block_lt_of_cell? w _ hx2353_0)).trans hx2353_0
            replace hx2353_1 := (HB.out.cell (World.block_lt_of_cell? w _ hx2353_1)).trans hx2353_1
            replace p2353 := eq_true p2353
            replace q2353 := eq_true q2353
            go_wp2_with (first | ((with_reducible refine gate_dst (N := 5) rfl ?_); refine kx 5 #[.int .u64 0, .int .u64 0] 24 ?_; intro gb2354 hg w8 hbox hb; have BK2354 := Aside0.mk (hbox); have GW2354 := kg HB hg; have GE2354 := kg HB hg; have NB2351_2354 := kn BK2351 hg; have NB2354_2351 := km BK2351 hg; have NB2352_2354 := kn BK2352 hg; have NB2354_2352 := km BK2352 hg; replace BK2351 := kb BK2351 hb; replace BK2352 := kb BK2352 hb; replace HB := kh HB hb; clear hb hbox hg; have hnb9 := NB2354_2351.out; have hnc9 := NB2351_2354.out; have hnb10 := NB2354_2352.out; have hnc10 := NB2352_2354.out; have hcz11_0 : w8.cell? ⟨gb2354, 0, none⟩ = some (.int .u64 0) := bc BK2354 0; have hcz11_1 : w8.cell? ⟨gb2354, 1, none⟩ = some (.int .u64 0) := bc BK2354 1; have hfz11_0 := blk_frozen BK2354.out 0; have hfz11_1 := blk_frozen BK2354.out 1; have hnb12 := NB2352_2351.out; have hnc12 := NB2351_2352.out; have ⟨hcz13_0, hcz13_1, hcz13_2, hfz13_0, hfz13_1, hfz13_2⟩ := kz3f BK2352) | ((with_reducible refine gate_callee (f := 36) rfl ?_); refine kc (some 19) Try.func36 #[.agg #[.int .u64 x2353000_1, .int .u64 x2353001_1, .int .u64 x2353002_1], .agg #[.int .u64 0, .int .u64 ((rd_T24 l0 x8_1).f0), .int .u64 ((rd_T24 l0 x8_1).f1)]] (wide_U192_Add.calls x2353000_1 x2353001_1 x2353002_1 0 ((rd_T24 l0 x8_1).f0) ((rd_T24 l0 x8_1).f1) t2355 t2356 t2357 t2358 _ A7.out) ?_; intro w14 hb; replace BK2351 := kb BK2351 hb; replace BK2352 := kb BK2352 hb; replace BK2354 := kb (o' := .cells #[.int .u64 ((rd_T24 l0 x8_1).f0), .int .u64 ((rd_T24 l0 x8_1).f1)] 24 (0, 0)) BK2354 hb; replace HB := kh HB hb; (try clear hb); have ⟨hcz15_0, hcz15_1, hcz15_2, hfz15_0, hfz15_1, hfz15_2⟩ := kz3f BK2352))
            go_roundg k1
            case measure => have := HK1.out; omega
            case rel => exact ⟨(wrap64 (x8_1 + 1)), (t2355), (t2356), (t2357), (by first | rfl | (simp; done) | (simp [*]; done)), H', ⟨by have := HK1.out; omega⟩, ⟨pk BK2351⟩, ⟨pK BK2352⟩, ⟨pl HB⟩⟩
          · rw [if_neg c6] at H
            exact absurd H (by simp)
        · rw [if_neg c5] at H
          exact absurd H (by simp)
      · rw [if_neg c4] at H
        have c4b0 : decide (x8_1 < (l0.length : Int)) = false := decide_eq_false c4
        clear c4
        simp only [Option.some.injEq, Prod.mk.injEq] at H
        obtain ⟨rfl, rfl, rfl⟩ := H
        have hnb16 := NB2352_2351.out
        have hnc16 := NB2351_2352.out
        have hcz17_0 : wr.cell? ⟨gb2352, 0, none⟩ = some (.int .u64 x2353000_1) := bc BK2352 0
        have hcz17_1 : wr.cell? ⟨gb2352, 1, none⟩ = some (.int .u64 x2353001_1) := bc BK2352 1
        have hcz17_2 : wr.cell? ⟨gb2352, 2, none⟩ = some (.int .u64 x2353002_1) := bc BK2352 2
        have hfz17_0 := blk_frozen BK2352.out 0
        have hfz17_1 := blk_frozen BK2352.out 1
        have hfz17_2 := blk_frozen BK2352.out 2
        have hcz18_0 : wr.cell? ⟨gb2351, 0, none⟩ = some (.int .u64 0) := bc BK2351 0
        have hcz18_1 : wr.cell? ⟨gb2351, 1, none⟩ = some (.int .u64 0) := bc BK2351 1
        have hcz18_2 : wr.cell? ⟨gb2351, 2, none⟩ = some (.int .u64 0) := bc BK2351 2
        have hfz18_0 := blk_frozen BK2351.out 0
        have hfz18_1 := blk_frozen BK2351.out 1
        have hfz18_2 := blk_frozen BK2351.out 2
        go_wp2
        refine bodyPost_ret (results_cell_row rfl _ _ gb2351 26 #[.int .u64 x2353000_1, .int .u64 x2353001_1, .int .u64 x2353002_1] (0, 0) _ rfl (pK BK2351) Try.underlying26 rfl (by kernel_rfl)) rfl ?_
        exact ⟨pe, pl HB⟩
end Go.Proofs.Ytdchdapllehppaa.PAll
end
