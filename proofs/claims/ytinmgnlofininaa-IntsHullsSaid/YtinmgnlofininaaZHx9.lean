/- Functions of the print, turned to this claim. -/
import Derived.Test.YtinmgnlofininaaZHW
import Derived.Test.YtinmgnlofininaaZHx0
import Derived.Test.YtinmgnlofininaaZHx3
import Derived.Test.YtinmgnlofininaaZHx8
section
namespace Go.Proofs.Ytinmgnlofininaa.PAll
open Go.RowKit Go.Proofs.YtinmgnlofininaaW.PrintWords Go.Proofs.YtinmgnlofininaaW.PrintLast Go.Proofs.YtinmgnlofininaaW.PrintMore
attribute [local go_sem] max2_int min2_int max_two min_two max_three min_three max_four min_four   -- for this text's walks alone
set_option linter.unusedVariables false
set_option linter.unusedSimpArgs false
/-! ### ints_Test: function 69 -/
mutual
def ints_Test.j0 : Nat → Bool → Bool → Int → Int → Bool → Int → Int → Option (Bool × Int × Int × Bool × Int × Int)
  | 0, _, _, _, _, _, _, _ => none
  | k + 1, x20, x4002000, x4002001, x4002002, x4003000, x4003001, x4003002 => if x20 = true then ((ints_none.f).bind fun bt4011 => ((ints_none.f).bind fun bt4014 => (some (bt4011.1, bt4011.2.1, bt4011.2.2, bt4014.1, bt4014.2.1, bt4014.2.2)))) else ((ints_without.f x4002000 x4002001 x4002002 x4003000 x4003001 x4003002).bind fun bt4019 => ((ints_without.f x4003000 x4003001 x4003002 x4002000 x4002001 x4002002).bind fun bt4022 => (if bt4019.1 = true then (ints_Test.j1 k true bt4019.1 bt4019.2.1 bt4019.2.2 bt4022.1 bt4022.2.1 bt4022.2.2) else (ints_Test.j1 k bt4022.1 bt4019.1 bt4019.2.1 bt4019.2.2 bt4022.1 bt4022.2.1 bt4022.2.2))))
def ints_Test.j1 : Nat → Bool → Bool → Int → Int → Bool → Int → Int → Option (Bool × Int × Int × Bool × Int × Int)
  | 0, _, _, _, _, _, _, _ => none
  | k + 1, x87, x4018000, x4018001, x4018002, x4019000, x4019001, x4019002 => if x87 = true then ((ints_none.f).bind fun bt4025 => ((ints_none.f).bind fun bt4028 => (some (bt4025.1, bt4025.2.1, bt4025.2.2, bt4028.1, bt4028.2.1, bt4028.2.2)))) else (some (x4018000, x4018001, x4018002, x4019000, x4019001, x4019002))
end
def ints_Test.f (k : Nat) (a0 : Int) (a1_0 : Bool) (a1_1 : Int) (a1_2 : Int) (a2_0 : Bool) (a2_1 : Int) (a2_2 : Int) : Option (Bool × Int × Int × Bool × Int × Int) := if a0 = 12 then ((ints_norm.f a1_0 a1_1 a1_2).bind fun bt4005 => ((ints_norm.f a2_0 a2_1 a2_2).bind fun bt4008 => (if bt4005.1 = true then (ints_Test.j0 k true bt4005.1 bt4005.2.1 bt4005.2.2 bt4008.1 bt4008.2.1 bt4008.2.2) else (ints_Test.j0 k bt4008.1 bt4005.1 bt4005.2.1 bt4005.2.2 bt4008.1 bt4008.2.1 bt4008.2.2)))) else none
theorem ints_Test.mono_l : ∀ k, (∀ y0 y1 y2 y3 y4 y5 y6, LeO (ints_Test.j0 k y0 y1 y2 y3 y4 y5 y6) (ints_Test.j0 (k + 1) y0 y1 y2 y3 y4 y5 y6)) ∧ (∀ y0 y1 y2 y3 y4 y5 y6, LeO (ints_Test.j1 k y0 y1 y2 y3 y4 y5 y6) (ints_Test.j1 (k + 1) y0 y1 y2 y3 y4 y5 y6))
  | 0 => ⟨fun _ _ _ _ _ _ _ r h => by simp [ints_Test.j0] at h, fun _ _ _ _ _ _ _ r h => by simp [ints_Test.j1] at h⟩
  | k + 1 => by
    obtain ⟨ih0, ih1⟩ := ints_Test.mono_l k
    refine ⟨?_, ?_⟩
    · intro y0 y1 y2 y3 y4 y5 y6
      unfold ints_Test.j0
      repeat' first
      | (with_reducible exact ih0 _ _ _ _ _ _ _)
      | (with_reducible exact ih1 _ _ _ _ _ _ _)
      | (with_reducible exact LeO.refl _)
      | (with_reducible exact LeO.none _)
      | (with_reducible refine LeO.ite ?_ ?_)
      | (with_reducible refine LeO.bind ?_ (fun _ => ?_))
      | exact ih0 _ _ _ _ _ _ _
      | exact ih1 _ _ _ _ _ _ _
      | exact LeO.none _
      | refine LeO.ite ?_ ?_
      | refine LeO.bind ?_ (fun _ => ?_)
    · intro y0 y1 y2 y3 y4 y5 y6
      unfold ints_Test.j1
      repeat' first
      | (with_reducible exact ih0 _ _ _ _ _ _ _)
      | (with_reducible exact ih1 _ _ _ _ _ _ _)
      | (with_reducible exact LeO.refl _)
      | (with_reducible exact LeO.none _)
      | (with_reducible refine LeO.ite ?_ ?_)
      | (with_reducible refine LeO.bind ?_ (fun _ => ?_))
      | exact ih0 _ _ _ _ _ _ _
      | exact ih1 _ _ _ _ _ _ _
      | exact LeO.none _
      | refine LeO.ite ?_ ?_
      | refine LeO.bind ?_ (fun _ => ?_)
theorem ints_Test.mono : ∀ a0 a1 a2 a3 a4 a5 a6 k, LeO (ints_Test.f k a0 a1 a2 a3 a4 a5 a6) (ints_Test.f (k + 1) a0 a1 a2 a3 a4 a5 a6) := by
  intro a0 a1 a2 a3 a4 a5 a6 k
  obtain ⟨ih0, ih1⟩ := ints_Test.mono_l k
  unfold ints_Test.f
  repeat' first
      | (with_reducible exact ih0 _ _ _ _ _ _ _)
      | (with_reducible exact ih1 _ _ _ _ _ _ _)
      | (with_reducible exact LeO.refl _)
      | (with_reducible exact LeO.none _)
      | (with_reducible refine LeO.ite ?_ ?_)
      | (with_reducible refine LeO.bind ?_ (fun _ => ?_))
      | exact ih0 _ _ _ _ _ _ _
      | exact ih1 _ _ _ _ _ _ _
      | exact LeO.none _
      | refine LeO.ite ?_ ?_
      | refine LeO.bind ?_ (fun _ => ?_)
def ints_Test.T19 : Bool × List (List Nat × List Nat) := (true, [([], []), ([], []), ([0, 1], [0, 1]), ([], []), ([], []), ([3, 4, 2], [3, 4]), ([2, 5, 0, 1, 2], [2]), ([5, 6, 0, 1, 2, 3, 4, 5, 6], [5])])
def ints_Test.B19 : List Nat := [0, 0, 3, 0, 0, 31, 63, 127]
theorem ints_Test.tab19 : rtab .any (opsOf Try.f69 19) = ints_Test.T19 := by kernel_rfl
theorem ints_Test.bits19 : waitsOk ints_Test.T19.2 ints_Test.B19 = true := by kernel_rfl
set_option maxHeartbeats 8000000 in
set_option maxRecDepth 100000 in
theorem ints_Test.calls (k : Nat) (a0 : Int) (a1_0 : Bool) (a1_1 : Int) (a1_2 : Int) (a2_0 : Bool) (a2_1 : Int) (a2_2 : Int) (r1 : Bool) (r2 : Int) (r3 : Int) (r4 : Bool) (r5 : Int) (r6 : Int) (w : World) (h : ints_Test.f k a0 a1_0 a1_1 a1_2 a2_0 a2_1 a2_2 = some (r1, r2, r3, r4, r5, r6)) :
    Calls Try.prog 69 #[.int .u8 a0, .agg #[.bool a1_0, .int .i64 a1_1, .int .i64 a1_2], .agg #[.bool a2_0, .int .i64 a2_1, .int .i64 a2_2]] w fun e w' => e = .returned (.tuple #[.agg #[.bool r1, .int .i64 r2, .int .i64 r3], .agg #[.bool r4, .int .i64 r5, .int .i64 r6]]) ∧ Below w.heap.size w w' := by
  have hu23 := Try.underlying23
  have HB := Aside0.mk (Below.refl w.heap.size w)
  have H := h
  clear h
  unfold ints_Test.f at H
  by_cases e0_ : a0 = 12
  case neg => rw [if_neg e0_] at H; cases H
  subst e0_
  rw [if_pos rfl] at H
  obtain ⟨⟨t4005, t4006, t4007⟩, A40, H⟩ := Option.bind_eq_some_iff.mp H
  have A4 := Aside0.mk A40
  clear A40
  (try dsimp only at H)
  obtain ⟨⟨t4008, t4009, t4010⟩, A50, H⟩ := Option.bind_eq_some_iff.mp H
  have A5 := Aside0.mk A50
  clear A50
  (try dsimp only at H)
  have HC6 := Aside0.mk H
  clear H
  go_enter Try.func69, Try.ntmps69
  try go_wp2_with (first | ((with_reducible refine gate_dst (N := 4) rfl ?_); refine kx 4 #[.bool a1_0, .int .i64 a1_1, .int .i64 a1_2] 23 ?_; intro gb4001 hg w7 hbox hb; have BK4001 := Aside0.mk (hbox); have GW4001 := kg HB hg; have GE4001 := kg HB hg; replace HB := kh HB hb; clear hb hbox hg) | ((with_reducible refine gate_dst (N := 5) rfl ?_); refine kx 5 #[.bool a2_0, .int .i64 a2_1, .int .i64 a2_2] 23 ?_; intro gb4002 hg w8 hbox hb; have BK4002 := Aside0.mk (hbox); have GW4002 := kg HB hg; have GE4002 := kg HB hg; have NB4001_4002 := kn BK4001 hg; have NB4002_4001 := km BK4001 hg; replace BK4001 := kb BK4001 hb; replace HB := kh HB hb; clear hb hbox hg) | ((with_reducible refine gate_dst (N := 6) rfl ?_); refine kx 6 #[.bool false, .int .i64 0, .int .i64 0] 23 ?_; intro gb4003 hg w9 hbox hb; have BK4003 := Aside0.mk (hbox); have GW4003 := kg HB hg; have GE4003 := kg HB hg; have NB4001_4003 := kn BK4001 hg; have NB4003_4001 := km BK4001 hg; have NB4002_4003 := kn BK4002 hg; have NB4003_4002 := km BK4002 hg; replace BK4001 := kb BK4001 hb; replace BK4002 := kb BK4002 hb; replace HB := kh HB hb; clear hb hbox hg) | ((with_reducible refine gate_dst (N := 7) rfl ?_); refine kx 7 #[.bool false, .int .i64 0, .int .i64 0] 23 ?_; intro gb4004 hg w10 hbox hb; have BK4004 := Aside0.mk (hbox); have GW4004 := kg HB hg; have GE4004 := kg HB hg; have NB4001_4004 := kn BK4001 hg; have NB4004_4001 := km BK4001 hg; have NB4002_4004 := kn BK4002 hg; have NB4004_4002 := km BK4002 hg; have NB4003_4004 := kn BK4003 hg; have NB4004_4003 := km BK4003 hg; replace BK4001 := kb BK4001 hb; replace BK4002 := kb BK4002 hb; replace BK4003 := kb BK4003 hb; replace HB := kh HB hb; clear hb hbox hg))
  replace BK4001 := Aside0.mk (blk_drew BK4001.out)
  replace BK4002 := Aside0.mk (blk_drew BK4002.out)
  replace BK4003 := Aside0.mk (blk_drew BK4003.out)
  replace BK4004 := Aside0.mk (blk_drew BK4004.out)
  replace HB := Aside0.mk (below_drew1 HB.out)
  refine start_ (n := 6) (S := fun w' => w'.cell? ⟨gb4001, 0, none⟩ = some (.bool a1_0) ∧ w'.cell? ⟨gb4001, 1, none⟩ = some (.int .i64 a1_1) ∧ w'.cell? ⟨gb4001, 2, none⟩ = some (.int .i64 a1_2) ∧ w'.cell? ⟨gb4002, 0, none⟩ = some (.bool a2_0) ∧ w'.cell? ⟨gb4002, 1, none⟩ = some (.int .i64 a2_1) ∧ w'.cell? ⟨gb4002, 2, none⟩ = some (.int .i64 a2_2)) (ds := [4, 5]) #[false, false, false, false, false, false] (by kernel_rfl) rfl rfl ⟨bc BK4001 0, bc BK4001 1, bc BK4001 2, bc BK4002 0, bc BK4002 1, bc BK4002 2⟩ (fun hHeld => ?_)
  generalize w10.drew = w11 at BK4001 BK4002 BK4003 BK4004 HB hHeld ⊢
  refine tak 0 (some 11) #[true, false, false, false, false, false] (by kernel_rfl) hHeld ?_
  refine tak 2 (some 13) #[true, false, true, false, false, false] (by kernel_rfl) hHeld ?_
  refine one_ (i := 1) (N := some 12) #[true, true, true, false, false, false] rfl rfl (by kernel_rfl) (by decide) (fun K hK => ?_)
  refine gc Try.func68 #[.agg #[.bool a1_0, .int .i64 a1_1, .int .i64 a1_2]] (ints_norm.calls a1_0 a1_1 a1_2 t4005 t4006 t4007 _ A4.out) ?_
  intro w12 hb
  replace BK4001 := kb BK4001 hb
  replace BK4002 := kb BK4002 hb
  replace BK4003 := kb BK4003 hb
  replace BK4004 := kb BK4004 hb
  replace HB := kh HB hb
  (try clear hb)
  refine hK.out _ _ ⟨bc BK4001 0, bc BK4001 1, bc BK4001 2, bc BK4002 0, bc BK4002 1, bc BK4002 2⟩ (fun hHeld => ?_)
  clear hK K
  refine nrm (some 12) ?_
  refine one_ (i := 3) (N := some 14) #[true, true, true, true, false, false] rfl rfl (by kernel_rfl) (by decide) (fun K hK => ?_)
  refine gc Try.func68 #[.agg #[.bool a2_0, .int .i64 a2_1, .int .i64 a2_2]] (ints_norm.calls a2_0 a2_1 a2_2 t4008 t4009 t4010 _ A5.out) ?_
  intro w13 hb
  replace BK4001 := kb BK4001 hb
  replace BK4002 := kb BK4002 hb
  replace BK4003 := kb BK4003 hb
  replace BK4004 := kb BK4004 hb
  replace HB := kh HB hb
  (try clear hb)
  refine hK.out _ _ ⟨bc BK4001 0, bc BK4001 1, bc BK4001 2, bc BK4002 0, bc BK4002 1, bc BK4002 2⟩ (fun hHeld => ?_)
  clear hK K
  refine nrm (some 14) ?_
  refine last_ (i := 4) (N := none) #[true, true, true, true, true, false] rfl rfl (by kernel_rfl) (by decide) (fun K hK => ?_)
  have hs14 : w13.cell? ⟨gb4001, 0, none⟩ = some (.bool a1_0) := bc BK4001 0
  have hfs14 := blk_frozen BK4001.out 0
  have hns14_1 := NB4002_4001.out
  have hns14_2 := NB4003_4001.out
  have hns14_3 := NB4004_4001.out
  have hms14_1 := NB4001_4002.out
  have hms14_2 := NB4001_4003.out
  have hms14_3 := NB4001_4004.out
  have hs15 : w13.cell? ⟨gb4001, 1, none⟩ = some (.int .i64 a1_1) := bc BK4001 1
  have hfs15 := blk_frozen BK4001.out 1
  have hs16 : w13.cell? ⟨gb4001, 2, none⟩ = some (.int .i64 a1_2) := bc BK4001 2
  have hfs16 := blk_frozen BK4001.out 2
  refine skip_ (w1 := ?_) (by rfl) rfl ?_ ?_
  rotate_left
  · go_simp
    rfl
  refine hK.out _ _ ?_
  clear hK K
  refine last_ (i := 5) (N := none) #[true, true, true, true, true, true] rfl rfl (by kernel_rfl) (by decide) (fun K hK => ?_)
  have hs17 : w13.cell? ⟨gb4002, 0, none⟩ = some (.bool a2_0) := bc BK4002 0
  have hfs17 := blk_frozen BK4002.out 0
  have hns17_0 := NB4001_4002.out
  have hns17_2 := NB4003_4002.out
  have hns17_3 := NB4004_4002.out
  have hms17_0 := NB4002_4001.out
  have hms17_2 := NB4002_4003.out
  have hms17_3 := NB4002_4004.out
  have hs18 : w13.cell? ⟨gb4002, 1, none⟩ = some (.int .i64 a2_1) := bc BK4002 1
  have hfs18 := blk_frozen BK4002.out 1
  have hs19 : w13.cell? ⟨gb4002, 2, none⟩ = some (.int .i64 a2_2) := bc BK4002 2
  have hfs19 := blk_frozen BK4002.out 2
  refine skip_ (w1 := ?_) (by rfl) rfl ?_ ?_
  rotate_left
  · go_simp
    rfl
  refine hK.out _ _ ?_
  clear hK K
  refine done_ (by kernel_rfl) ?_
  go_upto_region 2 with (fail)
  go_cut [20] (fun v20 wc => ∃ (kq : Nat) (x20_5 : Bool), v20 = .bool x20_5 ∧ Aside0 (ints_Test.j0 kq x20_5 t4005 t4006 t4007 t4008 t4009 t4010 = some (r1, r2, r3, r4, r5, r6)) ∧ Aside0 (kq ≤ k) ∧ Aside0 (wc.heap[gb4001]? = some (.cells #[.bool t4005, .int .i64 t4006, .int .i64 t4007] 23 (0, 0))) ∧ Aside0 (wc.heap[gb4002]? = some (.cells #[.bool t4008, .int .i64 t4009, .int .i64 t4010] 23 (0, 0))) ∧ Aside0 (wc.heap[gb4003]? = some (.cells #[.bool false, .int .i64 0, .int .i64 0] 23 (0, 0))) ∧ Aside0 (wc.heap[gb4004]? = some (.cells #[.bool false, .int .i64 0, .int .i64 0] 23 (0, 0))) ∧ Aside0 (Below w.heap.size w wc))
  case first =>
    have H := HC6.out
    clear HC6
    by_cases c20 : t4005 = true
    · subst c20
      rw [if_pos rfl] at H
      have H' := Aside0.mk H
      clear H
      have hnb21 := NB4001_4002.out
      have hnc21 := NB4002_4001.out
      have hnb22 := NB4001_4003.out
      have hnc22 := NB4003_4001.out
      have hnb23 := NB4001_4004.out
      have hnc23 := NB4004_4001.out
      have ⟨hcz24_0, hcz24_1, hcz24_2, hfz24_0, hfz24_1, hfz24_2⟩ := kz3f BK4001
      go_wp2
      go_meet
      case rel => exact ⟨_, (true), (by first | rfl | (simp; done) | (simp [*]; done)), H', ⟨by first | omega | exact Nat.le_refl _⟩, ⟨pK BK4001⟩, ⟨pK BK4002⟩, ⟨pk BK4003⟩, ⟨pk BK4004⟩, ⟨pl HB⟩⟩
    · replace c20 := Bool.eq_false_iff.mpr c20
      subst c20
      rw [if_neg (show ¬ (false = true) by decide)] at H
      have H' := Aside0.mk H
      clear H
      have hnb25 := NB4001_4002.out
      have hnc25 := NB4002_4001.out
      have hnb26 := NB4001_4003.out
      have hnc26 := NB4003_4001.out
      have hnb27 := NB4001_4004.out
      have hnc27 := NB4004_4001.out
      have ⟨hcz28_0, hcz28_1, hcz28_2, hfz28_0, hfz28_1, hfz28_2⟩ := kz3f BK4001
      have hnb29 := NB4002_4003.out
      have hnc29 := NB4003_4002.out
      have hnb30 := NB4002_4004.out
      have hnc30 := NB4004_4002.out
      have ⟨hcz31_0, hcz31_1, hcz31_2, hfz31_0, hfz31_1, hfz31_2⟩ := kz3f BK4002
      go_wp2
      go_meet
      case rel => exact ⟨_, (t4008), (by first | rfl | (simp; done) | (simp [*]; done)), H', ⟨by first | omega | exact Nat.le_refl _⟩, ⟨pK BK4001⟩, ⟨pK BK4002⟩, ⟨pk BK4003⟩, ⟨pk BK4004⟩, ⟨pl HB⟩⟩
  case rest =>
    clear HC6
    try clear c2
    try clear p2
    try clear c3
    try clear c6
    try clear c20
    try clear c21
    try clear c22
    try clear c23
    try clear c25
    try clear c26
    try clear c27
    try clear c29
    try clear c30
    try clear hcz24_0
    try clear hcz24_1
    try clear hcz24_2
    try clear hcz28_0
    try clear hcz28_1
    try clear hcz28_2
    try clear hcz31_0
    try clear hcz31_1
    try clear hcz31_2
    try clear hfz24_0
    try clear hfz24_1
    try clear hfz24_2
    try clear hfz28_0
    try clear hfz28_1
    try clear hfz28_2
    try clear hfz31_0
    try clear hfz31_1
    try clear hfz31_2
    obtain ⟨kq, x20_5, rfl, HA, HJ5, BK4001, BK4002, BK4003, BK4004, HB⟩ := hcut
    cases kq with
    | zero => exact absurd HA.out (by simp [ints_Test.j0])
    | succ kj5 =>
      have H := HA.out
      clear HA
      simp only [ints_Test.j0] at H
      by_cases c32 : x20_5 = true
      · subst c32
        rw [if_pos rfl] at H
        obtain ⟨⟨t4011, t4012, t4013⟩, A330, H⟩ := Option.bind_eq_some_iff.mp H
        have A33 := Aside0.mk A330
        clear A330
        (try dsimp only at H)
        obtain ⟨⟨t4014, t4015, t4016⟩, A340, H⟩ := Option.bind_eq_some_iff.mp H
        have A34 := Aside0.mk A340
        clear A340
        (try dsimp only at H)
        simp only [Option.some.injEq, Prod.mk.injEq] at H
        obtain ⟨rfl, rfl, rfl, rfl, rfl, rfl⟩ := H
        go_wp2_with (first | ((with_reducible refine gate_callee (f := 70) rfl ?_); refine kc (some 21) Try.func70 #[] (ints_none.calls  t4011 t4012 t4013 _ A33.out) ?_; intro w35 hb; replace BK4001 := kb BK4001 hb; replace BK4002 := kb BK4002 hb; replace BK4003 := kb BK4003 hb; replace BK4004 := kb BK4004 hb; replace HB := kh HB hb; (try clear hb)) | ((with_reducible refine gate_callee (f := 70) rfl ?_); refine kc (some 22) Try.func70 #[] (ints_none.calls  t4014 t4015 t4016 _ A34.out) ?_; intro w36 hb; replace BK4001 := kb BK4001 hb; replace BK4002 := kb BK4002 hb; replace BK4003 := kb BK4003 hb; replace BK4004 := kb BK4004 hb; replace HB := kh HB hb; (try clear hb); have hnb37 := NB4003_4001.out; have hnc37 := NB4001_4003.out; have hnb38 := NB4003_4002.out; have hnc38 := NB4002_4003.out; have hnb39 := NB4003_4004.out; have hnc39 := NB4004_4003.out; have ⟨hcz40_0, hcz40_1, hcz40_2, hfz40_0, hfz40_1, hfz40_2⟩ := kz3f BK4003; have hnb41 := NB4004_4001.out; have hnc41 := NB4001_4004.out; have hnb42 := NB4004_4002.out; have hnc42 := NB4002_4004.out; have ⟨hcz43_0, hcz43_1, hcz43_2, hfz43_0, hfz43_1, hfz43_2⟩ := kz3f BK4004))
        refine bodyPost_ret (results_cc rfl _ _ gb4003 gb4004 23 23 #[.bool t4011, .int .i64 t4012, .int .i64 t4013] #[.bool t4014, .int .i64 t4015, .int .i64 t4016] (0, 0) (0, 0) _ _ rfl (pK BK4003) Try.underlying23 rfl (by kernel_rfl) rfl (pK BK4004) Try.underlying23 rfl (by kernel_rfl)) rfl ?_
        exact ⟨pe, pl HB⟩
      · replace c32 := Bool.eq_false_iff.mpr c32
        subst c32
        rw [if_neg (show ¬ (false = true) by decide)] at H
        obtain ⟨⟨t4019, t4020, t4021⟩, A440, H⟩ := Option.bind_eq_some_iff.mp H
        have A44 := Aside0.mk A440
        clear A440
        (try dsimp only at H)
        obtain ⟨⟨t4022, t4023, t4024⟩, A450, H⟩ := Option.bind_eq_some_iff.mp H
        have A45 := Aside0.mk A450
        clear A450
        (try dsimp only at H)
        have HC46 := Aside0.mk H
        clear H
        try go_wp2
        replace BK4001 := Aside0.mk (blk_drew BK4001.out)
        replace BK4002 := Aside0.mk (blk_drew BK4002.out)
        replace BK4003 := Aside0.mk (blk_drew BK4003.out)
        replace BK4004 := Aside0.mk (blk_drew BK4004.out)
        replace HB := Aside0.mk (below_drew1 HB.out)
        refine start_ (n := 6) (S := fun w' => w'.cell? ⟨gb4001, 0, none⟩ = some (.bool t4005) ∧ w'.cell? ⟨gb4001, 1, none⟩ = some (.int .i64 t4006) ∧ w'.cell? ⟨gb4001, 2, none⟩ = some (.int .i64 t4007) ∧ w'.cell? ⟨gb4002, 0, none⟩ = some (.bool t4008) ∧ w'.cell? ⟨gb4002, 1, none⟩ = some (.int .i64 t4009) ∧ w'.cell? ⟨gb4002, 2, none⟩ = some (.int .i64 t4010)) (ds := []) #[false, false, false, false, false, false] (by kernel_rfl) rfl rfl ⟨bc BK4001 0, bc BK4001 1, bc BK4001 2, bc BK4002 0, bc BK4002 1, bc BK4002 2⟩ (fun hHeld => ?_)
        generalize wc.drew = w47 at BK4001 BK4002 BK4003 BK4004 HB hHeld ⊢
        refine tak 0 (some 29) #[true, false, false, false, false, false] (by kernel_rfl) hHeld ?_
        refine tak 1 (some 30) #[true, true, false, false, false, false] (by kernel_rfl) hHeld ?_
        refine join_ (σ := Nat × Nat) 2 #[true, true, true, true, false, false] (fun s_ => [(9, .pointer (some ⟨s_.1, 0, none⟩)), (10, .pointer (some ⟨s_.2, 0, none⟩))]) (fun s_ w' => (w'.cell? ⟨gb4001, 0, none⟩ = some (.bool t4005) ∧ w'.cell? ⟨gb4001, 1, none⟩ = some (.int .i64 t4006) ∧ w'.cell? ⟨gb4001, 2, none⟩ = some (.int .i64 t4007) ∧ w'.cell? ⟨gb4002, 0, none⟩ = some (.bool t4008) ∧ w'.cell? ⟨gb4002, 1, none⟩ = some (.int .i64 t4009) ∧ w'.cell? ⟨gb4002, 2, none⟩ = some (.int .i64 t4010)) ∧ (w'.heap[gb4001]? = some (.cells #[.bool t4005, .int .i64 t4006, .int .i64 t4007] 23 (0, 0))) ∧ (w'.heap[gb4002]? = some (.cells #[.bool t4008, .int .i64 t4009, .int .i64 t4010] 23 (0, 0))) ∧ (w'.heap[gb4003]? = some (.cells #[.bool false, .int .i64 0, .int .i64 0] 23 (0, 0))) ∧ (w'.heap[gb4004]? = some (.cells #[.bool false, .int .i64 0, .int .i64 0] 23 (0, 0))) ∧ (w'.heap[s_.1]? = some (.cells #[.bool false, .int .i64 0, .int .i64 0] 23 (0, 0))) ∧ (w'.heap[s_.2]? = some (.cells #[.bool false, .int .i64 0, .int .i64 0] 23 (0, 0))) ∧ (w.heap.size ≤ s_.1) ∧ (w.heap.size ≤ s_.1) ∧ (gb4001 ≠ s_.1) ∧ (s_.1 ≠ gb4001) ∧ (gb4002 ≠ s_.1) ∧ (s_.1 ≠ gb4002) ∧ (gb4003 ≠ s_.1) ∧ (s_.1 ≠ gb4003) ∧ (gb4004 ≠ s_.1) ∧ (s_.1 ≠ gb4004) ∧ (s_.2 ≠ s_.1) ∧ (s_.1 ≠ s_.2) ∧ (w.heap.size ≤ s_.2) ∧ (w.heap.size ≤ s_.2) ∧ (gb4001 ≠ s_.2) ∧ (s_.2 ≠ gb4001) ∧ (gb4002 ≠ s_.2) ∧ (s_.2 ≠ gb4002) ∧ (gb4003 ≠ s_.2) ∧ (s_.2 ≠ gb4003) ∧ (gb4004 ≠ s_.2) ∧ (s_.2 ≠ gb4004) ∧ (Below w.heap.size w w')) ?_ ?_
        rotate_left
        · intro hCont
          refine two_ (i := 2) (j := 3) (Ni := some 9) (Nj := some 10) #[true, true, true, false, false, false] #[true, true, false, true, false, false] rfl rfl rfl rfl (by kernel_rfl) (by decide) (by decide) (fun K hK => ?_) (fun K hK => ?_)
          · skip
            refine box_step ?hg (N := 9) ?hd (cs := #[.bool false, .int .i64 0, .int .i64 0]) (t := 23) ?hr ?_; (case hd => rfl); (case hg => rfl); (case hr => first | (go_simp; done) | (go_simp; rfl))
            intro gb4017 hg w48 hbox hb
            have BK4017 := Aside0.mk (hbox)
            have GW4017 := kg HB hg
            have GE4017 := kg HB hg
            have NB4001_4017 := kn BK4001 hg
            have NB4017_4001 := km BK4001 hg
            have NB4002_4017 := kn BK4002 hg
            have NB4017_4002 := km BK4002 hg
            have NB4003_4017 := kn BK4003 hg
            have NB4017_4003 := km BK4003 hg
            have NB4004_4017 := kn BK4004 hg
            have NB4017_4004 := km BK4004 hg
            replace BK4001 := kb BK4001 hb
            replace BK4002 := kb BK4002 hb
            replace BK4003 := kb BK4003 hb
            replace BK4004 := kb BK4004 hb
            replace HB := kh HB hb
            clear hb hbox hg
            refine hK.out _ _ ⟨bc BK4001 0, bc BK4001 1, bc BK4001 2, bc BK4002 0, bc BK4002 1, bc BK4002 2⟩ (fun hHeld => ?_)
            clear hK K
            refine nrm (some 9) ?_
            refine one_ (i := 3) (N := some 10) #[true, true, true, true, false, false] rfl rfl (by kernel_rfl) (by decide) (fun K hK => ?_)
            refine box_step ?hg (N := 10) ?hd (cs := #[.bool false, .int .i64 0, .int .i64 0]) (t := 23) ?hr ?_; (case hd => rfl); (case hg => rfl); (case hr => first | (go_simp; done) | (go_simp; rfl))
            intro gb4018 hg w49 hbox hb
            have BK4018 := Aside0.mk (hbox)
            have GW4018 := kg HB hg
            have GE4018 := kg HB hg
            have NB4001_4018 := kn BK4001 hg
            have NB4018_4001 := km BK4001 hg
            have NB4002_4018 := kn BK4002 hg
            have NB4018_4002 := km BK4002 hg
            have NB4003_4018 := kn BK4003 hg
            have NB4018_4003 := km BK4003 hg
            have NB4004_4018 := kn BK4004 hg
            have NB4018_4004 := km BK4004 hg
            have NB4017_4018 := kn BK4017 hg
            have NB4018_4017 := km BK4017 hg
            replace BK4001 := kb BK4001 hb
            replace BK4002 := kb BK4002 hb
            replace BK4003 := kb BK4003 hb
            replace BK4004 := kb BK4004 hb
            replace BK4017 := kb BK4017 hb
            replace HB := kh HB hb
            clear hb hbox hg
            refine hK.out _ _ ⟨bc BK4001 0, bc BK4001 1, bc BK4001 2, bc BK4002 0, bc BK4002 1, bc BK4002 2⟩ (fun hHeld => ?_)
            clear hK K
            refine nrm (some 10) ?_
            exact norm_ (by simp only [putAll, Act.put, List.setIfInBounds_toArray, List.set_cons_zero, List.set_cons_succ]) (hCont (gb4017, gb4018) _ ⟨hHeld, (pk BK4001), (pk BK4002), (pk BK4003), (pk BK4004), (pk BK4017), (pk BK4018), GW4017.out, GE4017.out, NB4001_4017.out, NB4017_4001.out, NB4002_4017.out, NB4017_4002.out, NB4003_4017.out, NB4017_4003.out, NB4004_4017.out, NB4017_4004.out, NB4018_4017.out, NB4017_4018.out, GW4018.out, GE4018.out, NB4001_4018.out, NB4018_4001.out, NB4002_4018.out, NB4018_4002.out, NB4003_4018.out, NB4018_4003.out, NB4004_4018.out, NB4018_4004.out, (pl HB)⟩)
          · skip
            refine box_step ?hg (N := 10) ?hd (cs := #[.bool false, .int .i64 0, .int .i64 0]) (t := 23) ?hr ?_; (case hd => rfl); (case hg => rfl); (case hr => first | (go_simp; done) | (go_simp; rfl))
            intro gb4018 hg w48 hbox hb
            have BK4018 := Aside0.mk (hbox)
            have GW4018 := kg HB hg
            have GE4018 := kg HB hg
            have NB4001_4018 := kn BK4001 hg
            have NB4018_4001 := km BK4001 hg
            have NB4002_4018 := kn BK4002 hg
            have NB4018_4002 := km BK4002 hg
            have NB4003_4018 := kn BK4003 hg
            have NB4018_4003 := km BK4003 hg
            have NB4004_4018 := kn BK4004 hg
            have NB4018_4004 := km BK4004 hg
            replace BK4001 := kb BK4001 hb
            replace BK4002 := kb BK4002 hb
            replace BK4003 := kb BK4003 hb
            replace BK4004 := kb BK4004 hb
            replace HB := kh HB hb
            clear hb hbox hg
            refine hK.out _ _ ⟨bc BK4001 0, bc BK4001 1, bc BK4001 2, bc BK4002 0, bc BK4002 1, bc BK4002 2⟩ (fun hHeld => ?_)
            clear hK K
            refine nrm (some 10) ?_
            refine one_ (i := 2) (N := some 9) #[true, true, true, true, false, false] rfl rfl (by kernel_rfl) (by decide) (fun K hK => ?_)
            refine box_step ?hg (N := 9) ?hd (cs := #[.bool false, .int .i64 0, .int .i64 0]) (t := 23) ?hr ?_; (case hd => rfl); (case hg => rfl); (case hr => first | (go_simp; done) | (go_simp; rfl))
            intro gb4017 hg w49 hbox hb
            have BK4017 := Aside0.mk (hbox)
            have GW4017 := kg HB hg
            have GE4017 := kg HB hg
            have NB4001_4017 := kn BK4001 hg
            have NB4017_4001 := km BK4001 hg
            have NB4002_4017 := kn BK4002 hg
            have NB4017_4002 := km BK4002 hg
            have NB4003_4017 := kn BK4003 hg
            have NB4017_4003 := km BK4003 hg
            have NB4004_4017 := kn BK4004 hg
            have NB4017_4004 := km BK4004 hg
            have NB4018_4017 := kn BK4018 hg
            have NB4017_4018 := km BK4018 hg
            replace BK4001 := kb BK4001 hb
            replace BK4002 := kb BK4002 hb
            replace BK4003 := kb BK4003 hb
            replace BK4004 := kb BK4004 hb
            replace BK4018 := kb BK4018 hb
            replace HB := kh HB hb
            clear hb hbox hg
            refine hK.out _ _ ⟨bc BK4001 0, bc BK4001 1, bc BK4001 2, bc BK4002 0, bc BK4002 1, bc BK4002 2⟩ (fun hHeld => ?_)
            clear hK K
            refine nrm (some 9) ?_
            exact norm_ (by simp only [putAll, Act.put, List.setIfInBounds_toArray, List.set_cons_zero, List.set_cons_succ]) (hCont (gb4017, gb4018) _ ⟨hHeld, (pk BK4001), (pk BK4002), (pk BK4003), (pk BK4004), (pk BK4017), (pk BK4018), GW4017.out, GE4017.out, NB4001_4017.out, NB4017_4001.out, NB4002_4017.out, NB4017_4002.out, NB4003_4017.out, NB4017_4003.out, NB4004_4017.out, NB4017_4004.out, NB4018_4017.out, NB4017_4018.out, GW4018.out, GE4018.out, NB4001_4018.out, NB4018_4001.out, NB4002_4018.out, NB4018_4002.out, NB4003_4018.out, NB4018_4003.out, NB4004_4018.out, NB4018_4004.out, (pl HB)⟩)
        rintro ⟨gb4017, gb4018⟩ w50 ⟨hS_, h0_, h1_, h2_, h3_, h4_, h5_, h6_, h7_, h8_, h9_, h10_, h11_, h12_, h13_, h14_, h15_, h16_, h17_, h18_, h19_, h20_, h21_, h22_, h23_, h24_, h25_, h26_, h27_, h28_⟩
        have n0_ : Aside0 (w50.heap[gb4001]? = some (.cells #[.bool t4005, .int .i64 t4006, .int .i64 t4007] 23 (0, 0))) := ⟨h0_⟩
        have n1_ : Aside0 (w50.heap[gb4002]? = some (.cells #[.bool t4008, .int .i64 t4009, .int .i64 t4010] 23 (0, 0))) := ⟨h1_⟩
        have n2_ : Aside0 (w50.heap[gb4003]? = some (.cells #[.bool false, .int .i64 0, .int .i64 0] 23 (0, 0))) := ⟨h2_⟩
        have n3_ : Aside0 (w50.heap[gb4004]? = some (.cells #[.bool false, .int .i64 0, .int .i64 0] 23 (0, 0))) := ⟨h3_⟩
        have n4_ : Aside0 (w50.heap[gb4017]? = some (.cells #[.bool false, .int .i64 0, .int .i64 0] 23 (0, 0))) := ⟨h4_⟩
        have n5_ : Aside0 (w50.heap[gb4018]? = some (.cells #[.bool false, .int .i64 0, .int .i64 0] 23 (0, 0))) := ⟨h5_⟩
        have n6_ : Aside0 (w.heap.size ≤ gb4017) := ⟨h6_⟩
        have n7_ : Aside0 (w.heap.size ≤ gb4017) := ⟨h7_⟩
        have n8_ : Aside0 (gb4001 ≠ gb4017) := ⟨h8_⟩
        have n9_ : Aside0 (gb4017 ≠ gb4001) := ⟨h9_⟩
        have n10_ : Aside0 (gb4002 ≠ gb4017) := ⟨h10_⟩
        have n11_ : Aside0 (gb4017 ≠ gb4002) := ⟨h11_⟩
        have n12_ : Aside0 (gb4003 ≠ gb4017) := ⟨h12_⟩
        have n13_ : Aside0 (gb4017 ≠ gb4003) := ⟨h13_⟩
        have n14_ : Aside0 (gb4004 ≠ gb4017) := ⟨h14_⟩
        have n15_ : Aside0 (gb4017 ≠ gb4004) := ⟨h15_⟩
        have n16_ : Aside0 (gb4018 ≠ gb4017) := ⟨h16_⟩
        have n17_ : Aside0 (gb4017 ≠ gb4018) := ⟨h17_⟩
        have n18_ : Aside0 (w.heap.size ≤ gb4018) := ⟨h18_⟩
        have n19_ : Aside0 (w.heap.size ≤ gb4018) := ⟨h19_⟩
        have n20_ : Aside0 (gb4001 ≠ gb4018) := ⟨h20_⟩
        have n21_ : Aside0 (gb4018 ≠ gb4001) := ⟨h21_⟩
        have n22_ : Aside0 (gb4002 ≠ gb4018) := ⟨h22_⟩
        have n23_ : Aside0 (gb4018 ≠ gb4002) := ⟨h23_⟩
        have n24_ : Aside0 (gb4003 ≠ gb4018) := ⟨h24_⟩
        have n25_ : Aside0 (gb4018 ≠ gb4003) := ⟨h25_⟩
        have n26_ : Aside0 (gb4004 ≠ gb4018) := ⟨h26_⟩
        have n27_ : Aside0 (gb4018 ≠ gb4004) := ⟨h27_⟩
        have n28_ : Aside0 (Below w.heap.size w w50) := ⟨h28_⟩
        clear BK4001
        clear BK4002
        clear BK4003
        clear BK4004
        clear HB
        clear h0_ h1_ h2_ h3_ h4_ h5_ h6_ h7_ h8_ h9_ h10_ h11_ h12_ h13_ h14_ h15_ h16_ h17_ h18_ h19_ h20_ h21_ h22_ h23_ h24_ h25_ h26_ h27_ h28_
        have BK4001 := n0_
        have BK4002 := n1_
        have BK4003 := n2_
        have BK4004 := n3_
        have BK4017 := n4_
        have BK4018 := n5_
        have GW4017 := n6_
        have GE4017 := n7_
        have NB4001_4017 := n8_
        have NB4017_4001 := n9_
        have NB4002_4017 := n10_
        have NB4017_4002 := n11_
        have NB4003_4017 := n12_
        have NB4017_4003 := n13_
        have NB4004_4017 := n14_
        have NB4017_4004 := n15_
        have NB4018_4017 := n16_
        have NB4017_4018 := n17_
        have GW4018 := n18_
        have GE4018 := n19_
        have NB4001_4018 := n20_
        have NB4018_4001 := n21_
        have NB4002_4018 := n22_
        have NB4018_4002 := n23_
        have NB4003_4018 := n24_
        have NB4018_4003 := n25_
        have NB4004_4018 := n26_
        have NB4018_4004 := n27_
        have HB := n28_
        clear n0_ n1_ n2_ n3_ n4_ n5_ n6_ n7_ n8_ n9_ n10_ n11_ n12_ n13_ n14_ n15_ n16_ n17_ n18_ n19_ n20_ n21_ n22_ n23_ n24_ n25_ n26_ n27_ n28_
        have hHeld : w50.cell? ⟨gb4001, 0, none⟩ = some (.bool t4005) ∧ w50.cell? ⟨gb4001, 1, none⟩ = some (.int .i64 t4006) ∧ w50.cell? ⟨gb4001, 2, none⟩ = some (.int .i64 t4007) ∧ w50.cell? ⟨gb4002, 0, none⟩ = some (.bool t4008) ∧ w50.cell? ⟨gb4002, 1, none⟩ = some (.int .i64 t4009) ∧ w50.cell? ⟨gb4002, 2, none⟩ = some (.int .i64 t4010) := hS_
        refine norm_ (a' := ?_) ?_ ?_
        rotate_left
        · simp only [putAll, Act.put, List.setIfInBounds_toArray, List.set_cons_zero, List.set_cons_succ]
          rfl
        refine one_ (i := 4) (N := none) #[true, true, true, true, true, false] rfl rfl (by kernel_rfl) (by decide) (fun K hK => ?_)
        have hs51 : w50.cell? ⟨gb4017, 0, none⟩ = some (.bool false) := bc BK4017 0
        have hfs51 := blk_frozen BK4017.out 0
        have hns51_0 := NB4001_4017.out
        have hns51_1 := NB4002_4017.out
        have hns51_2 := NB4003_4017.out
        have hns51_3 := NB4004_4017.out
        have hns51_5 := NB4018_4017.out
        have hms51_0 := NB4017_4001.out
        have hms51_1 := NB4017_4002.out
        have hms51_2 := NB4017_4003.out
        have hms51_3 := NB4017_4004.out
        have hms51_5 := NB4017_4018.out
        have hs52 : w50.cell? ⟨gb4017, 1, none⟩ = some (.int .i64 0) := bc BK4017 1
        have hfs52 := blk_frozen BK4017.out 1
        have hs53 : w50.cell? ⟨gb4017, 2, none⟩ = some (.int .i64 0) := bc BK4017 2
        have hfs53 := blk_frozen BK4017.out 2
        refine skip_ (w1 := ?_) (by rfl) rfl ?_ ?_
        rotate_left
        · go_simp
          rfl
        refine hK.out _ _ ⟨cf hHeld.1, cf hHeld.2.1, cf hHeld.2.2.1, cf hHeld.2.2.2.1, cf hHeld.2.2.2.2.1, cf hHeld.2.2.2.2.2⟩ (fun hHeld => ?_)
        clear hK K
        refine one_ (i := 5) (N := none) #[true, true, true, true, true, true] rfl rfl (by kernel_rfl) (by decide) (fun K hK => ?_)
        have hs54 : w50.cell? ⟨gb4018, 0, none⟩ = some (.bool false) := bc BK4018 0
        have hfs54 := blk_frozen BK4018.out 0
        have hns54_0 := NB4001_4018.out
        have hns54_1 := NB4002_4018.out
        have hns54_2 := NB4003_4018.out
        have hns54_3 := NB4004_4018.out
        have hns54_4 := NB4017_4018.out
        have hms54_0 := NB4018_4001.out
        have hms54_1 := NB4018_4002.out
        have hms54_2 := NB4018_4003.out
        have hms54_3 := NB4018_4004.out
        have hms54_4 := NB4018_4017.out
        have hs55 : w50.cell? ⟨gb4018, 1, none⟩ = some (.int .i64 0) := bc BK4018 1
        have hfs55 := blk_frozen BK4018.out 1
        have hs56 : w50.cell? ⟨gb4018, 2, none⟩ = some (.int .i64 0) := bc BK4018 2
        have hfs56 := blk_frozen BK4018.out 2
        refine skip_ (w1 := ?_) (by rfl) rfl ?_ ?_
        rotate_left
        · go_simp
          rfl
        refine hK.out _ _ ⟨cf hHeld.1, cf hHeld.2.1, cf hHeld.2.2.1, cf hHeld.2.2.2.1, cf hHeld.2.2.2.2.1, cf hHeld.2.2.2.2.2⟩ (fun hHeld => ?_)
        clear hK K
        refine done_ (by kernel_rfl) ?_
        try go_wp2
        generalize hW_ : ((((((w50.setCell ⟨gb4017, 0, none⟩ (.bool t4005)).setCell ⟨gb4017, 1, none⟩ (.int .i64 t4006)).setCell ⟨gb4017, 2, none⟩ (.int .i64 t4007)).setCell ⟨gb4018, 0, none⟩ (.bool t4008)).setCell ⟨gb4018, 1, none⟩ (.int .i64 t4009)).setCell ⟨gb4018, 2, none⟩ (.int .i64 t4010)) = w57
        replace BK4001 := kr BK4001 hW_
        replace BK4002 := kr BK4002 hW_
        replace BK4003 := kr BK4003 hW_
        replace BK4004 := kr BK4004 hW_
        replace BK4017 := kr (o' := .cells #[.bool t4005, .int .i64 t4006, .int .i64 t4007] 23 (0, 0)) BK4017 hW_
        replace BK4018 := kr (o' := .cells #[.bool t4008, .int .i64 t4009, .int .i64 t4010] 23 (0, 0)) BK4018 hW_
        replace HB := kq HB hW_
        clear hW_
        replace BK4001 := Aside0.mk (blk_drew BK4001.out)
        replace BK4002 := Aside0.mk (blk_drew BK4002.out)
        replace BK4003 := Aside0.mk (blk_drew BK4003.out)
        replace BK4004 := Aside0.mk (blk_drew BK4004.out)
        replace BK4017 := Aside0.mk (blk_drew BK4017.out)
        replace BK4018 := Aside0.mk (blk_drew BK4018.out)
        replace HB := Aside0.mk (below_drew1 HB.out)
        refine start_ (n := 8) (S := fun w' => w'.cell? ⟨gb4001, 0, none⟩ = some (.bool t4005) ∧ w'.cell? ⟨gb4001, 1, none⟩ = some (.int .i64 t4006) ∧ w'.cell? ⟨gb4001, 2, none⟩ = some (.int .i64 t4007) ∧ w'.cell? ⟨gb4002, 0, none⟩ = some (.bool t4008) ∧ w'.cell? ⟨gb4002, 1, none⟩ = some (.int .i64 t4009) ∧ w'.cell? ⟨gb4002, 2, none⟩ = some (.int .i64 t4010)) (ds := []) #[false, false, false, false, false, false, false, false] (by kernel_rfl) rfl rfl ⟨bc BK4001 0, bc BK4001 1, bc BK4001 2, bc BK4002 0, bc BK4002 1, bc BK4002 2⟩ (fun hHeld => ?_); refine with_tabW ints_Test.tab19 ints_Test.bits19 (fun HT_ HW_ => ?_)
        generalize w57.drew = w58 at BK4001 BK4002 BK4003 BK4004 BK4017 BK4018 HB hHeld ⊢
        refine tak 0 (some 76) #[true, false, false, false, false, false, false, false] (take_ofW HT_.out HW_.out (by kernel_rfl)) hHeld ?_
        refine tak 1 (some 77) #[true, true, false, false, false, false, false, false] (take_ofW HT_.out HW_.out (by kernel_rfl)) hHeld ?_
        refine tak 3 (some 79) #[true, true, false, true, false, false, false, false] (take_ofW HT_.out HW_.out (by kernel_rfl)) hHeld ?_
        refine tak 4 (some 80) #[true, true, false, true, true, false, false, false] (take_ofW HT_.out HW_.out (by kernel_rfl)) hHeld ?_
        refine one_ (i := 2) (N := some 78) #[true, true, true, true, true, false, false, false] rfl rfl (one_of HT_.out (by kernel_rfl)) (by decide) (fun K hK => ?_)
        refine gc Try.func79 #[.agg #[.bool t4005, .int .i64 t4006, .int .i64 t4007], .agg #[.bool t4008, .int .i64 t4009, .int .i64 t4010]] (ints_without.calls t4005 t4006 t4007 t4008 t4009 t4010 t4019 t4020 t4021 _ A44.out) ?_
        intro w59 hb
        replace BK4001 := kb BK4001 hb
        replace BK4002 := kb BK4002 hb
        replace BK4003 := kb BK4003 hb
        replace BK4004 := kb BK4004 hb
        replace BK4017 := kb BK4017 hb
        replace BK4018 := kb BK4018 hb
        replace HB := kh HB hb
        (try clear hb)
        refine hK.out _ _ ⟨bc BK4001 0, bc BK4001 1, bc BK4001 2, bc BK4002 0, bc BK4002 1, bc BK4002 2⟩ (fun hHeld => ?_)
        clear hK K
        refine nrm (some 78) ?_
        refine one_ (i := 5) (N := some 81) #[true, true, true, true, true, true, false, false] rfl rfl (one_of HT_.out (by kernel_rfl)) (by decide) (fun K hK => ?_)
        refine gc Try.func79 #[.agg #[.bool t4008, .int .i64 t4009, .int .i64 t4010], .agg #[.bool t4005, .int .i64 t4006, .int .i64 t4007]] (ints_without.calls t4008 t4009 t4010 t4005 t4006 t4007 t4022 t4023 t4024 _ A45.out) ?_
        intro w60 hb
        replace BK4001 := kb BK4001 hb
        replace BK4002 := kb BK4002 hb
        replace BK4003 := kb BK4003 hb
        replace BK4004 := kb BK4004 hb
        replace BK4017 := kb BK4017 hb
        replace BK4018 := kb BK4018 hb
        replace HB := kh HB hb
        (try clear hb)
        refine hK.out _ _ ⟨bc BK4001 0, bc BK4001 1, bc BK4001 2, bc BK4002 0, bc BK4002 1, bc BK4002 2⟩ (fun hHeld => ?_)
        clear hK K
        refine nrm (some 81) ?_
        refine one_ (i := 6) (N := none) #[true, true, true, true, true, true, true, false] rfl rfl (one_of HT_.out (by kernel_rfl)) (by decide) (fun K hK => ?_)
        have hs61 : w60.cell? ⟨gb4017, 0, none⟩ = some (.bool t4005) := bc BK4017 0
        have hfs61 := blk_frozen BK4017.out 0
        have hns61_0 := NB4001_4017.out
        have hns61_1 := NB4002_4017.out
        have hns61_2 := NB4003_4017.out
        have hns61_3 := NB4004_4017.out
        have hns61_5 := NB4018_4017.out
        have hms61_0 := NB4017_4001.out
        have hms61_1 := NB4017_4002.out
        have hms61_2 := NB4017_4003.out
        have hms61_3 := NB4017_4004.out
        have hms61_5 := NB4017_4018.out
        have hs62 : w60.cell? ⟨gb4017, 1, none⟩ = some (.int .i64 t4006) := bc BK4017 1
        have hfs62 := blk_frozen BK4017.out 1
        have hs63 : w60.cell? ⟨gb4017, 2, none⟩ = some (.int .i64 t4007) := bc BK4017 2
        have hfs63 := blk_frozen BK4017.out 2
        refine skip_ (w1 := ?_) (by rfl) rfl ?_ ?_
        rotate_left
        · go_simp
          rfl
        refine hK.out _ _ ⟨cf hHeld.1, cf hHeld.2.1, cf hHeld.2.2.1, cf hHeld.2.2.2.1, cf hHeld.2.2.2.2.1, cf hHeld.2.2.2.2.2⟩ (fun hHeld => ?_)
        clear hK K
        refine one_ (i := 7) (N := none) #[true, true, true, true, true, true, true, true] rfl rfl (one_of HT_.out (by kernel_rfl)) (by decide) (fun K hK => ?_)
        have hs64 : w60.cell? ⟨gb4018, 0, none⟩ = some (.bool t4008) := bc BK4018 0
        have hfs64 := blk_frozen BK4018.out 0
        have hns64_0 := NB4001_4018.out
        have hns64_1 := NB4002_4018.out
        have hns64_2 := NB4003_4018.out
        have hns64_3 := NB4004_4018.out
        have hns64_4 := NB4017_4018.out
        have hms64_0 := NB4018_4001.out
        have hms64_1 := NB4018_4002.out
        have hms64_2 := NB4018_4003.out
        have hms64_3 := NB4018_4004.out
        have hms64_4 := NB4018_4017.out
        have hs65 : w60.cell? ⟨gb4018, 1, none⟩ = some (.int .i64 t4009) := bc BK4018 1
        have hfs65 := blk_frozen BK4018.out 1
        have hs66 : w60.cell? ⟨gb4018, 2, none⟩ = some (.int .i64 t4010) := bc BK4018 2
        have hfs66 := blk_frozen BK4018.out 2
        refine skip_ (w1 := ?_) (by rfl) rfl ?_ ?_
        rotate_left
        · go_simp
          rfl
        refine hK.out _ _ ⟨cf hHeld.1, cf hHeld.2.1, cf hHeld.2.2.1, cf hHeld.2.2.2.1, cf hHeld.2.2.2.2.1, cf hHeld.2.2.2.2.2⟩ (fun hHeld => ?_)
        clear hK K
        refine done_ (done_of HT_.out (by kernel_rfl)) ?_
        go_upto_region 20 with (fail)
        go_cut [87] (fun v87 wc => ∃ (kq : Nat) (x87_45 : Bool), v87 = .bool x87_45 ∧ Aside0 (ints_Test.j1 kq x87_45 t4019 t4020 t4021 t4022 t4023 t4024 = some (r1, r2, r3, r4, r5, r6)) ∧ Aside0 (kq ≤ kj5) ∧ Aside0 (wc.heap[gb4001]? = some (.cells #[.bool t4005, .int .i64 t4006, .int .i64 t4007] 23 (0, 0))) ∧ Aside0 (wc.heap[gb4002]? = some (.cells #[.bool t4008, .int .i64 t4009, .int .i64 t4010] 23 (0, 0))) ∧ Aside0 (wc.heap[gb4003]? = some (.cells #[.bool false, .int .i64 0, .int .i64 0] 23 (0, 0))) ∧ Aside0 (wc.heap[gb4004]? = some (.cells #[.bool false, .int .i64 0, .int .i64 0] 23 (0, 0))) ∧ Aside0 (wc.heap[gb4017]? = some (.cells #[.bool t4019, .int .i64 t4020, .int .i64 t4021] 23 (0, 0))) ∧ Aside0 (wc.heap[gb4018]? = some (.cells #[.bool t4022, .int .i64 t4023, .int .i64 t4024] 23 (0, 0))) ∧ Aside0 (Below w.heap.size w wc))
        case first =>
          have H := HC46.out
          clear HC46
          by_cases c67 : t4019 = true
          · subst c67
            rw [if_pos rfl] at H
            have H' := Aside0.mk H
            clear H
            have hnb68 := NB4017_4001.out
            have hnc68 := NB4001_4017.out
            have hnb69 := NB4017_4002.out
            have hnc69 := NB4002_4017.out
            have hnb70 := NB4017_4003.out
            have hnc70 := NB4003_4017.out
            have hnb71 := NB4017_4004.out
            have hnc71 := NB4004_4017.out
            have hnb72 := NB4017_4018.out
            have hnc72 := NB4018_4017.out
            have ⟨hcz73_0, hcz73_1, hcz73_2, hfz73_0, hfz73_1, hfz73_2⟩ := kz3f BK4017
            go_wp2
            go_meet
            case rel => exact ⟨_, (true), (by first | rfl | (simp; done) | (simp [*]; done)), H', ⟨by have := HJ5.out; first | omega | exact Nat.le_refl _⟩, ⟨pk BK4001⟩, ⟨pk BK4002⟩, ⟨pk BK4003⟩, ⟨pk BK4004⟩, ⟨pK BK4017⟩, ⟨pK BK4018⟩, ⟨pl HB⟩⟩
          · replace c67 := Bool.eq_false_iff.mpr c67
            subst c67
            rw [if_neg (show ¬ (false = true) by decide)] at H
            have H' := Aside0.mk H
            clear H
            have hnb74 := NB4017_4001.out
            have hnc74 := NB4001_4017.out
            have hnb75 := NB4017_4002.out
            have hnc75 := NB4002_4017.out
            have hnb76 := NB4017_4003.out
            have hnc76 := NB4003_4017.out
            have hnb77 := NB4017_4004.out
            have hnc77 := NB4004_4017.out
            have hnb78 := NB4017_4018.out
            have hnc78 := NB4018_4017.out
            have ⟨hcz79_0, hcz79_1, hcz79_2, hfz79_0, hfz79_1, hfz79_2⟩ := kz3f BK4017
            have hnb80 := NB4018_4001.out
            have hnc80 := NB4001_4018.out
            have hnb81 := NB4018_4002.out
            have hnc81 := NB4002_4018.out
            have hnb82 := NB4018_4003.out
            have hnc82 := NB4003_4018.out
            have hnb83 := NB4018_4004.out
            have hnc83 := NB4004_4018.out
            have ⟨hcz84_0, hcz84_1, hcz84_2, hfz84_0, hfz84_1, hfz84_2⟩ := kz3f BK4018
            go_wp2
            go_meet
            case rel => exact ⟨_, (t4022), (by first | rfl | (simp; done) | (simp [*]; done)), H', ⟨by have := HJ5.out; first | omega | exact Nat.le_refl _⟩, ⟨pk BK4001⟩, ⟨pk BK4002⟩, ⟨pk BK4003⟩, ⟨pk BK4004⟩, ⟨pK BK4017⟩, ⟨pK BK4018⟩, ⟨pl HB⟩⟩
        case rest =>
          clear HC46
          try clear p2
          try clear c6
          try clear c7
          try clear c8
          try clear c67
          try clear c68
          try clear c69
          try clear c70
          try clear c71
          try clear c72
          try clear c74
          try clear c75
          try clear c76
          try clear c77
          try clear c78
          try clear c79
          try clear c80
          try clear c81
          try clear c82
          try clear c83
          try clear hcz73_0
          try clear hcz73_1
          try clear hcz73_2
          try clear hcz79_0
          try clear hcz79_1
          try clear hcz79_2
          try clear hcz84_0
          try clear hcz84_1
          try clear hcz84_2
          try clear hfz73_0
          try clear hfz73_1
          try clear hfz73_2
          try clear hfz79_0
          try clear hfz79_1
          try clear hfz79_2
          try clear hfz84_0
          try clear hfz84_1
          try clear hfz84_2
          obtain ⟨kq, x87_45, rfl, HA, HJ45, BK4001, BK4002, BK4003, BK4004, BK4017, BK4018, HB⟩ := hcut
          cases kq with
          | zero => exact absurd HA.out (by simp [ints_Test.j1])
          | succ kj45 =>
            have H := HA.out
            clear HA
            simp only [ints_Test.j1] at H
            by_cases c85 : x87_45 = true
            · subst c85
              rw [if_pos rfl] at H
              obtain ⟨⟨t4025, t4026, t4027⟩, A860, H⟩ := Option.bind_eq_some_iff.mp H
              have A86 := Aside0.mk A860
              clear A860
              (try dsimp only at H)
              obtain ⟨⟨t4028, t4029, t4030⟩, A870, H⟩ := Option.bind_eq_some_iff.mp H
              have A87 := Aside0.mk A870
              clear A870
              (try dsimp only at H)
              simp only [Option.some.injEq, Prod.mk.injEq] at H
              obtain ⟨rfl, rfl, rfl, rfl, rfl, rfl⟩ := H
              go_wp2_with (first | ((with_reducible refine gate_callee (f := 70) rfl ?_); refine kc (some 88) Try.func70 #[] (ints_none.calls  t4025 t4026 t4027 _ A86.out) ?_; intro w88 hb; replace BK4001 := kb BK4001 hb; replace BK4002 := kb BK4002 hb; replace BK4003 := kb BK4003 hb; replace BK4004 := kb BK4004 hb; replace BK4017 := kb BK4017 hb; replace BK4018 := kb BK4018 hb; replace HB := kh HB hb; (try clear hb)) | ((with_reducible refine gate_callee (f := 70) rfl ?_); refine kc (some 89) Try.func70 #[] (ints_none.calls  t4028 t4029 t4030 _ A87.out) ?_; intro w89 hb; replace BK4001 := kb BK4001 hb; replace BK4002 := kb BK4002 hb; replace BK4003 := kb BK4003 hb; replace BK4004 := kb BK4004 hb; replace BK4017 := kb BK4017 hb; replace BK4018 := kb BK4018 hb; replace HB := kh HB hb; (try clear hb); have hnb90 := NB4003_4001.out; have hnc90 := NB4001_4003.out; have hnb91 := NB4003_4002.out; have hnc91 := NB4002_4003.out; have hnb92 := NB4003_4004.out; have hnc92 := NB4004_4003.out; have hnb93 := NB4003_4017.out; have hnc93 := NB4017_4003.out; have hnb94 := NB4003_4018.out; have hnc94 := NB4018_4003.out; have ⟨hcz95_0, hcz95_1, hcz95_2, hfz95_0, hfz95_1, hfz95_2⟩ := kz3f BK4003; have hnb96 := NB4004_4001.out; have hnc96 := NB4001_4004.out; have hnb97 := NB4004_4002.out; have hnc97 := NB4002_4004.out; have hnb98 := NB4004_4017.out; have hnc98 := NB4017_4004.out; have hnb99 := NB4004_4018.out; have hnc99 := NB4018_4004.out; have ⟨hcz100_0, hcz100_1, hcz100_2, hfz100_0, hfz100_1, hfz100_2⟩ := kz3f BK4004))
              refine bodyPost_ret (results_cc rfl _ _ gb4003 gb4004 23 23 #[.bool t4025, .int .i64 t4026, .int .i64 t4027] #[.bool t4028, .int .i64 t4029, .int .i64 t4030] (0, 0) (0, 0) _ _ rfl (pK BK4003) Try.underlying23 rfl (by kernel_rfl) rfl (pK BK4004) Try.underlying23 rfl (by kernel_rfl)) rfl ?_
              exact ⟨pe, pl HB⟩
            · replace c85 := Bool.eq_false_iff.mpr c85
              subst c85
              rw [if_neg (show ¬ (false = true) by decide)] at H
              simp only [Option.some.injEq, Prod.mk.injEq] at H
              obtain ⟨rfl, rfl, rfl, rfl, rfl, rfl⟩ := H
              try go_wp2
              replace BK4001 := Aside0.mk (blk_drew BK4001.out)
              replace BK4002 := Aside0.mk (blk_drew BK4002.out)
              replace BK4003 := Aside0.mk (blk_drew BK4003.out)
              replace BK4004 := Aside0.mk (blk_drew BK4004.out)
              replace BK4017 := Aside0.mk (blk_drew BK4017.out)
              replace BK4018 := Aside0.mk (blk_drew BK4018.out)
              replace HB := Aside0.mk (below_drew1 HB.out)
              refine start_ (n := 4) (S := fun w' => w'.cell? ⟨gb4017, 0, none⟩ = some (.bool t4019) ∧ w'.cell? ⟨gb4017, 1, none⟩ = some (.int .i64 t4020) ∧ w'.cell? ⟨gb4017, 2, none⟩ = some (.int .i64 t4021) ∧ w'.cell? ⟨gb4018, 0, none⟩ = some (.bool t4022) ∧ w'.cell? ⟨gb4018, 1, none⟩ = some (.int .i64 t4023) ∧ w'.cell? ⟨gb4018, 2, none⟩ = some (.int .i64 t4024)) (ds := []) #[false, false, false, false] (by kernel_rfl) rfl rfl ⟨bc BK4017 0, bc BK4017 1, bc BK4017 2, bc BK4018 0, bc BK4018 1, bc BK4018 2⟩ (fun hHeld => ?_)
              generalize wc.drew = w101 at BK4001 BK4002 BK4003 BK4004 BK4017 BK4018 HB hHeld ⊢
              refine tak 0 (some 90) #[true, false, false, false] (by kernel_rfl) hHeld ?_
              refine tak 1 (some 91) #[true, true, false, false] (by kernel_rfl) hHeld ?_
              refine one_ (i := 2) (N := none) #[true, true, true, false] rfl rfl (by kernel_rfl) (by decide) (fun K hK => ?_)
              have hs102 : w101.cell? ⟨gb4003, 0, none⟩ = some (.bool false) := bc BK4003 0
              have hfs102 := blk_frozen BK4003.out 0
              have hns102_0 := NB4001_4003.out
              have hns102_1 := NB4002_4003.out
              have hns102_3 := NB4004_4003.out
              have hns102_4 := NB4017_4003.out
              have hns102_5 := NB4018_4003.out
              have hms102_0 := NB4003_4001.out
              have hms102_1 := NB4003_4002.out
              have hms102_3 := NB4003_4004.out
              have hms102_4 := NB4003_4017.out
              have hms102_5 := NB4003_4018.out
              have hs103 : w101.cell? ⟨gb4003, 1, none⟩ = some (.int .i64 0) := bc BK4003 1
              have hfs103 := blk_frozen BK4003.out 1
              have hs104 : w101.cell? ⟨gb4003, 2, none⟩ = some (.int .i64 0) := bc BK4003 2
              have hfs104 := blk_frozen BK4003.out 2
              refine skip_ (w1 := ?_) (by rfl) rfl ?_ ?_
              rotate_left
              · go_simp
                rfl
              refine hK.out _ _ ⟨cf hHeld.1, cf hHeld.2.1, cf hHeld.2.2.1, cf hHeld.2.2.2.1, cf hHeld.2.2.2.2.1, cf hHeld.2.2.2.2.2⟩ (fun hHeld => ?_)
              clear hK K
              refine one_ (i := 3) (N := none) #[true, true, true, true] rfl rfl (by kernel_rfl) (by decide) (fun K hK => ?_)
              have hs105 : w101.cell? ⟨gb4004, 0, none⟩ = some (.bool false) := bc BK4004 0
              have hfs105 := blk_frozen BK4004.out 0
              have hns105_0 := NB4001_4004.out
              have hns105_1 := NB4002_4004.out
              have hns105_2 := NB4003_4004.out
              have hns105_4 := NB4017_4004.out
              have hns105_5 := NB4018_4004.out
              have hms105_0 := NB4004_4001.out
              have hms105_1 := NB4004_4002.out
              have hms105_2 := NB4004_4003.out
              have hms105_4 := NB4004_4017.out
              have hms105_5 := NB4004_4018.out
              have hs106 : w101.cell? ⟨gb4004, 1, none⟩ = some (.int .i64 0) := bc BK4004 1
              have hfs106 := blk_frozen BK4004.out 1
              have hs107 : w101.cell? ⟨gb4004, 2, none⟩ = some (.int .i64 0) := bc BK4004 2
              have hfs107 := blk_frozen BK4004.out 2
              refine skip_ (w1 := ?_) (by rfl) rfl ?_ ?_
              rotate_left
              · go_simp
                rfl
              refine hK.out _ _ ⟨cf hHeld.1, cf hHeld.2.1, cf hHeld.2.2.1, cf hHeld.2.2.2.1, cf hHeld.2.2.2.2.1, cf hHeld.2.2.2.2.2⟩ (fun hHeld => ?_)
              clear hK K
              refine done_ (by kernel_rfl) ?_
              try go_wp2
              refine bodyPost_ret (results_cc rfl _ _ gb4003 gb4004 23 23 #[.bool t4019, .int .i64 t4020, .int .i64 t4021] #[.bool t4022, .int .i64 t4023, .int .i64 t4024] (0, 0) (0, 0) _ _ rfl (pK BK4003) Try.underlying23 rfl (by kernel_rfl) rfl (pK BK4004) Try.underlying23 rfl (by kernel_rfl)) rfl ?_
              exact ⟨pe, pl HB⟩
end Go.Proofs.Ytinmgnlofininaa.PAll
end
