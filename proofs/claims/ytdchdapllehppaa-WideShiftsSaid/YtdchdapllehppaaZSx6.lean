/- Functions of the print, turned to this claim. -/
import Derived.Test.YtdchdapllehppaaZSW
import Derived.Test.YtdchdapllehppaaZSx0
import Derived.Test.YtdchdapllehppaaZSx5
section
namespace Go.Proofs.Ytdchdapllehppaa.PAll
open Go.RowKit Go.Proofs.YtdchdapllehppaaW.PrintWords Go.Proofs.YtdchdapllehppaaW.PrintLast Go.Proofs.YtdchdapllehppaaW.PrintMore
attribute [local go_sem] max2_int min2_int max_two min_two max_three min_three max_four min_four   -- for this text's walks alone
set_option linter.unusedVariables false
set_option linter.unusedSimpArgs false
/-! ### wide_U128_Mul: function 23 -/
def wide_U128_Mul.f (a0_0 : Int) (a0_1 : Int) (a1 : Int) : Option (Int × Int × Int) := (wide_Mul.f a0_1 a1).bind fun bt1153 => ((wide_Mul.f a0_0 a1).bind fun bt1155 => ((bits_Add64.f bt1153.1 bt1155.2 0).bind fun bt1159 => (some (IntKind.u64.wrap (bt1155.1 + bt1159.2), bt1159.1, bt1153.2))))
def wide_U128_Mul.T1 : Bool × List (List Nat × List Nat) := (true, [([], []), ([0], [0]), ([], []), ([1, 2], [1, 2]), ([], []), ([4], [4]), ([], []), ([5, 6, 3], [5, 6]), ([], []), ([], []), ([8, 3, 7, 0, 1, 2, 3, 8, 9], [3, 8]), ([9, 7, 10, 0, 1, 2, 3, 4, 5, 6, 7, 8, 9, 10], [7, 9])])
def wide_U128_Mul.B1 : List Nat := [0, 1, 0, 7, 0, 16, 0, 127, 0, 0, 1023, 2047]
theorem wide_U128_Mul.tab1 : rtab .any (opsOf Try.f23 1) = wide_U128_Mul.T1 := by kernel_rfl
theorem wide_U128_Mul.bits1 : waitsOk wide_U128_Mul.T1.2 wide_U128_Mul.B1 = true := by kernel_rfl
set_option maxHeartbeats 8000000 in
set_option maxRecDepth 100000 in
theorem wide_U128_Mul.calls (a0_0 : Int) (a0_1 : Int) (a1 : Int) (r1 : Int) (r2 : Int) (r3 : Int) (w : World) (h : wide_U128_Mul.f a0_0 a0_1 a1 = some (r1, r2, r3)) :
    Calls Try.prog 23 #[.agg #[.int .u64 a0_0, .int .u64 a0_1], .int .u64 a1] w fun e w' => e = .returned (.agg #[.int .u64 r1, .int .u64 r2, .int .u64 r3]) ∧ Below w.heap.size w w' := by
  have hu24 := Try.underlying24
  have hu26 := Try.underlying26
  have HB := Aside0.mk (Below.refl w.heap.size w)
  have H := h
  clear h
  unfold wide_U128_Mul.f at H
  obtain ⟨⟨t1153, t1154⟩, A30, H⟩ := Option.bind_eq_some_iff.mp H
  have A3 := Aside0.mk A30
  clear A30
  (try dsimp only at H)
  obtain ⟨⟨t1155, t1156⟩, A40, H⟩ := Option.bind_eq_some_iff.mp H
  have A4 := Aside0.mk A40
  clear A40
  (try dsimp only at H)
  obtain ⟨⟨t1159, t1160⟩, A50, H⟩ := Option.bind_eq_some_iff.mp H
  have A5 := Aside0.mk A50
  clear A50
  (try dsimp only at H)
  simp only [Option.some.injEq, Prod.mk.injEq] at H
  obtain ⟨rfl, rfl, rfl⟩ := H
  go_enter Try.func23, Try.ntmps23
  try go_wp2_with (first | ((with_reducible refine gate_dst (N := 2) rfl ?_); refine kx 2 #[.int .u64 a0_0, .int .u64 a0_1] 24 ?_; intro gb1151 hg w6 hbox hb; have BK1151 := Aside0.mk (hbox); have GW1151 := kg HB hg; have GE1151 := kg HB hg; replace HB := kh HB hb; clear hb hbox hg) | ((with_reducible refine gate_dst (N := 4) rfl ?_); refine kx 4 #[.int .u64 0, .int .u64 0, .int .u64 0] 26 ?_; intro gb1152 hg w7 hbox hb; have BK1152 := Aside0.mk (hbox); have GW1152 := kg HB hg; have GE1152 := kg HB hg; have NB1151_1152 := kn BK1151 hg; have NB1152_1151 := km BK1151 hg; replace BK1151 := kb BK1151 hb; replace HB := kh HB hb; clear hb hbox hg))
  replace BK1151 := Aside0.mk (blk_drew BK1151.out)
  replace BK1152 := Aside0.mk (blk_drew BK1152.out)
  replace HB := Aside0.mk (below_drew1 HB.out)
  refine start_ (n := 12) (S := fun w' => w'.cell? ⟨gb1151, 0, none⟩ = some (.int .u64 a0_0) ∧ w'.cell? ⟨gb1151, 1, none⟩ = some (.int .u64 a0_1)) (ds := []) #[false, false, false, false, false, false, false, false, false, false, false, false] (by kernel_rfl) rfl rfl ⟨bc BK1151 0, bc BK1151 1⟩ (fun hHeld => ?_); refine with_tabW wide_U128_Mul.tab1 wide_U128_Mul.bits1 (fun HT_ HW_ => ?_)
  generalize w7.drew = w8 at BK1151 BK1152 HB hHeld ⊢
  refine pur 0 (some 9) #[true, false, false, false, false, false, false, false, false, false, false, false] (any_of HT_.out (by kernel_rfl)) ?_
  refine pur 2 (some 11) #[true, false, true, false, false, false, false, false, false, false, false, false] (any_of HT_.out (by kernel_rfl)) ?_
  refine pur 4 (some 13) #[true, false, true, false, true, false, false, false, false, false, false, false] (any_of HT_.out (by kernel_rfl)) ?_
  refine pur 6 (some 15) #[true, false, true, false, true, false, true, false, false, false, false, false] (any_of HT_.out (by kernel_rfl)) ?_
  refine tak 1 (some 10) #[true, true, true, false, true, false, true, false, false, false, false, false] (take_ofW HT_.out HW_.out (by kernel_rfl)) hHeld ?_
  refine tak 5 (some 14) #[true, true, true, false, true, true, true, false, false, false, false, false] (take_ofW HT_.out HW_.out (by kernel_rfl)) hHeld ?_
  refine join_ (σ := Nat × Nat) 2 #[true, true, true, true, true, true, true, true, true, true, false, false] (fun s_ => [(12, .agg #[.int .u64 t1153, .int .u64 t1154]), (16, .agg #[.int .u64 t1155, .int .u64 t1156]), (5, .pointer (some ⟨s_.1, 0, none⟩)), (6, .pointer (some ⟨s_.2, 0, none⟩))]) (fun s_ w' => (w'.cell? ⟨gb1151, 0, none⟩ = some (.int .u64 a0_0) ∧ w'.cell? ⟨gb1151, 1, none⟩ = some (.int .u64 a0_1)) ∧ (w'.heap[gb1151]? = some (.cells #[.int .u64 a0_0, .int .u64 a0_1] 24 (0, 0))) ∧ (w'.heap[gb1152]? = some (.cells #[.int .u64 0, .int .u64 0, .int .u64 0] 26 (0, 0))) ∧ (w'.heap[s_.1]? = some (.cells #[.int .u64 0, .int .u64 0] 24 (0, 0))) ∧ (w'.heap[s_.2]? = some (.cells #[.int .u64 0, .int .u64 0] 24 (0, 0))) ∧ (w.heap.size ≤ s_.1) ∧ (w.heap.size ≤ s_.1) ∧ (gb1151 ≠ s_.1) ∧ (s_.1 ≠ gb1151) ∧ (gb1152 ≠ s_.1) ∧ (s_.1 ≠ gb1152) ∧ (s_.2 ≠ s_.1) ∧ (s_.1 ≠ s_.2) ∧ (w.heap.size ≤ s_.2) ∧ (w.heap.size ≤ s_.2) ∧ (gb1151 ≠ s_.2) ∧ (s_.2 ≠ gb1151) ∧ (gb1152 ≠ s_.2) ∧ (s_.2 ≠ gb1152) ∧ (Below w.heap.size w w')) ?_ ?_
  rotate_left
  · intro hJ3_7_8_9
    refine join_ (σ := Nat) 3 #[true, true, true, true, true, true, true, true, true, false, false, false] (fun s_ => [(12, .agg #[.int .u64 t1153, .int .u64 t1154]), (16, .agg #[.int .u64 t1155, .int .u64 t1156]), (5, .pointer (some ⟨s_, 0, none⟩))]) (fun s_ w' => (w'.cell? ⟨gb1151, 0, none⟩ = some (.int .u64 a0_0) ∧ w'.cell? ⟨gb1151, 1, none⟩ = some (.int .u64 a0_1)) ∧ (w'.heap[gb1151]? = some (.cells #[.int .u64 a0_0, .int .u64 a0_1] 24 (0, 0))) ∧ (w'.heap[gb1152]? = some (.cells #[.int .u64 0, .int .u64 0, .int .u64 0] 26 (0, 0))) ∧ (w'.heap[s_]? = some (.cells #[.int .u64 0, .int .u64 0] 24 (0, 0))) ∧ (w.heap.size ≤ s_) ∧ (w.heap.size ≤ s_) ∧ (gb1151 ≠ s_) ∧ (s_ ≠ gb1151) ∧ (gb1152 ≠ s_) ∧ (s_ ≠ gb1152) ∧ (Below w.heap.size w w')) ?_ ?_
    rotate_left
    · intro hJ3_7_8
      refine join_ (σ := Nat) 3 #[true, true, true, true, true, true, true, true, false, true, false, false] (fun s_ => [(12, .agg #[.int .u64 t1153, .int .u64 t1154]), (16, .agg #[.int .u64 t1155, .int .u64 t1156]), (6, .pointer (some ⟨s_, 0, none⟩))]) (fun s_ w' => (w'.cell? ⟨gb1151, 0, none⟩ = some (.int .u64 a0_0) ∧ w'.cell? ⟨gb1151, 1, none⟩ = some (.int .u64 a0_1)) ∧ (w'.heap[gb1151]? = some (.cells #[.int .u64 a0_0, .int .u64 a0_1] 24 (0, 0))) ∧ (w'.heap[gb1152]? = some (.cells #[.int .u64 0, .int .u64 0, .int .u64 0] 26 (0, 0))) ∧ (w'.heap[s_]? = some (.cells #[.int .u64 0, .int .u64 0] 24 (0, 0))) ∧ (w.heap.size ≤ s_) ∧ (w.heap.size ≤ s_) ∧ (gb1151 ≠ s_) ∧ (s_ ≠ gb1151) ∧ (gb1152 ≠ s_) ∧ (s_ ≠ gb1152) ∧ (Below w.heap.size w w')) ?_ ?_
      rotate_left
      · intro hJ3_7_9
        refine join_ (σ := Nat × Nat) 3 #[true, true, true, true, true, true, true, false, true, true, false, false] (fun s_ => [(12, .agg #[.int .u64 t1153, .int .u64 t1154]), (5, .pointer (some ⟨s_.1, 0, none⟩)), (6, .pointer (some ⟨s_.2, 0, none⟩))]) (fun s_ w' => (w'.cell? ⟨gb1151, 0, none⟩ = some (.int .u64 a0_0) ∧ w'.cell? ⟨gb1151, 1, none⟩ = some (.int .u64 a0_1)) ∧ (w'.heap[gb1151]? = some (.cells #[.int .u64 a0_0, .int .u64 a0_1] 24 (0, 0))) ∧ (w'.heap[gb1152]? = some (.cells #[.int .u64 0, .int .u64 0, .int .u64 0] 26 (0, 0))) ∧ (w'.heap[s_.1]? = some (.cells #[.int .u64 0, .int .u64 0] 24 (0, 0))) ∧ (w'.heap[s_.2]? = some (.cells #[.int .u64 0, .int .u64 0] 24 (0, 0))) ∧ (w.heap.size ≤ s_.1) ∧ (w.heap.size ≤ s_.1) ∧ (gb1151 ≠ s_.1) ∧ (s_.1 ≠ gb1151) ∧ (gb1152 ≠ s_.1) ∧ (s_.1 ≠ gb1152) ∧ (s_.2 ≠ s_.1) ∧ (s_.1 ≠ s_.2) ∧ (w.heap.size ≤ s_.2) ∧ (w.heap.size ≤ s_.2) ∧ (gb1151 ≠ s_.2) ∧ (s_.2 ≠ gb1151) ∧ (gb1152 ≠ s_.2) ∧ (s_.2 ≠ gb1152) ∧ (Below w.heap.size w w')) ?_ ?_
        rotate_left
        · intro hJ3_8_9
          refine join_ (σ := Unit) 4 #[true, true, true, true, true, true, true, true, false, false, false, false] (fun s_ => [(12, .agg #[.int .u64 t1153, .int .u64 t1154]), (16, .agg #[.int .u64 t1155, .int .u64 t1156])]) (fun s_ w' => (w'.cell? ⟨gb1151, 0, none⟩ = some (.int .u64 a0_0) ∧ w'.cell? ⟨gb1151, 1, none⟩ = some (.int .u64 a0_1)) ∧ (w'.heap[gb1151]? = some (.cells #[.int .u64 a0_0, .int .u64 a0_1] 24 (0, 0))) ∧ (w'.heap[gb1152]? = some (.cells #[.int .u64 0, .int .u64 0, .int .u64 0] 26 (0, 0))) ∧ (Below w.heap.size w w')) ?_ ?_
          rotate_left
          · intro hJ3_7
            refine join_ (σ := Nat) 4 #[true, true, true, true, true, true, true, false, true, false, false, false] (fun s_ => [(12, .agg #[.int .u64 t1153, .int .u64 t1154]), (5, .pointer (some ⟨s_, 0, none⟩))]) (fun s_ w' => (w'.cell? ⟨gb1151, 0, none⟩ = some (.int .u64 a0_0) ∧ w'.cell? ⟨gb1151, 1, none⟩ = some (.int .u64 a0_1)) ∧ (w'.heap[gb1151]? = some (.cells #[.int .u64 a0_0, .int .u64 a0_1] 24 (0, 0))) ∧ (w'.heap[gb1152]? = some (.cells #[.int .u64 0, .int .u64 0, .int .u64 0] 26 (0, 0))) ∧ (w'.heap[s_]? = some (.cells #[.int .u64 0, .int .u64 0] 24 (0, 0))) ∧ (w.heap.size ≤ s_) ∧ (w.heap.size ≤ s_) ∧ (gb1151 ≠ s_) ∧ (s_ ≠ gb1151) ∧ (gb1152 ≠ s_) ∧ (s_ ≠ gb1152) ∧ (Below w.heap.size w w')) ?_ ?_
            rotate_left
            · intro hJ3_8
              refine join_ (σ := Nat) 4 #[true, true, true, true, true, true, true, false, false, true, false, false] (fun s_ => [(12, .agg #[.int .u64 t1153, .int .u64 t1154]), (6, .pointer (some ⟨s_, 0, none⟩))]) (fun s_ w' => (w'.cell? ⟨gb1151, 0, none⟩ = some (.int .u64 a0_0) ∧ w'.cell? ⟨gb1151, 1, none⟩ = some (.int .u64 a0_1)) ∧ (w'.heap[gb1151]? = some (.cells #[.int .u64 a0_0, .int .u64 a0_1] 24 (0, 0))) ∧ (w'.heap[gb1152]? = some (.cells #[.int .u64 0, .int .u64 0, .int .u64 0] 26 (0, 0))) ∧ (w'.heap[s_]? = some (.cells #[.int .u64 0, .int .u64 0] 24 (0, 0))) ∧ (w.heap.size ≤ s_) ∧ (w.heap.size ≤ s_) ∧ (gb1151 ≠ s_) ∧ (s_ ≠ gb1151) ∧ (gb1152 ≠ s_) ∧ (s_ ≠ gb1152) ∧ (Below w.heap.size w w')) ?_ ?_
              rotate_left
              · intro hJ3_9
                refine join_ (σ := Nat × Nat) 4 #[true, true, true, false, true, true, true, false, true, true, false, false] (fun s_ => [(5, .pointer (some ⟨s_.1, 0, none⟩)), (6, .pointer (some ⟨s_.2, 0, none⟩))]) (fun s_ w' => (w'.cell? ⟨gb1151, 0, none⟩ = some (.int .u64 a0_0) ∧ w'.cell? ⟨gb1151, 1, none⟩ = some (.int .u64 a0_1)) ∧ (w'.heap[gb1151]? = some (.cells #[.int .u64 a0_0, .int .u64 a0_1] 24 (0, 0))) ∧ (w'.heap[gb1152]? = some (.cells #[.int .u64 0, .int .u64 0, .int .u64 0] 26 (0, 0))) ∧ (w'.heap[s_.1]? = some (.cells #[.int .u64 0, .int .u64 0] 24 (0, 0))) ∧ (w'.heap[s_.2]? = some (.cells #[.int .u64 0, .int .u64 0] 24 (0, 0))) ∧ (w.heap.size ≤ s_.1) ∧ (w.heap.size ≤ s_.1) ∧ (gb1151 ≠ s_.1) ∧ (s_.1 ≠ gb1151) ∧ (gb1152 ≠ s_.1) ∧ (s_.1 ≠ gb1152) ∧ (s_.2 ≠ s_.1) ∧ (s_.1 ≠ s_.2) ∧ (w.heap.size ≤ s_.2) ∧ (w.heap.size ≤ s_.2) ∧ (gb1151 ≠ s_.2) ∧ (s_.2 ≠ gb1151) ∧ (gb1152 ≠ s_.2) ∧ (s_.2 ≠ gb1152) ∧ (Below w.heap.size w w')) ?_ ?_
                rotate_left
                · intro hJ8_9
                  refine join_ (σ := Unit) 5 #[true, true, true, true, true, true, true, false, false, false, false, false] (fun s_ => [(12, .agg #[.int .u64 t1153, .int .u64 t1154])]) (fun s_ w' => (w'.cell? ⟨gb1151, 0, none⟩ = some (.int .u64 a0_0) ∧ w'.cell? ⟨gb1151, 1, none⟩ = some (.int .u64 a0_1)) ∧ (w'.heap[gb1151]? = some (.cells #[.int .u64 a0_0, .int .u64 a0_1] 24 (0, 0))) ∧ (w'.heap[gb1152]? = some (.cells #[.int .u64 0, .int .u64 0, .int .u64 0] 26 (0, 0))) ∧ (Below w.heap.size w w')) ?_ ?_
                  rotate_left
                  · intro hJ3
                    refine join_ (σ := Nat) 5 #[true, true, true, false, true, true, true, false, true, false, false, false] (fun s_ => [(5, .pointer (some ⟨s_, 0, none⟩))]) (fun s_ w' => (w'.cell? ⟨gb1151, 0, none⟩ = some (.int .u64 a0_0) ∧ w'.cell? ⟨gb1151, 1, none⟩ = some (.int .u64 a0_1)) ∧ (w'.heap[gb1151]? = some (.cells #[.int .u64 a0_0, .int .u64 a0_1] 24 (0, 0))) ∧ (w'.heap[gb1152]? = some (.cells #[.int .u64 0, .int .u64 0, .int .u64 0] 26 (0, 0))) ∧ (w'.heap[s_]? = some (.cells #[.int .u64 0, .int .u64 0] 24 (0, 0))) ∧ (w.heap.size ≤ s_) ∧ (w.heap.size ≤ s_) ∧ (gb1151 ≠ s_) ∧ (s_ ≠ gb1151) ∧ (gb1152 ≠ s_) ∧ (s_ ≠ gb1152) ∧ (Below w.heap.size w w')) ?_ ?_
                    rotate_left
                    · intro hJ8
                      refine join_ (σ := Nat) 5 #[true, true, true, false, true, true, true, false, false, true, false, false] (fun s_ => [(6, .pointer (some ⟨s_, 0, none⟩))]) (fun s_ w' => (w'.cell? ⟨gb1151, 0, none⟩ = some (.int .u64 a0_0) ∧ w'.cell? ⟨gb1151, 1, none⟩ = some (.int .u64 a0_1)) ∧ (w'.heap[gb1151]? = some (.cells #[.int .u64 a0_0, .int .u64 a0_1] 24 (0, 0))) ∧ (w'.heap[gb1152]? = some (.cells #[.int .u64 0, .int .u64 0, .int .u64 0] 26 (0, 0))) ∧ (w'.heap[s_]? = some (.cells #[.int .u64 0, .int .u64 0] 24 (0, 0))) ∧ (w.heap.size ≤ s_) ∧ (w.heap.size ≤ s_) ∧ (gb1151 ≠ s_) ∧ (s_ ≠ gb1151) ∧ (gb1152 ≠ s_) ∧ (s_ ≠ gb1152) ∧ (Below w.heap.size w w')) ?_ ?_
                      rotate_left
                      · intro hJ9
                        refine three_ (i := 3) (j := 8) (k := 9) (Ni := some 12) (Nj := some 5) (Nk := some 6) #[true, true, true, true, true, true, true, false, false, false, false, false] #[true, true, true, false, true, true, true, false, true, false, false, false] #[true, true, true, false, true, true, true, false, false, true, false, false] rfl rfl rfl rfl rfl rfl (three_of HT_.out (by kernel_rfl)) (by decide) (by decide) (by decide) (fun K hK => ?_) (fun K hK => ?_) (fun K hK => ?_)
                        · skip
                          refine gc Try.func27 #[.int .u64 a0_1, .int .u64 a1] (wide_Mul.calls a0_1 a1 t1153 t1154 _ A3.out) ?_
                          intro w9 hb
                          replace BK1151 := kb BK1151 hb
                          replace BK1152 := kb BK1152 hb
                          replace HB := kh HB hb
                          (try clear hb)
                          refine hK.out _ _ ⟨bc BK1151 0, bc BK1151 1⟩ (fun hHeld => ?_)
                          clear hK K
                          refine nrm (some 12) ?_
                          exact norm_ (by first | (simp only [putAll, Act.put, List.setIfInBounds_toArray, List.set_cons_zero, List.set_cons_succ]; done) | (simp only [putAll, Act.put, List.setIfInBounds_toArray, List.set_cons_zero, List.set_cons_succ]; rfl)) (hJ3 () _ ⟨hHeld, (pk BK1151), (pk BK1152), (pl HB)⟩)
                        · skip
                          refine box_step ?hg (N := 5) ?hd (cs := #[.int .u64 0, .int .u64 0]) (t := 24) ?hr ?_; (case hd => rfl); (case hg => rfl); (case hr => first | (go_simp; done) | (go_simp; rfl))
                          intro gb1157 hg w9 hbox hb
                          have BK1157 := Aside0.mk (hbox)
                          have GW1157 := kg HB hg
                          have GE1157 := kg HB hg
                          have NB1151_1157 := kn BK1151 hg
                          have NB1157_1151 := km BK1151 hg
                          have NB1152_1157 := kn BK1152 hg
                          have NB1157_1152 := km BK1152 hg
                          replace BK1151 := kb BK1151 hb
                          replace BK1152 := kb BK1152 hb
                          replace HB := kh HB hb
                          clear hb hbox hg
                          refine hK.out _ _ ⟨bc BK1151 0, bc BK1151 1⟩ (fun hHeld => ?_)
                          clear hK K
                          refine nrm (some 5) ?_
                          exact norm_ (by first | (simp only [putAll, Act.put, List.setIfInBounds_toArray, List.set_cons_zero, List.set_cons_succ]; done) | (simp only [putAll, Act.put, List.setIfInBounds_toArray, List.set_cons_zero, List.set_cons_succ]; rfl)) (hJ8 (gb1157) _ ⟨hHeld, (pk BK1151), (pk BK1152), (pk BK1157), GW1157.out, GE1157.out, NB1151_1157.out, NB1157_1151.out, NB1152_1157.out, NB1157_1152.out, (pl HB)⟩)
                        · skip
                          refine box_step ?hg (N := 6) ?hd (cs := #[.int .u64 0, .int .u64 0]) (t := 24) ?hr ?_; (case hd => rfl); (case hg => rfl); (case hr => first | (go_simp; done) | (go_simp; rfl))
                          intro gb1158 hg w9 hbox hb
                          have BK1158 := Aside0.mk (hbox)
                          have GW1158 := kg HB hg
                          have GE1158 := kg HB hg
                          have NB1151_1158 := kn BK1151 hg
                          have NB1158_1151 := km BK1151 hg
                          have NB1152_1158 := kn BK1152 hg
                          have NB1158_1152 := km BK1152 hg
                          replace BK1151 := kb BK1151 hb
                          replace BK1152 := kb BK1152 hb
                          replace HB := kh HB hb
                          clear hb hbox hg
                          refine hK.out _ _ ⟨bc BK1151 0, bc BK1151 1⟩ (fun hHeld => ?_)
                          clear hK K
                          refine nrm (some 6) ?_
                          exact norm_ (by first | (simp only [putAll, Act.put, List.setIfInBounds_toArray, List.set_cons_zero, List.set_cons_succ]; done) | (simp only [putAll, Act.put, List.setIfInBounds_toArray, List.set_cons_zero, List.set_cons_succ]; rfl)) (hJ9 (gb1158) _ ⟨hHeld, (pk BK1151), (pk BK1152), (pk BK1158), GW1158.out, GE1158.out, NB1151_1158.out, NB1158_1151.out, NB1152_1158.out, NB1158_1152.out, (pl HB)⟩)
                      · skip
                        rintro gb1158 w10 ⟨hS_, h0_, h1_, h2_, h3_, h4_, h5_, h6_, h7_, h8_, h9_⟩
                        have n0_ : Aside0 (w10.heap[gb1151]? = some (.cells #[.int .u64 a0_0, .int .u64 a0_1] 24 (0, 0))) := ⟨h0_⟩
                        have n1_ : Aside0 (w10.heap[gb1152]? = some (.cells #[.int .u64 0, .int .u64 0, .int .u64 0] 26 (0, 0))) := ⟨h1_⟩
                        have n2_ : Aside0 (w10.heap[gb1158]? = some (.cells #[.int .u64 0, .int .u64 0] 24 (0, 0))) := ⟨h2_⟩
                        have n3_ : Aside0 (w.heap.size ≤ gb1158) := ⟨h3_⟩
                        have n4_ : Aside0 (w.heap.size ≤ gb1158) := ⟨h4_⟩
                        have n5_ : Aside0 (gb1151 ≠ gb1158) := ⟨h5_⟩
                        have n6_ : Aside0 (gb1158 ≠ gb1151) := ⟨h6_⟩
                        have n7_ : Aside0 (gb1152 ≠ gb1158) := ⟨h7_⟩
                        have n8_ : Aside0 (gb1158 ≠ gb1152) := ⟨h8_⟩
                        have n9_ : Aside0 (Below w.heap.size w w10) := ⟨h9_⟩
                        clear BK1151
                        clear BK1152
                        clear HB
                        clear h0_ h1_ h2_ h3_ h4_ h5_ h6_ h7_ h8_ h9_
                        have BK1151 := n0_
                        have BK1152 := n1_
                        have BK1158 := n2_
                        have GW1158 := n3_
                        have GE1158 := n4_
                        have NB1151_1158 := n5_
                        have NB1158_1151 := n6_
                        have NB1152_1158 := n7_
                        have NB1158_1152 := n8_
                        have HB := n9_
                        clear n0_ n1_ n2_ n3_ n4_ n5_ n6_ n7_ n8_ n9_
                        have hHeld : w10.cell? ⟨gb1151, 0, none⟩ = some (.int .u64 a0_0) ∧ w10.cell? ⟨gb1151, 1, none⟩ = some (.int .u64 a0_1) := hS_
                        refine norm_ (a' := ?_) ?_ ?_
                        rotate_left
                        · simp only [putAll, Act.put, List.setIfInBounds_toArray, List.set_cons_zero, List.set_cons_succ]
                          rfl
                        refine two_ (i := 3) (j := 8) (Ni := some 12) (Nj := some 5) #[true, true, true, true, true, true, true, false, false, true, false, false] #[true, true, true, false, true, true, true, false, true, true, false, false] rfl rfl rfl rfl (two_of HT_.out (by kernel_rfl)) (by decide) (by decide) (fun K hK => ?_) (fun K hK => ?_)
                        · skip
                          refine gc Try.func27 #[.int .u64 a0_1, .int .u64 a1] (wide_Mul.calls a0_1 a1 t1153 t1154 _ A3.out) ?_
                          intro w11 hb
                          replace BK1151 := kb BK1151 hb
                          replace BK1152 := kb BK1152 hb
                          replace BK1158 := kb BK1158 hb
                          replace HB := kh HB hb
                          (try clear hb)
                          refine hK.out _ _ ⟨bc BK1151 0, bc BK1151 1⟩ (fun hHeld => ?_)
                          clear hK K
                          refine nrm (some 12) ?_
                          exact norm_ (by first | (simp only [putAll, Act.put, List.setIfInBounds_toArray, List.set_cons_zero, List.set_cons_succ]; done) | (simp only [putAll, Act.put, List.setIfInBounds_toArray, List.set_cons_zero, List.set_cons_succ]; rfl)) (hJ3_9 (gb1158) _ ⟨hHeld, (pk BK1151), (pk BK1152), (pk BK1158), GW1158.out, GE1158.out, NB1151_1158.out, NB1158_1151.out, NB1152_1158.out, NB1158_1152.out, (pl HB)⟩)
                        · skip
                          refine box_step ?hg (N := 5) ?hd (cs := #[.int .u64 0, .int .u64 0]) (t := 24) ?hr ?_; (case hd => rfl); (case hg => rfl); (case hr => first | (go_simp; done) | (go_simp; rfl))
                          intro gb1157 hg w11 hbox hb
                          have BK1157 := Aside0.mk (hbox)
                          have GW1157 := kg HB hg
                          have GE1157 := kg HB hg
                          have NB1151_1157 := kn BK1151 hg
                          have NB1157_1151 := km BK1151 hg
                          have NB1152_1157 := kn BK1152 hg
                          have NB1157_1152 := km BK1152 hg
                          have NB1158_1157 := kn BK1158 hg
                          have NB1157_1158 := km BK1158 hg
                          replace BK1151 := kb BK1151 hb
                          replace BK1152 := kb BK1152 hb
                          replace BK1158 := kb BK1158 hb
                          replace HB := kh HB hb
                          clear hb hbox hg
                          refine hK.out _ _ ⟨bc BK1151 0, bc BK1151 1⟩ (fun hHeld => ?_)
                          clear hK K
                          refine nrm (some 5) ?_
                          exact norm_ (by first | (simp only [putAll, Act.put, List.setIfInBounds_toArray, List.set_cons_zero, List.set_cons_succ]; done) | (simp only [putAll, Act.put, List.setIfInBounds_toArray, List.set_cons_zero, List.set_cons_succ]; rfl)) (hJ8_9 (gb1157, gb1158) _ ⟨hHeld, (pk BK1151), (pk BK1152), (pk BK1157), (pk BK1158), GW1157.out, GE1157.out, NB1151_1157.out, NB1157_1151.out, NB1152_1157.out, NB1157_1152.out, NB1158_1157.out, NB1157_1158.out, GW1158.out, GE1158.out, NB1151_1158.out, NB1158_1151.out, NB1152_1158.out, NB1158_1152.out, (pl HB)⟩)
                    · skip
                      rintro gb1157 w10 ⟨hS_, h0_, h1_, h2_, h3_, h4_, h5_, h6_, h7_, h8_, h9_⟩
                      have n0_ : Aside0 (w10.heap[gb1151]? = some (.cells #[.int .u64 a0_0, .int .u64 a0_1] 24 (0, 0))) := ⟨h0_⟩
                      have n1_ : Aside0 (w10.heap[gb1152]? = some (.cells #[.int .u64 0, .int .u64 0, .int .u64 0] 26 (0, 0))) := ⟨h1_⟩
                      have n2_ : Aside0 (w10.heap[gb1157]? = some (.cells #[.int .u64 0, .int .u64 0] 24 (0, 0))) := ⟨h2_⟩
                      have n3_ : Aside0 (w.heap.size ≤ gb1157) := ⟨h3_⟩
                      have n4_ : Aside0 (w.heap.size ≤ gb1157) := ⟨h4_⟩
                      have n5_ : Aside0 (gb1151 ≠ gb1157) := ⟨h5_⟩
                      have n6_ : Aside0 (gb1157 ≠ gb1151) := ⟨h6_⟩
                      have n7_ : Aside0 (gb1152 ≠ gb1157) := ⟨h7_⟩
                      have n8_ : Aside0 (gb1157 ≠ gb1152) := ⟨h8_⟩
                      have n9_ : Aside0 (Below w.heap.size w w10) := ⟨h9_⟩
                      clear BK1151
                      clear BK1152
                      clear HB
                      clear h0_ h1_ h2_ h3_ h4_ h5_ h6_ h7_ h8_ h9_
                      have BK1151 := n0_
                      have BK1152 := n1_
                      have BK1157 := n2_
                      have GW1157 := n3_
                      have GE1157 := n4_
                      have NB1151_1157 := n5_
                      have NB1157_1151 := n6_
                      have NB1152_1157 := n7_
                      have NB1157_1152 := n8_
                      have HB := n9_
                      clear n0_ n1_ n2_ n3_ n4_ n5_ n6_ n7_ n8_ n9_
                      have hHeld : w10.cell? ⟨gb1151, 0, none⟩ = some (.int .u64 a0_0) ∧ w10.cell? ⟨gb1151, 1, none⟩ = some (.int .u64 a0_1) := hS_
                      refine norm_ (a' := ?_) ?_ ?_
                      rotate_left
                      · simp only [putAll, Act.put, List.setIfInBounds_toArray, List.set_cons_zero, List.set_cons_succ]
                        rfl
                      refine two_ (i := 3) (j := 9) (Ni := some 12) (Nj := some 6) #[true, true, true, true, true, true, true, false, true, false, false, false] #[true, true, true, false, true, true, true, false, true, true, false, false] rfl rfl rfl rfl (two_of HT_.out (by kernel_rfl)) (by decide) (by decide) (fun K hK => ?_) (fun K hK => ?_)
                      · skip
                        refine gc Try.func27 #[.int .u64 a0_1, .int .u64 a1] (wide_Mul.calls a0_1 a1 t1153 t1154 _ A3.out) ?_
                        intro w11 hb
                        replace BK1151 := kb BK1151 hb
                        replace BK1152 := kb BK1152 hb
                        replace BK1157 := kb BK1157 hb
                        replace HB := kh HB hb
                        (try clear hb)
                        refine hK.out _ _ ⟨bc BK1151 0, bc BK1151 1⟩ (fun hHeld => ?_)
                        clear hK K
                        refine nrm (some 12) ?_
                        exact norm_ (by first | (simp only [putAll, Act.put, List.setIfInBounds_toArray, List.set_cons_zero, List.set_cons_succ]; done) | (simp only [putAll, Act.put, List.setIfInBounds_toArray, List.set_cons_zero, List.set_cons_succ]; rfl)) (hJ3_8 (gb1157) _ ⟨hHeld, (pk BK1151), (pk BK1152), (pk BK1157), GW1157.out, GE1157.out, NB1151_1157.out, NB1157_1151.out, NB1152_1157.out, NB1157_1152.out, (pl HB)⟩)
                      · skip
                        refine box_step ?hg (N := 6) ?hd (cs := #[.int .u64 0, .int .u64 0]) (t := 24) ?hr ?_; (case hd => rfl); (case hg => rfl); (case hr => first | (go_simp; done) | (go_simp; rfl))
                        intro gb1158 hg w11 hbox hb
                        have BK1158 := Aside0.mk (hbox)
                        have GW1158 := kg HB hg
                        have GE1158 := kg HB hg
                        have NB1151_1158 := kn BK1151 hg
                        have NB1158_1151 := km BK1151 hg
                        have NB1152_1158 := kn BK1152 hg
                        have NB1158_1152 := km BK1152 hg
                        have NB1157_1158 := kn BK1157 hg
                        have NB1158_1157 := km BK1157 hg
                        replace BK1151 := kb BK1151 hb
                        replace BK1152 := kb BK1152 hb
                        replace BK1157 := kb BK1157 hb
                        replace HB := kh HB hb
                        clear hb hbox hg
                        refine hK.out _ _ ⟨bc BK1151 0, bc BK1151 1⟩ (fun hHeld => ?_)
                        clear hK K
                        refine nrm (some 6) ?_
                        exact norm_ (by first | (simp only [putAll, Act.put, List.setIfInBounds_toArray, List.set_cons_zero, List.set_cons_succ]; done) | (simp only [putAll, Act.put, List.setIfInBounds_toArray, List.set_cons_zero, List.set_cons_succ]; rfl)) (hJ8_9 (gb1157, gb1158) _ ⟨hHeld, (pk BK1151), (pk BK1152), (pk BK1157), (pk BK1158), GW1157.out, GE1157.out, NB1151_1157.out, NB1157_1151.out, NB1152_1157.out, NB1157_1152.out, NB1158_1157.out, NB1157_1158.out, GW1158.out, GE1158.out, NB1151_1158.out, NB1158_1151.out, NB1152_1158.out, NB1158_1152.out, (pl HB)⟩)
                  · skip
                    rintro _ w10 ⟨hS_, h0_, h1_, h2_⟩
                    have n0_ : Aside0 (w10.heap[gb1151]? = some (.cells #[.int .u64 a0_0, .int .u64 a0_1] 24 (0, 0))) := ⟨h0_⟩
                    have n1_ : Aside0 (w10.heap[gb1152]? = some (.cells #[.int .u64 0, .int .u64 0, .int .u64 0] 26 (0, 0))) := ⟨h1_⟩
                    have n2_ : Aside0 (Below w.heap.size w w10) := ⟨h2_⟩
                    clear BK1151
                    clear BK1152
                    clear HB
                    clear h0_ h1_ h2_
                    have BK1151 := n0_
                    have BK1152 := n1_
                    have HB := n2_
                    clear n0_ n1_ n2_
                    have hHeld : w10.cell? ⟨gb1151, 0, none⟩ = some (.int .u64 a0_0) ∧ w10.cell? ⟨gb1151, 1, none⟩ = some (.int .u64 a0_1) := hS_
                    refine norm_ (a' := ?_) ?_ ?_
                    rotate_left
                    · simp only [putAll, Act.put, List.setIfInBounds_toArray, List.set_cons_zero, List.set_cons_succ]
                      rfl
                    refine three_ (i := 7) (j := 8) (k := 9) (Ni := some 16) (Nj := some 5) (Nk := some 6) #[true, true, true, true, true, true, true, true, false, false, false, false] #[true, true, true, true, true, true, true, false, true, false, false, false] #[true, true, true, true, true, true, true, false, false, true, false, false] rfl rfl rfl rfl rfl rfl (three_of HT_.out (by kernel_rfl)) (by decide) (by decide) (by decide) (fun K hK => ?_) (fun K hK => ?_) (fun K hK => ?_)
                    · skip
                      refine gc Try.func27 #[.int .u64 a0_0, .int .u64 a1] (wide_Mul.calls a0_0 a1 t1155 t1156 _ A4.out) ?_
                      intro w11 hb
                      replace BK1151 := kb BK1151 hb
                      replace BK1152 := kb BK1152 hb
                      replace HB := kh HB hb
                      (try clear hb)
                      refine hK.out _ _ ⟨bc BK1151 0, bc BK1151 1⟩ (fun hHeld => ?_)
                      clear hK K
                      refine nrm (some 16) ?_
                      exact norm_ (by first | (simp only [putAll, Act.put, List.setIfInBounds_toArray, List.set_cons_zero, List.set_cons_succ]; done) | (simp only [putAll, Act.put, List.setIfInBounds_toArray, List.set_cons_zero, List.set_cons_succ]; rfl)) (hJ3_7 () _ ⟨hHeld, (pk BK1151), (pk BK1152), (pl HB)⟩)
                    · skip
                      refine box_step ?hg (N := 5) ?hd (cs := #[.int .u64 0, .int .u64 0]) (t := 24) ?hr ?_; (case hd => rfl); (case hg => rfl); (case hr => first | (go_simp; done) | (go_simp; rfl))
                      intro gb1157 hg w11 hbox hb
                      have BK1157 := Aside0.mk (hbox)
                      have GW1157 := kg HB hg
                      have GE1157 := kg HB hg
                      have NB1151_1157 := kn BK1151 hg
                      have NB1157_1151 := km BK1151 hg
                      have NB1152_1157 := kn BK1152 hg
                      have NB1157_1152 := km BK1152 hg
                      replace BK1151 := kb BK1151 hb
                      replace BK1152 := kb BK1152 hb
                      replace HB := kh HB hb
                      clear hb hbox hg
                      refine hK.out _ _ ⟨bc BK1151 0, bc BK1151 1⟩ (fun hHeld => ?_)
                      clear hK K
                      refine nrm (some 5) ?_
                      exact norm_ (by first | (simp only [putAll, Act.put, List.setIfInBounds_toArray, List.set_cons_zero, List.set_cons_succ]; done) | (simp only [putAll, Act.put, List.setIfInBounds_toArray, List.set_cons_zero, List.set_cons_succ]; rfl)) (hJ3_8 (gb1157) _ ⟨hHeld, (pk BK1151), (pk BK1152), (pk BK1157), GW1157.out, GE1157.out, NB1151_1157.out, NB1157_1151.out, NB1152_1157.out, NB1157_1152.out, (pl HB)⟩)
                    · skip
                      refine box_step ?hg (N := 6) ?hd (cs := #[.int .u64 0, .int .u64 0]) (t := 24) ?hr ?_; (case hd => rfl); (case hg => rfl); (case hr => first | (go_simp; done) | (go_simp; rfl))
                      intro gb1158 hg w11 hbox hb
                      have BK1158 := Aside0.mk (hbox)
                      have GW1158 := kg HB hg
                      have GE1158 := kg HB hg
                      have NB1151_1158 := kn BK1151 hg
                      have NB1158_1151 := km BK1151 hg
                      have NB1152_1158 := kn BK1152 hg
                      have NB1158_1152 := km BK1152 hg
                      replace BK1151 := kb BK1151 hb
                      replace BK1152 := kb BK1152 hb
                      replace HB := kh HB hb
                      clear hb hbox hg
                      refine hK.out _ _ ⟨bc BK1151 0, bc BK1151 1⟩ (fun hHeld => ?_)
                      clear hK K
                      refine nrm (some 6) ?_
                      exact norm_ (by first | (simp only [putAll, Act.put, List.setIfInBounds_toArray, List.set_cons_zero, List.set_cons_succ]; done) | (simp only [putAll, Act.put, List.setIfInBounds_toArray, List.set_cons_zero, List.set_cons_succ]; rfl)) (hJ3_9 (gb1158) _ ⟨hHeld, (pk BK1151), (pk BK1152), (pk BK1158), GW1158.out, GE1158.out, NB1151_1158.out, NB1158_1151.out, NB1152_1158.out, NB1158_1152.out, (pl HB)⟩)
                · skip
                  rintro ⟨gb1157, gb1158⟩ w11 ⟨hS_, h0_, h1_, h2_, h3_, h4_, h5_, h6_, h7_, h8_, h9_, h10_, h11_, h12_, h13_, h14_, h15_, h16_, h17_, h18_⟩
                  have n0_ : Aside0 (w11.heap[gb1151]? = some (.cells #[.int .u64 a0_0, .int .u64 a0_1] 24 (0, 0))) := ⟨h0_⟩
                  have n1_ : Aside0 (w11.heap[gb1152]? = some (.cells #[.int .u64 0, .int .u64 0, .int .u64 0] 26 (0, 0))) := ⟨h1_⟩
                  have n2_ : Aside0 (w11.heap[gb1157]? = some (.cells #[.int .u64 0, .int .u64 0] 24 (0, 0))) := ⟨h2_⟩
                  have n3_ : Aside0 (w11.heap[gb1158]? = some (.cells #[.int .u64 0, .int .u64 0] 24 (0, 0))) := ⟨h3_⟩
                  have n4_ : Aside0 (w.heap.size ≤ gb1157) := ⟨h4_⟩
                  have n5_ : Aside0 (w.heap.size ≤ gb1157) := ⟨h5_⟩
                  have n6_ : Aside0 (gb1151 ≠ gb1157) := ⟨h6_⟩
                  have n7_ : Aside0 (gb1157 ≠ gb1151) := ⟨h7_⟩
                  have n8_ : Aside0 (gb1152 ≠ gb1157) := ⟨h8_⟩
                  have n9_ : Aside0 (gb1157 ≠ gb1152) := ⟨h9_⟩
                  have n10_ : Aside0 (gb1158 ≠ gb1157) := ⟨h10_⟩
                  have n11_ : Aside0 (gb1157 ≠ gb1158) := ⟨h11_⟩
                  have n12_ : Aside0 (w.heap.size ≤ gb1158) := ⟨h12_⟩
                  have n13_ : Aside0 (w.heap.size ≤ gb1158) := ⟨h13_⟩
                  have n14_ : Aside0 (gb1151 ≠ gb1158) := ⟨h14_⟩
                  have n15_ : Aside0 (gb1158 ≠ gb1151) := ⟨h15_⟩
                  have n16_ : Aside0 (gb1152 ≠ gb1158) := ⟨h16_⟩
                  have n17_ : Aside0 (gb1158 ≠ gb1152) := ⟨h17_⟩
                  have n18_ : Aside0 (Below w.heap.size w w11) := ⟨h18_⟩
                  clear BK1151
                  clear BK1152
                  clear HB
                  clear h0_ h1_ h2_ h3_ h4_ h5_ h6_ h7_ h8_ h9_ h10_ h11_ h12_ h13_ h14_ h15_ h16_ h17_ h18_
                  have BK1151 := n0_
                  have BK1152 := n1_
                  have BK1157 := n2_
                  have BK1158 := n3_
                  have GW1157 := n4_
                  have GE1157 := n5_
                  have NB1151_1157 := n6_
                  have NB1157_1151 := n7_
                  have NB1152_1157 := n8_
                  have NB1157_1152 := n9_
                  have NB1158_1157 := n10_
                  have NB1157_1158 := n11_
                  have GW1158 := n12_
                  have GE1158 := n13_
                  have NB1151_1158 := n14_
                  have NB1158_1151 := n15_
                  have NB1152_1158 := n16_
                  have NB1158_1152 := n17_
                  have HB := n18_
                  clear n0_ n1_ n2_ n3_ n4_ n5_ n6_ n7_ n8_ n9_ n10_ n11_ n12_ n13_ n14_ n15_ n16_ n17_ n18_
                  have hHeld : w11.cell? ⟨gb1151, 0, none⟩ = some (.int .u64 a0_0) ∧ w11.cell? ⟨gb1151, 1, none⟩ = some (.int .u64 a0_1) := hS_
                  refine norm_ (a' := ?_) ?_ ?_
                  rotate_left
                  · simp only [putAll, Act.put, List.setIfInBounds_toArray, List.set_cons_zero, List.set_cons_succ]
                    rfl
                  refine one_ (i := 3) (N := some 12) #[true, true, true, true, true, true, true, false, true, true, false, false] rfl rfl (one_of HT_.out (by kernel_rfl)) (by decide) (fun K hK => ?_)
                  refine gc Try.func27 #[.int .u64 a0_1, .int .u64 a1] (wide_Mul.calls a0_1 a1 t1153 t1154 _ A3.out) ?_
                  intro w12 hb
                  replace BK1151 := kb BK1151 hb
                  replace BK1152 := kb BK1152 hb
                  replace BK1157 := kb BK1157 hb
                  replace BK1158 := kb BK1158 hb
                  replace HB := kh HB hb
                  (try clear hb)
                  refine hK.out _ _ ⟨bc BK1151 0, bc BK1151 1⟩ (fun hHeld => ?_)
                  clear hK K
                  refine nrm (some 12) ?_
                  exact norm_ (by first | (simp only [putAll, Act.put, List.setIfInBounds_toArray, List.set_cons_zero, List.set_cons_succ]; done) | (simp only [putAll, Act.put, List.setIfInBounds_toArray, List.set_cons_zero, List.set_cons_succ]; rfl)) (hJ3_8_9 (gb1157, gb1158) _ ⟨hHeld, (pk BK1151), (pk BK1152), (pk BK1157), (pk BK1158), GW1157.out, GE1157.out, NB1151_1157.out, NB1157_1151.out, NB1152_1157.out, NB1157_1152.out, NB1158_1157.out, NB1157_1158.out, GW1158.out, GE1158.out, NB1151_1158.out, NB1158_1151.out, NB1152_1158.out, NB1158_1152.out, (pl HB)⟩)
              · skip
                rintro gb1158 w11 ⟨hS_, h0_, h1_, h2_, h3_, h4_, h5_, h6_, h7_, h8_, h9_⟩
                have n0_ : Aside0 (w11.heap[gb1151]? = some (.cells #[.int .u64 a0_0, .int .u64 a0_1] 24 (0, 0))) := ⟨h0_⟩
                have n1_ : Aside0 (w11.heap[gb1152]? = some (.cells #[.int .u64 0, .int .u64 0, .int .u64 0] 26 (0, 0))) := ⟨h1_⟩
                have n2_ : Aside0 (w11.heap[gb1158]? = some (.cells #[.int .u64 0, .int .u64 0] 24 (0, 0))) := ⟨h2_⟩
                have n3_ : Aside0 (w.heap.size ≤ gb1158) := ⟨h3_⟩
                have n4_ : Aside0 (w.heap.size ≤ gb1158) := ⟨h4_⟩
                have n5_ : Aside0 (gb1151 ≠ gb1158) := ⟨h5_⟩
                have n6_ : Aside0 (gb1158 ≠ gb1151) := ⟨h6_⟩
                have n7_ : Aside0 (gb1152 ≠ gb1158) := ⟨h7_⟩
                have n8_ : Aside0 (gb1158 ≠ gb1152) := ⟨h8_⟩
                have n9_ : Aside0 (Below w.heap.size w w11) := ⟨h9_⟩
                clear BK1151
                clear BK1152
                clear HB
                clear h0_ h1_ h2_ h3_ h4_ h5_ h6_ h7_ h8_ h9_
                have BK1151 := n0_
                have BK1152 := n1_
                have BK1158 := n2_
                have GW1158 := n3_
                have GE1158 := n4_
                have NB1151_1158 := n5_
                have NB1158_1151 := n6_
                have NB1152_1158 := n7_
                have NB1158_1152 := n8_
                have HB := n9_
                clear n0_ n1_ n2_ n3_ n4_ n5_ n6_ n7_ n8_ n9_
                have hHeld : w11.cell? ⟨gb1151, 0, none⟩ = some (.int .u64 a0_0) ∧ w11.cell? ⟨gb1151, 1, none⟩ = some (.int .u64 a0_1) := hS_
                refine norm_ (a' := ?_) ?_ ?_
                rotate_left
                · simp only [putAll, Act.put, List.setIfInBounds_toArray, List.set_cons_zero, List.set_cons_succ]
                  rfl
                refine two_ (i := 7) (j := 8) (Ni := some 16) (Nj := some 5) #[true, true, true, true, true, true, true, true, false, true, false, false] #[true, true, true, true, true, true, true, false, true, true, false, false] rfl rfl rfl rfl (two_of HT_.out (by kernel_rfl)) (by decide) (by decide) (fun K hK => ?_) (fun K hK => ?_)
                · skip
                  refine gc Try.func27 #[.int .u64 a0_0, .int .u64 a1] (wide_Mul.calls a0_0 a1 t1155 t1156 _ A4.out) ?_
                  intro w12 hb
                  replace BK1151 := kb BK1151 hb
                  replace BK1152 := kb BK1152 hb
                  replace BK1158 := kb BK1158 hb
                  replace HB := kh HB hb
                  (try clear hb)
                  refine hK.out _ _ ⟨bc BK1151 0, bc BK1151 1⟩ (fun hHeld => ?_)
                  clear hK K
                  refine nrm (some 16) ?_
                  exact norm_ (by first | (simp only [putAll, Act.put, List.setIfInBounds_toArray, List.set_cons_zero, List.set_cons_succ]; done) | (simp only [putAll, Act.put, List.setIfInBounds_toArray, List.set_cons_zero, List.set_cons_succ]; rfl)) (hJ3_7_9 (gb1158) _ ⟨hHeld, (pk BK1151), (pk BK1152), (pk BK1158), GW1158.out, GE1158.out, NB1151_1158.out, NB1158_1151.out, NB1152_1158.out, NB1158_1152.out, (pl HB)⟩)
                · skip
                  refine box_step ?hg (N := 5) ?hd (cs := #[.int .u64 0, .int .u64 0]) (t := 24) ?hr ?_; (case hd => rfl); (case hg => rfl); (case hr => first | (go_simp; done) | (go_simp; rfl))
                  intro gb1157 hg w12 hbox hb
                  have BK1157 := Aside0.mk (hbox)
                  have GW1157 := kg HB hg
                  have GE1157 := kg HB hg
                  have NB1151_1157 := kn BK1151 hg
                  have NB1157_1151 := km BK1151 hg
                  have NB1152_1157 := kn BK1152 hg
                  have NB1157_1152 := km BK1152 hg
                  have NB1158_1157 := kn BK1158 hg
                  have NB1157_1158 := km BK1158 hg
                  replace BK1151 := kb BK1151 hb
                  replace BK1152 := kb BK1152 hb
                  replace BK1158 := kb BK1158 hb
                  replace HB := kh HB hb
                  clear hb hbox hg
                  refine hK.out _ _ ⟨bc BK1151 0, bc BK1151 1⟩ (fun hHeld => ?_)
                  clear hK K
                  refine nrm (some 5) ?_
                  exact norm_ (by first | (simp only [putAll, Act.put, List.setIfInBounds_toArray, List.set_cons_zero, List.set_cons_succ]; done) | (simp only [putAll, Act.put, List.setIfInBounds_toArray, List.set_cons_zero, List.set_cons_succ]; rfl)) (hJ3_8_9 (gb1157, gb1158) _ ⟨hHeld, (pk BK1151), (pk BK1152), (pk BK1157), (pk BK1158), GW1157.out, GE1157.out, NB1151_1157.out, NB1157_1151.out, NB1152_1157.out, NB1157_1152.out, NB1158_1157.out, NB1157_1158.out, GW1158.out, GE1158.out, NB1151_1158.out, NB1158_1151.out, NB1152_1158.out, NB1158_1152.out, (pl HB)⟩)
            · skip
              rintro gb1157 w11 ⟨hS_, h0_, h1_, h2_, h3_, h4_, h5_, h6_, h7_, h8_, h9_⟩
              have n0_ : Aside0 (w11.heap[gb1151]? = some (.cells #[.int .u64 a0_0, .int .u64 a0_1] 24 (0, 0))) := ⟨h0_⟩
              have n1_ : Aside0 (w11.heap[gb1152]? = some (.cells #[.int .u64 0, .int .u64 0, .int .u64 0] 26 (0, 0))) := ⟨h1_⟩
              have n2_ : Aside0 (w11.heap[gb1157]? = some (.cells #[.int .u64 0, .int .u64 0] 24 (0, 0))) := ⟨h2_⟩
              have n3_ : Aside0 (w.heap.size ≤ gb1157) := ⟨h3_⟩
              have n4_ : Aside0 (w.heap.size ≤ gb1157) := ⟨h4_⟩
              have n5_ : Aside0 (gb1151 ≠ gb1157) := ⟨h5_⟩
              have n6_ : Aside0 (gb1157 ≠ gb1151) := ⟨h6_⟩
              have n7_ : Aside0 (gb1152 ≠ gb1157) := ⟨h7_⟩
              have n8_ : Aside0 (gb1157 ≠ gb1152) := ⟨h8_⟩
              have n9_ : Aside0 (Below w.heap.size w w11) := ⟨h9_⟩
              clear BK1151
              clear BK1152
              clear HB
              clear h0_ h1_ h2_ h3_ h4_ h5_ h6_ h7_ h8_ h9_
              have BK1151 := n0_
              have BK1152 := n1_
              have BK1157 := n2_
              have GW1157 := n3_
              have GE1157 := n4_
              have NB1151_1157 := n5_
              have NB1157_1151 := n6_
              have NB1152_1157 := n7_
              have NB1157_1152 := n8_
              have HB := n9_
              clear n0_ n1_ n2_ n3_ n4_ n5_ n6_ n7_ n8_ n9_
              have hHeld : w11.cell? ⟨gb1151, 0, none⟩ = some (.int .u64 a0_0) ∧ w11.cell? ⟨gb1151, 1, none⟩ = some (.int .u64 a0_1) := hS_
              refine norm_ (a' := ?_) ?_ ?_
              rotate_left
              · simp only [putAll, Act.put, List.setIfInBounds_toArray, List.set_cons_zero, List.set_cons_succ]
                rfl
              refine two_ (i := 7) (j := 9) (Ni := some 16) (Nj := some 6) #[true, true, true, true, true, true, true, true, true, false, false, false] #[true, true, true, true, true, true, true, false, true, true, false, false] rfl rfl rfl rfl (two_of HT_.out (by kernel_rfl)) (by decide) (by decide) (fun K hK => ?_) (fun K hK => ?_)
              · skip
                refine gc Try.func27 #[.int .u64 a0_0, .int .u64 a1] (wide_Mul.calls a0_0 a1 t1155 t1156 _ A4.out) ?_
                intro w12 hb
                replace BK1151 := kb BK1151 hb
                replace BK1152 := kb BK1152 hb
                replace BK1157 := kb BK1157 hb
                replace HB := kh HB hb
                (try clear hb)
                refine hK.out _ _ ⟨bc BK1151 0, bc BK1151 1⟩ (fun hHeld => ?_)
                clear hK K
                refine nrm (some 16) ?_
                exact norm_ (by first | (simp only [putAll, Act.put, List.setIfInBounds_toArray, List.set_cons_zero, List.set_cons_succ]; done) | (simp only [putAll, Act.put, List.setIfInBounds_toArray, List.set_cons_zero, List.set_cons_succ]; rfl)) (hJ3_7_8 (gb1157) _ ⟨hHeld, (pk BK1151), (pk BK1152), (pk BK1157), GW1157.out, GE1157.out, NB1151_1157.out, NB1157_1151.out, NB1152_1157.out, NB1157_1152.out, (pl HB)⟩)
              · skip
                refine box_step ?hg (N := 6) ?hd (cs := #[.int .u64 0, .int .u64 0]) (t := 24) ?hr ?_; (case hd => rfl); (case hg => rfl); (case hr => first | (go_simp; done) | (go_simp; rfl))
                intro gb1158 hg w12 hbox hb
                have BK1158 := Aside0.mk (hbox)
                have GW1158 := kg HB hg
                have GE1158 := kg HB hg
                have NB1151_1158 := kn BK1151 hg
                have NB1158_1151 := km BK1151 hg
                have NB1152_1158 := kn BK1152 hg
                have NB1158_1152 := km BK1152 hg
                have NB1157_1158 := kn BK1157 hg
                have NB1158_1157 := km BK1157 hg
                replace BK1151 := kb BK1151 hb
                replace BK1152 := kb BK1152 hb
                replace BK1157 := kb BK1157 hb
                replace HB := kh HB hb
                clear hb hbox hg
                refine hK.out _ _ ⟨bc BK1151 0, bc BK1151 1⟩ (fun hHeld => ?_)
                clear hK K
                refine nrm (some 6) ?_
                exact norm_ (by first | (simp only [putAll, Act.put, List.setIfInBounds_toArray, List.set_cons_zero, List.set_cons_succ]; done) | (simp only [putAll, Act.put, List.setIfInBounds_toArray, List.set_cons_zero, List.set_cons_succ]; rfl)) (hJ3_8_9 (gb1157, gb1158) _ ⟨hHeld, (pk BK1151), (pk BK1152), (pk BK1157), (pk BK1158), GW1157.out, GE1157.out, NB1151_1157.out, NB1157_1151.out, NB1152_1157.out, NB1157_1152.out, NB1158_1157.out, NB1157_1158.out, GW1158.out, GE1158.out, NB1151_1158.out, NB1158_1151.out, NB1152_1158.out, NB1158_1152.out, (pl HB)⟩)
          · skip
            rintro _ w11 ⟨hS_, h0_, h1_, h2_⟩
            have n0_ : Aside0 (w11.heap[gb1151]? = some (.cells #[.int .u64 a0_0, .int .u64 a0_1] 24 (0, 0))) := ⟨h0_⟩
            have n1_ : Aside0 (w11.heap[gb1152]? = some (.cells #[.int .u64 0, .int .u64 0, .int .u64 0] 26 (0, 0))) := ⟨h1_⟩
            have n2_ : Aside0 (Below w.heap.size w w11) := ⟨h2_⟩
            clear BK1151
            clear BK1152
            clear HB
            clear h0_ h1_ h2_
            have BK1151 := n0_
            have BK1152 := n1_
            have HB := n2_
            clear n0_ n1_ n2_
            have hHeld : w11.cell? ⟨gb1151, 0, none⟩ = some (.int .u64 a0_0) ∧ w11.cell? ⟨gb1151, 1, none⟩ = some (.int .u64 a0_1) := hS_
            refine norm_ (a' := ?_) ?_ ?_
            rotate_left
            · simp only [putAll, Act.put, List.setIfInBounds_toArray, List.set_cons_zero, List.set_cons_succ]
              rfl
            refine two_ (i := 8) (j := 9) (Ni := some 5) (Nj := some 6) #[true, true, true, true, true, true, true, true, true, false, false, false] #[true, true, true, true, true, true, true, true, false, true, false, false] rfl rfl rfl rfl (two_of HT_.out (by kernel_rfl)) (by decide) (by decide) (fun K hK => ?_) (fun K hK => ?_)
            · skip
              refine box_step ?hg (N := 5) ?hd (cs := #[.int .u64 0, .int .u64 0]) (t := 24) ?hr ?_; (case hd => rfl); (case hg => rfl); (case hr => first | (go_simp; done) | (go_simp; rfl))
              intro gb1157 hg w12 hbox hb
              have BK1157 := Aside0.mk (hbox)
              have GW1157 := kg HB hg
              have GE1157 := kg HB hg
              have NB1151_1157 := kn BK1151 hg
              have NB1157_1151 := km BK1151 hg
              have NB1152_1157 := kn BK1152 hg
              have NB1157_1152 := km BK1152 hg
              replace BK1151 := kb BK1151 hb
              replace BK1152 := kb BK1152 hb
              replace HB := kh HB hb
              clear hb hbox hg
              refine hK.out _ _ ⟨bc BK1151 0, bc BK1151 1⟩ (fun hHeld => ?_)
              clear hK K
              refine nrm (some 5) ?_
              exact norm_ (by first | (simp only [putAll, Act.put, List.setIfInBounds_toArray, List.set_cons_zero, List.set_cons_succ]; done) | (simp only [putAll, Act.put, List.setIfInBounds_toArray, List.set_cons_zero, List.set_cons_succ]; rfl)) (hJ3_7_8 (gb1157) _ ⟨hHeld, (pk BK1151), (pk BK1152), (pk BK1157), GW1157.out, GE1157.out, NB1151_1157.out, NB1157_1151.out, NB1152_1157.out, NB1157_1152.out, (pl HB)⟩)
            · skip
              refine box_step ?hg (N := 6) ?hd (cs := #[.int .u64 0, .int .u64 0]) (t := 24) ?hr ?_; (case hd => rfl); (case hg => rfl); (case hr => first | (go_simp; done) | (go_simp; rfl))
              intro gb1158 hg w12 hbox hb
              have BK1158 := Aside0.mk (hbox)
              have GW1158 := kg HB hg
              have GE1158 := kg HB hg
              have NB1151_1158 := kn BK1151 hg
              have NB1158_1151 := km BK1151 hg
              have NB1152_1158 := kn BK1152 hg
              have NB1158_1152 := km BK1152 hg
              replace BK1151 := kb BK1151 hb
              replace BK1152 := kb BK1152 hb
              replace HB := kh HB hb
              clear hb hbox hg
              refine hK.out _ _ ⟨bc BK1151 0, bc BK1151 1⟩ (fun hHeld => ?_)
              clear hK K
              refine nrm (some 6) ?_
              exact norm_ (by first | (simp only [putAll, Act.put, List.setIfInBounds_toArray, List.set_cons_zero, List.set_cons_succ]; done) | (simp only [putAll, Act.put, List.setIfInBounds_toArray, List.set_cons_zero, List.set_cons_succ]; rfl)) (hJ3_7_9 (gb1158) _ ⟨hHeld, (pk BK1151), (pk BK1152), (pk BK1158), GW1158.out, GE1158.out, NB1151_1158.out, NB1158_1151.out, NB1152_1158.out, NB1158_1152.out, (pl HB)⟩)
        · skip
          rintro ⟨gb1157, gb1158⟩ w12 ⟨hS_, h0_, h1_, h2_, h3_, h4_, h5_, h6_, h7_, h8_, h9_, h10_, h11_, h12_, h13_, h14_, h15_, h16_, h17_, h18_⟩
          have n0_ : Aside0 (w12.heap[gb1151]? = some (.cells #[.int .u64 a0_0, .int .u64 a0_1] 24 (0, 0))) := ⟨h0_⟩
          have n1_ : Aside0 (w12.heap[gb1152]? = some (.cells #[.int .u64 0, .int .u64 0, .int .u64 0] 26 (0, 0))) := ⟨h1_⟩
          have n2_ : Aside0 (w12.heap[gb1157]? = some (.cells #[.int .u64 0, .int .u64 0] 24 (0, 0))) := ⟨h2_⟩
          have n3_ : Aside0 (w12.heap[gb1158]? = some (.cells #[.int .u64 0, .int .u64 0] 24 (0, 0))) := ⟨h3_⟩
          have n4_ : Aside0 (w.heap.size ≤ gb1157) := ⟨h4_⟩
          have n5_ : Aside0 (w.heap.size ≤ gb1157) := ⟨h5_⟩
          have n6_ : Aside0 (gb1151 ≠ gb1157) := ⟨h6_⟩
          have n7_ : Aside0 (gb1157 ≠ gb1151) := ⟨h7_⟩
          have n8_ : Aside0 (gb1152 ≠ gb1157) := ⟨h8_⟩
          have n9_ : Aside0 (gb1157 ≠ gb1152) := ⟨h9_⟩
          have n10_ : Aside0 (gb1158 ≠ gb1157) := ⟨h10_⟩
          have n11_ : Aside0 (gb1157 ≠ gb1158) := ⟨h11_⟩
          have n12_ : Aside0 (w.heap.size ≤ gb1158) := ⟨h12_⟩
          have n13_ : Aside0 (w.heap.size ≤ gb1158) := ⟨h13_⟩
          have n14_ : Aside0 (gb1151 ≠ gb1158) := ⟨h14_⟩
          have n15_ : Aside0 (gb1158 ≠ gb1151) := ⟨h15_⟩
          have n16_ : Aside0 (gb1152 ≠ gb1158) := ⟨h16_⟩
          have n17_ : Aside0 (gb1158 ≠ gb1152) := ⟨h17_⟩
          have n18_ : Aside0 (Below w.heap.size w w12) := ⟨h18_⟩
          clear BK1151
          clear BK1152
          clear HB
          clear h0_ h1_ h2_ h3_ h4_ h5_ h6_ h7_ h8_ h9_ h10_ h11_ h12_ h13_ h14_ h15_ h16_ h17_ h18_
          have BK1151 := n0_
          have BK1152 := n1_
          have BK1157 := n2_
          have BK1158 := n3_
          have GW1157 := n4_
          have GE1157 := n5_
          have NB1151_1157 := n6_
          have NB1157_1151 := n7_
          have NB1152_1157 := n8_
          have NB1157_1152 := n9_
          have NB1158_1157 := n10_
          have NB1157_1158 := n11_
          have GW1158 := n12_
          have GE1158 := n13_
          have NB1151_1158 := n14_
          have NB1158_1151 := n15_
          have NB1152_1158 := n16_
          have NB1158_1152 := n17_
          have HB := n18_
          clear n0_ n1_ n2_ n3_ n4_ n5_ n6_ n7_ n8_ n9_ n10_ n11_ n12_ n13_ n14_ n15_ n16_ n17_ n18_
          have hHeld : w12.cell? ⟨gb1151, 0, none⟩ = some (.int .u64 a0_0) ∧ w12.cell? ⟨gb1151, 1, none⟩ = some (.int .u64 a0_1) := hS_
          refine norm_ (a' := ?_) ?_ ?_
          rotate_left
          · simp only [putAll, Act.put, List.setIfInBounds_toArray, List.set_cons_zero, List.set_cons_succ]
            rfl
          refine one_ (i := 7) (N := some 16) #[true, true, true, true, true, true, true, true, true, true, false, false] rfl rfl (one_of HT_.out (by kernel_rfl)) (by decide) (fun K hK => ?_)
          refine gc Try.func27 #[.int .u64 a0_0, .int .u64 a1] (wide_Mul.calls a0_0 a1 t1155 t1156 _ A4.out) ?_
          intro w13 hb
          replace BK1151 := kb BK1151 hb
          replace BK1152 := kb BK1152 hb
          replace BK1157 := kb BK1157 hb
          replace BK1158 := kb BK1158 hb
          replace HB := kh HB hb
          (try clear hb)
          refine hK.out _ _ ⟨bc BK1151 0, bc BK1151 1⟩ (fun hHeld => ?_)
          clear hK K
          refine nrm (some 16) ?_
          exact norm_ (by first | (simp only [putAll, Act.put, List.setIfInBounds_toArray, List.set_cons_zero, List.set_cons_succ]; done) | (simp only [putAll, Act.put, List.setIfInBounds_toArray, List.set_cons_zero, List.set_cons_succ]; rfl)) (hJ3_7_8_9 (gb1157, gb1158) _ ⟨hHeld, (pk BK1151), (pk BK1152), (pk BK1157), (pk BK1158), GW1157.out, GE1157.out, NB1151_1157.out, NB1157_1151.out, NB1152_1157.out, NB1157_1152.out, NB1158_1157.out, NB1157_1158.out, GW1158.out, GE1158.out, NB1151_1158.out, NB1158_1151.out, NB1152_1158.out, NB1158_1152.out, (pl HB)⟩)
      · skip
        rintro gb1158 w12 ⟨hS_, h0_, h1_, h2_, h3_, h4_, h5_, h6_, h7_, h8_, h9_⟩
        have n0_ : Aside0 (w12.heap[gb1151]? = some (.cells #[.int .u64 a0_0, .int .u64 a0_1] 24 (0, 0))) := ⟨h0_⟩
        have n1_ : Aside0 (w12.heap[gb1152]? = some (.cells #[.int .u64 0, .int .u64 0, .int .u64 0] 26 (0, 0))) := ⟨h1_⟩
        have n2_ : Aside0 (w12.heap[gb1158]? = some (.cells #[.int .u64 0, .int .u64 0] 24 (0, 0))) := ⟨h2_⟩
        have n3_ : Aside0 (w.heap.size ≤ gb1158) := ⟨h3_⟩
        have n4_ : Aside0 (w.heap.size ≤ gb1158) := ⟨h4_⟩
        have n5_ : Aside0 (gb1151 ≠ gb1158) := ⟨h5_⟩
        have n6_ : Aside0 (gb1158 ≠ gb1151) := ⟨h6_⟩
        have n7_ : Aside0 (gb1152 ≠ gb1158) := ⟨h7_⟩
        have n8_ : Aside0 (gb1158 ≠ gb1152) := ⟨h8_⟩
        have n9_ : Aside0 (Below w.heap.size w w12) := ⟨h9_⟩
        clear BK1151
        clear BK1152
        clear HB
        clear h0_ h1_ h2_ h3_ h4_ h5_ h6_ h7_ h8_ h9_
        have BK1151 := n0_
        have BK1152 := n1_
        have BK1158 := n2_
        have GW1158 := n3_
        have GE1158 := n4_
        have NB1151_1158 := n5_
        have NB1158_1151 := n6_
        have NB1152_1158 := n7_
        have NB1158_1152 := n8_
        have HB := n9_
        clear n0_ n1_ n2_ n3_ n4_ n5_ n6_ n7_ n8_ n9_
        have hHeld : w12.cell? ⟨gb1151, 0, none⟩ = some (.int .u64 a0_0) ∧ w12.cell? ⟨gb1151, 1, none⟩ = some (.int .u64 a0_1) := hS_
        refine norm_ (a' := ?_) ?_ ?_
        rotate_left
        · simp only [putAll, Act.put, List.setIfInBounds_toArray, List.set_cons_zero, List.set_cons_succ]
          rfl
        refine one_ (i := 8) (N := some 5) #[true, true, true, true, true, true, true, true, true, true, false, false] rfl rfl (one_of HT_.out (by kernel_rfl)) (by decide) (fun K hK => ?_)
        refine box_step ?hg (N := 5) ?hd (cs := #[.int .u64 0, .int .u64 0]) (t := 24) ?hr ?_; (case hd => rfl); (case hg => rfl); (case hr => first | (go_simp; done) | (go_simp; rfl))
        intro gb1157 hg w13 hbox hb
        have BK1157 := Aside0.mk (hbox)
        have GW1157 := kg HB hg
        have GE1157 := kg HB hg
        have NB1151_1157 := kn BK1151 hg
        have NB1157_1151 := km BK1151 hg
        have NB1152_1157 := kn BK1152 hg
        have NB1157_1152 := km BK1152 hg
        have NB1158_1157 := kn BK1158 hg
        have NB1157_1158 := km BK1158 hg
        replace BK1151 := kb BK1151 hb
        replace BK1152 := kb BK1152 hb
        replace BK1158 := kb BK1158 hb
        replace HB := kh HB hb
        clear hb hbox hg
        refine hK.out _ _ ⟨bc BK1151 0, bc BK1151 1⟩ (fun hHeld => ?_)
        clear hK K
        refine nrm (some 5) ?_
        exact norm_ (by first | (simp only [putAll, Act.put, List.setIfInBounds_toArray, List.set_cons_zero, List.set_cons_succ]; done) | (simp only [putAll, Act.put, List.setIfInBounds_toArray, List.set_cons_zero, List.set_cons_succ]; rfl)) (hJ3_7_8_9 (gb1157, gb1158) _ ⟨hHeld, (pk BK1151), (pk BK1152), (pk BK1157), (pk BK1158), GW1157.out, GE1157.out, NB1151_1157.out, NB1157_1151.out, NB1152_1157.out, NB1157_1152.out, NB1158_1157.out, NB1157_1158.out, GW1158.out, GE1158.out, NB1151_1158.out, NB1158_1151.out, NB1152_1158.out, NB1158_1152.out, (pl HB)⟩)
    · skip
      rintro gb1157 w12 ⟨hS_, h0_, h1_, h2_, h3_, h4_, h5_, h6_, h7_, h8_, h9_⟩
      have n0_ : Aside0 (w12.heap[gb1151]? = some (.cells #[.int .u64 a0_0, .int .u64 a0_1] 24 (0, 0))) := ⟨h0_⟩
      have n1_ : Aside0 (w12.heap[gb1152]? = some (.cells #[.int .u64 0, .int .u64 0, .int .u64 0] 26 (0, 0))) := ⟨h1_⟩
      have n2_ : Aside0 (w12.heap[gb1157]? = some (.cells #[.int .u64 0, .int .u64 0] 24 (0, 0))) := ⟨h2_⟩
      have n3_ : Aside0 (w.heap.size ≤ gb1157) := ⟨h3_⟩
      have n4_ : Aside0 (w.heap.size ≤ gb1157) := ⟨h4_⟩
      have n5_ : Aside0 (gb1151 ≠ gb1157) := ⟨h5_⟩
      have n6_ : Aside0 (gb1157 ≠ gb1151) := ⟨h6_⟩
      have n7_ : Aside0 (gb1152 ≠ gb1157) := ⟨h7_⟩
      have n8_ : Aside0 (gb1157 ≠ gb1152) := ⟨h8_⟩
      have n9_ : Aside0 (Below w.heap.size w w12) := ⟨h9_⟩
      clear BK1151
      clear BK1152
      clear HB
      clear h0_ h1_ h2_ h3_ h4_ h5_ h6_ h7_ h8_ h9_
      have BK1151 := n0_
      have BK1152 := n1_
      have BK1157 := n2_
      have GW1157 := n3_
      have GE1157 := n4_
      have NB1151_1157 := n5_
      have NB1157_1151 := n6_
      have NB1152_1157 := n7_
      have NB1157_1152 := n8_
      have HB := n9_
      clear n0_ n1_ n2_ n3_ n4_ n5_ n6_ n7_ n8_ n9_
      have hHeld : w12.cell? ⟨gb1151, 0, none⟩ = some (.int .u64 a0_0) ∧ w12.cell? ⟨gb1151, 1, none⟩ = some (.int .u64 a0_1) := hS_
      refine norm_ (a' := ?_) ?_ ?_
      rotate_left
      · simp only [putAll, Act.put, List.setIfInBounds_toArray, List.set_cons_zero, List.set_cons_succ]
        rfl
      refine one_ (i := 9) (N := some 6) #[true, true, true, true, true, true, true, true, true, true, false, false] rfl rfl (one_of HT_.out (by kernel_rfl)) (by decide) (fun K hK => ?_)
      refine box_step ?hg (N := 6) ?hd (cs := #[.int .u64 0, .int .u64 0]) (t := 24) ?hr ?_; (case hd => rfl); (case hg => rfl); (case hr => first | (go_simp; done) | (go_simp; rfl))
      intro gb1158 hg w13 hbox hb
      have BK1158 := Aside0.mk (hbox)
      have GW1158 := kg HB hg
      have GE1158 := kg HB hg
      have NB1151_1158 := kn BK1151 hg
      have NB1158_1151 := km BK1151 hg
      have NB1152_1158 := kn BK1152 hg
      have NB1158_1152 := km BK1152 hg
      have NB1157_1158 := kn BK1157 hg
      have NB1158_1157 := km BK1157 hg
      replace BK1151 := kb BK1151 hb
      replace BK1152 := kb BK1152 hb
      replace BK1157 := kb BK1157 hb
      replace HB := kh HB hb
      clear hb hbox hg
      refine hK.out _ _ ⟨bc BK1151 0, bc BK1151 1⟩ (fun hHeld => ?_)
      clear hK K
      refine nrm (some 6) ?_
      exact norm_ (by first | (simp only [putAll, Act.put, List.setIfInBounds_toArray, List.set_cons_zero, List.set_cons_succ]; done) | (simp only [putAll, Act.put, List.setIfInBounds_toArray, List.set_cons_zero, List.set_cons_succ]; rfl)) (hJ3_7_8_9 (gb1157, gb1158) _ ⟨hHeld, (pk BK1151), (pk BK1152), (pk BK1157), (pk BK1158), GW1157.out, GE1157.out, NB1151_1157.out, NB1157_1151.out, NB1152_1157.out, NB1157_1152.out, NB1158_1157.out, NB1157_1158.out, GW1158.out, GE1158.out, NB1151_1158.out, NB1158_1151.out, NB1152_1158.out, NB1158_1152.out, (pl HB)⟩)
  rintro ⟨gb1157, gb1158⟩ w13 ⟨hS_, h0_, h1_, h2_, h3_, h4_, h5_, h6_, h7_, h8_, h9_, h10_, h11_, h12_, h13_, h14_, h15_, h16_, h17_, h18_⟩
  have n0_ : Aside0 (w13.heap[gb1151]? = some (.cells #[.int .u64 a0_0, .int .u64 a0_1] 24 (0, 0))) := ⟨h0_⟩
  have n1_ : Aside0 (w13.heap[gb1152]? = some (.cells #[.int .u64 0, .int .u64 0, .int .u64 0] 26 (0, 0))) := ⟨h1_⟩
  have n2_ : Aside0 (w13.heap[gb1157]? = some (.cells #[.int .u64 0, .int .u64 0] 24 (0, 0))) := ⟨h2_⟩
  have n3_ : Aside0 (w13.heap[gb1158]? = some (.cells #[.int .u64 0, .int .u64 0] 24 (0, 0))) := ⟨h3_⟩
  have n4_ : Aside0 (w.heap.size ≤ gb1157) := ⟨h4_⟩
  have n5_ : Aside0 (w.heap.size ≤ gb1157) := ⟨h5_⟩
  have n6_ : Aside0 (gb1151 ≠ gb1157) := ⟨h6_⟩
  have n7_ : Aside0 (gb1157 ≠ gb1151) := ⟨h7_⟩
  have n8_ : Aside0 (gb1152 ≠ gb1157) := ⟨h8_⟩
  have n9_ : Aside0 (gb1157 ≠ gb1152) := ⟨h9_⟩
  have n10_ : Aside0 (gb1158 ≠ gb1157) := ⟨h10_⟩
  have n11_ : Aside0 (gb1157 ≠ gb1158) := ⟨h11_⟩
  have n12_ : Aside0 (w.heap.size ≤ gb1158) := ⟨h12_⟩
  have n13_ : Aside0 (w.heap.size ≤ gb1158) := ⟨h13_⟩
  have n14_ : Aside0 (gb1151 ≠ gb1158) := ⟨h14_⟩
  have n15_ : Aside0 (gb1158 ≠ gb1151) := ⟨h15_⟩
  have n16_ : Aside0 (gb1152 ≠ gb1158) := ⟨h16_⟩
  have n17_ : Aside0 (gb1158 ≠ gb1152) := ⟨h17_⟩
  have n18_ : Aside0 (Below w.heap.size w w13) := ⟨h18_⟩
  clear BK1151
  clear BK1152
  clear HB
  clear h0_ h1_ h2_ h3_ h4_ h5_ h6_ h7_ h8_ h9_ h10_ h11_ h12_ h13_ h14_ h15_ h16_ h17_ h18_
  have BK1151 := n0_
  have BK1152 := n1_
  have BK1157 := n2_
  have BK1158 := n3_
  have GW1157 := n4_
  have GE1157 := n5_
  have NB1151_1157 := n6_
  have NB1157_1151 := n7_
  have NB1152_1157 := n8_
  have NB1157_1152 := n9_
  have NB1158_1157 := n10_
  have NB1157_1158 := n11_
  have GW1158 := n12_
  have GE1158 := n13_
  have NB1151_1158 := n14_
  have NB1158_1151 := n15_
  have NB1152_1158 := n16_
  have NB1158_1152 := n17_
  have HB := n18_
  clear n0_ n1_ n2_ n3_ n4_ n5_ n6_ n7_ n8_ n9_ n10_ n11_ n12_ n13_ n14_ n15_ n16_ n17_ n18_
  have hHeld : w13.cell? ⟨gb1151, 0, none⟩ = some (.int .u64 a0_0) ∧ w13.cell? ⟨gb1151, 1, none⟩ = some (.int .u64 a0_1) := hS_
  refine norm_ (a' := ?_) ?_ ?_
  rotate_left
  · simp only [putAll, Act.put, List.setIfInBounds_toArray, List.set_cons_zero, List.set_cons_succ]
    rfl
  refine one_ (i := 10) (N := none) #[true, true, true, true, true, true, true, true, true, true, true, false] rfl rfl (one_of HT_.out (by kernel_rfl)) (by decide) (fun K hK => ?_)
  have hs14 : w13.cell? ⟨gb1157, 0, none⟩ = some (.int .u64 0) := bc BK1157 0
  have hfs14 := blk_frozen BK1157.out 0
  have hns14_0 := NB1151_1157.out
  have hns14_1 := NB1152_1157.out
  have hns14_3 := NB1158_1157.out
  have hms14_0 := NB1157_1151.out
  have hms14_1 := NB1157_1152.out
  have hms14_3 := NB1157_1158.out
  have hs15 : w13.cell? ⟨gb1157, 1, none⟩ = some (.int .u64 0) := bc BK1157 1
  have hfs15 := blk_frozen BK1157.out 1
  refine skip_ (w1 := ?_) (by rfl) rfl ?_ ?_
  rotate_left
  · go_simp
    rfl
  refine hK.out _ _ ⟨cf hHeld.1, cf hHeld.2⟩ (fun hHeld => ?_)
  clear hK K
  refine one_ (i := 11) (N := none) #[true, true, true, true, true, true, true, true, true, true, true, true] rfl rfl (one_of HT_.out (by kernel_rfl)) (by decide) (fun K hK => ?_)
  have hs16 : w13.cell? ⟨gb1158, 0, none⟩ = some (.int .u64 0) := bc BK1158 0
  have hfs16 := blk_frozen BK1158.out 0
  have hns16_0 := NB1151_1158.out
  have hns16_1 := NB1152_1158.out
  have hns16_2 := NB1157_1158.out
  have hms16_0 := NB1158_1151.out
  have hms16_1 := NB1158_1152.out
  have hms16_2 := NB1158_1157.out
  have hs17 : w13.cell? ⟨gb1158, 1, none⟩ = some (.int .u64 0) := bc BK1158 1
  have hfs17 := blk_frozen BK1158.out 1
  refine skip_ (w1 := ?_) (by rfl) rfl ?_ ?_
  rotate_left
  · go_simp
    rfl
  refine hK.out _ _ ⟨cf hHeld.1, cf hHeld.2⟩ (fun hHeld => ?_)
  clear hK K
  refine done_ (done_of HT_.out (by kernel_rfl)) ?_
  have hnb18 := NB1157_1151.out
  have hnc18 := NB1151_1157.out
  have hnb19 := NB1157_1152.out
  have hnc19 := NB1152_1157.out
  have hnb20 := NB1157_1158.out
  have hnc20 := NB1158_1157.out
  have hcz21_0 : w13.cell? ⟨gb1157, 0, none⟩ = some (.int .u64 0) := bc BK1157 0
  have hcz21_1 : w13.cell? ⟨gb1157, 1, none⟩ = some (.int .u64 0) := bc BK1157 1
  have hfz21_0 := blk_frozen BK1157.out 0
  have hfz21_1 := blk_frozen BK1157.out 1
  have hnb22 := NB1158_1151.out
  have hnc22 := NB1151_1158.out
  have hnb23 := NB1158_1152.out
  have hnc23 := NB1152_1158.out
  have hcz24_0 : w13.cell? ⟨gb1158, 0, none⟩ = some (.int .u64 0) := bc BK1158 0
  have hcz24_1 : w13.cell? ⟨gb1158, 1, none⟩ = some (.int .u64 0) := bc BK1158 1
  have hfz24_0 := blk_frozen BK1158.out 0
  have hfz24_1 := blk_frozen BK1158.out 1
  try go_wp2_with (first | ((with_reducible refine gate_callee (f := 47) rfl ?_); refine kcE (some 22) Try.func47 #[.int .u64 t1153, .int .u64 t1156, .int .u64 0] (bits_Add64.calls t1153 t1156 0 t1159 t1160 _ A5.out) ?_; intro w25 hb; replace BK1151 := kb BK1151 hb; replace BK1152 := kb BK1152 hb; replace BK1157 := kb (o' := .cells #[.int .u64 t1153, .int .u64 t1154] 24 (0, 0)) BK1157 hb; replace BK1158 := kb (o' := .cells #[.int .u64 t1155, .int .u64 t1156] 24 (0, 0)) BK1158 hb; replace HB := kh HB hb; (try clear hb); have hcz26_0 : w25.cell? ⟨gb1158, 0, none⟩ = some (.int .u64 t1155) := bc BK1158 0; have hcz26_1 : w25.cell? ⟨gb1158, 1, none⟩ = some (.int .u64 t1156) := bc BK1158 1; have hfz26_0 := blk_frozen BK1158.out 0; have hfz26_1 := blk_frozen BK1158.out 1; have hcz27_0 : w25.cell? ⟨gb1157, 0, none⟩ = some (.int .u64 t1153) := bc BK1157 0; have hcz27_1 : w25.cell? ⟨gb1157, 1, none⟩ = some (.int .u64 t1154) := bc BK1157 1; have hfz27_0 := blk_frozen BK1157.out 0; have hfz27_1 := blk_frozen BK1157.out 1; have hnb28 := NB1152_1151.out; have hnc28 := NB1151_1152.out; have ⟨hcz29_0, hcz29_1, hcz29_2, hfz29_0, hfz29_1, hfz29_2⟩ := kz3f BK1152))
  refine bodyPost_ret (results_cell_row rfl _ _ gb1152 26 #[.int .u64 (IntKind.u64.wrap (t1155 + t1160)), .int .u64 t1159, .int .u64 t1154] (0, 0) _ rfl (pK BK1152) Try.underlying26 rfl (by kernel_rfl)) rfl ?_
  exact ⟨pe, pl HB⟩
end Go.Proofs.Ytdchdapllehppaa.PAll
end
