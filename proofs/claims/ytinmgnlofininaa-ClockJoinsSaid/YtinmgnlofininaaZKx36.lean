/- Functions of the print, turned to this claim. -/
import Derived.Test.YtinmgnlofininaaZKW
import Derived.Test.YtinmgnlofininaaZKx0
import Derived.Test.YtinmgnlofininaaZKx17
import Derived.Test.YtinmgnlofininaaZKx34
section
namespace Go.Proofs.Ytinmgnlofininaa.PAll
open Go.RowKit Go.Proofs.YtinmgnlofininaaW.PrintWords Go.Proofs.YtinmgnlofininaaW.PrintLast Go.Proofs.YtinmgnlofininaaW.PrintMore
attribute [local go_sem] max2_int min2_int max_two min_two max_three min_three max_four min_four   -- for this text's walks alone
set_option linter.unusedVariables false
set_option linter.unusedSimpArgs false
/-! ### flyballref21_Meet: function 23 -/
def flyballref21_Meet.f (a0_0 : Bool) (a0_1 : Int) (a0_2 : Int) (a0_3 : Bool) (a0_4 : Int) (a0_5 : Int) (a1_0 : Bool) (a1_1 : Int) (a1_2 : Int) (a1_3 : Bool) (a1_4 : Int) (a1_5 : Int) : Option (Bool × Int × Int × Bool × Int × Int) := (flyballref21_Norm.f a0_0 a0_1 a0_2 a0_3 a0_4 a0_5).bind fun bt11504 => ((flyballref21_Norm.f a1_0 a1_1 a1_2 a1_3 a1_4 a1_5).bind fun bt11511 => ((flyballref17_Meet.f bt11504.1 bt11504.2.1 bt11504.2.2.1 bt11511.1 bt11511.2.1 bt11511.2.2.1).bind fun bt11518 => ((flyballref17_Meet.f bt11504.2.2.2.1 bt11504.2.2.2.2.1 bt11504.2.2.2.2.2 bt11511.2.2.2.1 bt11511.2.2.2.2.1 bt11511.2.2.2.2.2).bind fun bt11521 => ((flyballref21_Norm.f bt11518.1 bt11518.2.1 bt11518.2.2 bt11521.1 bt11521.2.1 bt11521.2.2).bind fun bt11524 => (some (bt11524.1, bt11524.2.1, bt11524.2.2.1, bt11524.2.2.2.1, bt11524.2.2.2.2.1, bt11524.2.2.2.2.2))))))
def flyballref21_Meet.T3 : Bool × List (List Nat × List Nat) := (true, [([], []), ([0], [0]), ([], []), ([2], [2]), ([1, 3], [1, 3]), ([], []), ([5], [5]), ([], []), ([7], [7]), ([6, 8, 4], [6, 8]), ([4, 9], [4, 9]), ([10, 9], [10]), ([11, 11, 0, 1, 2, 3, 4, 5, 6, 7, 8, 9, 10, 11], [11])])
def flyballref21_Meet.B3 : List Nat := [0, 1, 0, 4, 15, 0, 32, 0, 128, 511, 1023, 2047, 4095]
theorem flyballref21_Meet.tab3 : rtab .any (opsOf Try.f23 3) = flyballref21_Meet.T3 := by kernel_rfl
theorem flyballref21_Meet.bits3 : waitsOk flyballref21_Meet.T3.2 flyballref21_Meet.B3 = true := by kernel_rfl
set_option maxHeartbeats 8000000 in
set_option maxRecDepth 100000 in
theorem flyballref21_Meet.calls (a0_0 : Bool) (a0_1 : Int) (a0_2 : Int) (a0_3 : Bool) (a0_4 : Int) (a0_5 : Int) (a1_0 : Bool) (a1_1 : Int) (a1_2 : Int) (a1_3 : Bool) (a1_4 : Int) (a1_5 : Int) (r1 : Bool) (r2 : Int) (r3 : Int) (r4 : Bool) (r5 : Int) (r6 : Int) (w : World) (h : flyballref21_Meet.f a0_0 a0_1 a0_2 a0_3 a0_4 a0_5 a1_0 a1_1 a1_2 a1_3 a1_4 a1_5 = some (r1, r2, r3, r4, r5, r6)) :
    Calls Try.prog 23 #[.agg #[.bool a0_0, .int .i64 a0_1, .int .i64 a0_2, .bool a0_3, .int .i64 a0_4, .int .i64 a0_5], .agg #[.bool a1_0, .int .i64 a1_1, .int .i64 a1_2, .bool a1_3, .int .i64 a1_4, .int .i64 a1_5]] w fun e w' => e = .returned (.agg #[.bool r1, .int .i64 r2, .int .i64 r3, .bool r4, .int .i64 r5, .int .i64 r6]) ∧ Below w.heap.size w w' := by
  have hu29 := Try.underlying29
  have hu23 := Try.underlying23
  have HB := Aside0.mk (Below.refl w.heap.size w)
  have H := h
  clear h
  unfold flyballref21_Meet.f at H
  obtain ⟨⟨t11504, t11505, t11506, t11507, t11508, t11509⟩, A30, H⟩ := Option.bind_eq_some_iff.mp H
  have A3 := Aside0.mk A30
  clear A30
  (try dsimp only at H)
  obtain ⟨⟨t11511, t11512, t11513, t11514, t11515, t11516⟩, A40, H⟩ := Option.bind_eq_some_iff.mp H
  have A4 := Aside0.mk A40
  clear A40
  (try dsimp only at H)
  obtain ⟨⟨t11518, t11519, t11520⟩, A50, H⟩ := Option.bind_eq_some_iff.mp H
  have A5 := Aside0.mk A50
  clear A50
  (try dsimp only at H)
  obtain ⟨⟨t11521, t11522, t11523⟩, A60, H⟩ := Option.bind_eq_some_iff.mp H
  have A6 := Aside0.mk A60
  clear A60
  (try dsimp only at H)
  obtain ⟨⟨t11524, t11525, t11526, t11527, t11528, t11529⟩, A70, H⟩ := Option.bind_eq_some_iff.mp H
  have A7 := Aside0.mk A70
  clear A70
  (try dsimp only at H)
  simp only [Option.some.injEq, Prod.mk.injEq] at H
  obtain ⟨rfl, rfl, rfl, rfl, rfl, rfl⟩ := H
  go_enter Try.func23, Try.ntmps23
  try go_wp2_with (first | ((with_reducible refine gate_dst (N := 2) rfl ?_); refine kx 2 #[.bool a0_0, .int .i64 a0_1, .int .i64 a0_2, .bool a0_3, .int .i64 a0_4, .int .i64 a0_5] 29 ?_; intro gb11501 hg w8 hbox hb; have BK11501 := Aside0.mk (hbox); have GW11501 := kg HB hg; have GE11501 := kg HB hg; replace HB := kh HB hb; clear hb hbox hg) | ((with_reducible refine gate_dst (N := 3) rfl ?_); refine kx 3 #[.bool a1_0, .int .i64 a1_1, .int .i64 a1_2, .bool a1_3, .int .i64 a1_4, .int .i64 a1_5] 29 ?_; intro gb11502 hg w9 hbox hb; have BK11502 := Aside0.mk (hbox); have GW11502 := kg HB hg; have GE11502 := kg HB hg; have NB11501_11502 := kn BK11501 hg; have NB11502_11501 := km BK11501 hg; replace BK11501 := kb BK11501 hb; replace HB := kh HB hb; clear hb hbox hg) | ((with_reducible refine gate_dst (N := 4) rfl ?_); refine kx 4 #[.bool false, .int .i64 0, .int .i64 0, .bool false, .int .i64 0, .int .i64 0] 29 ?_; intro gb11503 hg w10 hbox hb; have BK11503 := Aside0.mk (hbox); have GW11503 := kg HB hg; have GE11503 := kg HB hg; have NB11501_11503 := kn BK11501 hg; have NB11503_11501 := km BK11501 hg; have NB11502_11503 := kn BK11502 hg; have NB11503_11502 := km BK11502 hg; replace BK11501 := kb BK11501 hb; replace BK11502 := kb BK11502 hb; replace HB := kh HB hb; clear hb hbox hg; have hnb11 := NB11501_11502.out; have hnc11 := NB11502_11501.out; have hnb12 := NB11501_11503.out; have hnc12 := NB11503_11501.out; have ⟨hcz13_0, hcz13_1, hcz13_2, hcz13_3, hcz13_4, hcz13_5, hfz13_0, hfz13_1, hfz13_2, hfz13_3, hfz13_4, hfz13_5⟩ := kz6f BK11501) | ((with_reducible refine gate_callee (f := 62) rfl ?_); refine kc (some 8) Try.func62 #[.agg #[.bool a0_0, .int .i64 a0_1, .int .i64 a0_2, .bool a0_3, .int .i64 a0_4, .int .i64 a0_5]] (flyballref21_Norm.calls a0_0 a0_1 a0_2 a0_3 a0_4 a0_5 t11504 t11505 t11506 t11507 t11508 t11509 _ A3.out) ?_; intro w14 hb; replace BK11501 := kb BK11501 hb; replace BK11502 := kb BK11502 hb; replace BK11503 := kb BK11503 hb; replace HB := kh HB hb; (try clear hb)) | ((with_reducible refine gate_dst (N := 5) rfl ?_); refine kx 5 #[.bool false, .int .i64 0, .int .i64 0, .bool false, .int .i64 0, .int .i64 0] 29 ?_; intro gb11510 hg w15 hbox hb; have BK11510 := Aside0.mk (hbox); have GW11510 := kg HB hg; have GE11510 := kg HB hg; have NB11501_11510 := kn BK11501 hg; have NB11510_11501 := km BK11501 hg; have NB11502_11510 := kn BK11502 hg; have NB11510_11502 := km BK11502 hg; have NB11503_11510 := kn BK11503 hg; have NB11510_11503 := km BK11503 hg; replace BK11501 := kb BK11501 hb; replace BK11502 := kb BK11502 hb; replace BK11503 := kb BK11503 hb; replace HB := kh HB hb; clear hb hbox hg; have hnb16 := NB11510_11501.out; have hnc16 := NB11501_11510.out; have hnb17 := NB11510_11502.out; have hnc17 := NB11502_11510.out; have hnb18 := NB11510_11503.out; have hnc18 := NB11503_11510.out; have ⟨hcz19_0, hcz19_1, hcz19_2, hcz19_3, hcz19_4, hcz19_5, hfz19_0, hfz19_1, hfz19_2, hfz19_3, hfz19_4, hfz19_5⟩ := kz6f BK11510; have hnb20 := NB11502_11503.out; have hnc20 := NB11503_11502.out; have ⟨hcz21_0, hcz21_1, hcz21_2, hcz21_3, hcz21_4, hcz21_5, hfz21_0, hfz21_1, hfz21_2, hfz21_3, hfz21_4, hfz21_5⟩ := kz6f BK11502) | ((with_reducible refine gate_callee (f := 62) rfl ?_); refine kc (some 10) Try.func62 #[.agg #[.bool a1_0, .int .i64 a1_1, .int .i64 a1_2, .bool a1_3, .int .i64 a1_4, .int .i64 a1_5]] (flyballref21_Norm.calls a1_0 a1_1 a1_2 a1_3 a1_4 a1_5 t11511 t11512 t11513 t11514 t11515 t11516 _ A4.out) ?_; intro w22 hb; replace BK11501 := kb BK11501 hb; replace BK11502 := kb BK11502 hb; replace BK11503 := kb BK11503 hb; replace BK11510 := kb (o' := .cells #[.bool t11504, .int .i64 t11505, .int .i64 t11506, .bool t11507, .int .i64 t11508, .int .i64 t11509] 29 (0, 0)) BK11510 hb; replace HB := kh HB hb; (try clear hb)) | ((with_reducible refine gate_dst (N := 6) rfl ?_); refine kx 6 #[.bool false, .int .i64 0, .int .i64 0, .bool false, .int .i64 0, .int .i64 0] 29 ?_; intro gb11517 hg w23 hbox hb; have BK11517 := Aside0.mk (hbox); have GW11517 := kg HB hg; have GE11517 := kg HB hg; have NB11501_11517 := kn BK11501 hg; have NB11517_11501 := km BK11501 hg; have NB11502_11517 := kn BK11502 hg; have NB11517_11502 := km BK11502 hg; have NB11503_11517 := kn BK11503 hg; have NB11517_11503 := km BK11503 hg; have NB11510_11517 := kn BK11510 hg; have NB11517_11510 := km BK11510 hg; replace BK11501 := kb BK11501 hb; replace BK11502 := kb BK11502 hb; replace BK11503 := kb BK11503 hb; replace BK11510 := kb BK11510 hb; replace HB := kh HB hb; clear hb hbox hg; have hnb24 := NB11517_11501.out; have hnc24 := NB11501_11517.out; have hnb25 := NB11517_11502.out; have hnc25 := NB11502_11517.out; have hnb26 := NB11517_11503.out; have hnc26 := NB11503_11517.out; have hnb27 := NB11517_11510.out; have hnc27 := NB11510_11517.out; have ⟨hcz28_0, hcz28_1, hcz28_2, hcz28_3, hcz28_4, hcz28_5, hfz28_0, hfz28_1, hfz28_2, hfz28_3, hfz28_4, hfz28_5⟩ := kz6f BK11517))
  generalize hW_ : ((((((w23.setCell ⟨gb11517, 0, none⟩ (.bool t11511)).setCell ⟨gb11517, 1, none⟩ (.int .i64 t11512)).setCell ⟨gb11517, 2, none⟩ (.int .i64 t11513)).setCell ⟨gb11517, 3, none⟩ (.bool t11514)).setCell ⟨gb11517, 4, none⟩ (.int .i64 t11515)).setCell ⟨gb11517, 5, none⟩ (.int .i64 t11516)) = w29
  replace BK11501 := kr BK11501 hW_
  replace BK11502 := kr BK11502 hW_
  replace BK11503 := kr BK11503 hW_
  replace BK11510 := kr BK11510 hW_
  replace BK11517 := kr (o' := .cells #[.bool t11511, .int .i64 t11512, .int .i64 t11513, .bool t11514, .int .i64 t11515, .int .i64 t11516] 29 (0, 0)) BK11517 hW_
  replace HB := kq HB hW_
  clear hW_
  replace BK11501 := Aside0.mk (blk_drew BK11501.out)
  replace BK11502 := Aside0.mk (blk_drew BK11502.out)
  replace BK11503 := Aside0.mk (blk_drew BK11503.out)
  replace BK11510 := Aside0.mk (blk_drew BK11510.out)
  replace BK11517 := Aside0.mk (blk_drew BK11517.out)
  replace HB := Aside0.mk (below_drew1 HB.out)
  refine start_ (n := 13) (S := fun w' => w'.cell? ⟨gb11510, 0, none⟩ = some (.bool t11504) ∧ w'.cell? ⟨gb11510, 1, none⟩ = some (.int .i64 t11505) ∧ w'.cell? ⟨gb11510, 2, none⟩ = some (.int .i64 t11506) ∧ w'.cell? ⟨gb11510, 3, none⟩ = some (.bool t11507) ∧ w'.cell? ⟨gb11510, 4, none⟩ = some (.int .i64 t11508) ∧ w'.cell? ⟨gb11510, 5, none⟩ = some (.int .i64 t11509) ∧ w'.cell? ⟨gb11517, 0, none⟩ = some (.bool t11511) ∧ w'.cell? ⟨gb11517, 1, none⟩ = some (.int .i64 t11512) ∧ w'.cell? ⟨gb11517, 2, none⟩ = some (.int .i64 t11513) ∧ w'.cell? ⟨gb11517, 3, none⟩ = some (.bool t11514) ∧ w'.cell? ⟨gb11517, 4, none⟩ = some (.int .i64 t11515) ∧ w'.cell? ⟨gb11517, 5, none⟩ = some (.int .i64 t11516)) (ds := []) #[false, false, false, false, false, false, false, false, false, false, false, false, false] (by kernel_rfl) rfl rfl ⟨bc BK11510 0, bc BK11510 1, bc BK11510 2, bc BK11510 3, bc BK11510 4, bc BK11510 5, bc BK11517 0, bc BK11517 1, bc BK11517 2, bc BK11517 3, bc BK11517 4, bc BK11517 5⟩ (fun hHeld => ?_); refine with_tabW flyballref21_Meet.tab3 flyballref21_Meet.bits3 (fun HT_ HW_ => ?_)
  generalize w29.drew = w30 at BK11501 BK11502 BK11503 BK11510 BK11517 HB hHeld ⊢
  refine pur 0 (some 11) #[true, false, false, false, false, false, false, false, false, false, false, false, false] (any_of HT_.out (by kernel_rfl)) ?_
  refine pur 2 (some 13) #[true, false, true, false, false, false, false, false, false, false, false, false, false] (any_of HT_.out (by kernel_rfl)) ?_
  refine pur 5 (some 16) #[true, false, true, false, false, true, false, false, false, false, false, false, false] (any_of HT_.out (by kernel_rfl)) ?_
  refine pur 7 (some 18) #[true, false, true, false, false, true, false, true, false, false, false, false, false] (any_of HT_.out (by kernel_rfl)) ?_
  refine tak 1 (some 12) #[true, true, true, false, false, true, false, true, false, false, false, false, false] (take_ofW HT_.out HW_.out (by kernel_rfl)) hHeld ?_
  refine tak 3 (some 14) #[true, true, true, true, false, true, false, true, false, false, false, false, false] (take_ofW HT_.out HW_.out (by kernel_rfl)) hHeld ?_
  refine tak 6 (some 17) #[true, true, true, true, false, true, true, true, false, false, false, false, false] (take_ofW HT_.out HW_.out (by kernel_rfl)) hHeld ?_
  refine tak 8 (some 19) #[true, true, true, true, false, true, true, true, true, false, false, false, false] (take_ofW HT_.out HW_.out (by kernel_rfl)) hHeld ?_
  refine one_ (i := 4) (N := some 15) #[true, true, true, true, true, true, true, true, true, false, false, false, false] rfl rfl (one_of HT_.out (by kernel_rfl)) (by decide) (fun K hK => ?_)
  refine gc Try.func46 #[.agg #[.bool t11504, .int .i64 t11505, .int .i64 t11506], .agg #[.bool t11511, .int .i64 t11512, .int .i64 t11513]] (flyballref17_Meet.calls t11504 t11505 t11506 t11511 t11512 t11513 t11518 t11519 t11520 _ A5.out) ?_
  intro w31 hb
  replace BK11501 := kb BK11501 hb
  replace BK11502 := kb BK11502 hb
  replace BK11503 := kb BK11503 hb
  replace BK11510 := kb BK11510 hb
  replace BK11517 := kb BK11517 hb
  replace HB := kh HB hb
  (try clear hb)
  refine hK.out _ _ ⟨bc BK11510 0, bc BK11510 1, bc BK11510 2, bc BK11510 3, bc BK11510 4, bc BK11510 5, bc BK11517 0, bc BK11517 1, bc BK11517 2, bc BK11517 3, bc BK11517 4, bc BK11517 5⟩ (fun hHeld => ?_)
  clear hK K
  refine nrm (some 15) ?_
  refine one_ (i := 9) (N := some 20) #[true, true, true, true, true, true, true, true, true, true, false, false, false] rfl rfl (one_of HT_.out (by kernel_rfl)) (by decide) (fun K hK => ?_)
  refine gc Try.func46 #[.agg #[.bool t11507, .int .i64 t11508, .int .i64 t11509], .agg #[.bool t11514, .int .i64 t11515, .int .i64 t11516]] (flyballref17_Meet.calls t11507 t11508 t11509 t11514 t11515 t11516 t11521 t11522 t11523 _ A6.out) ?_
  intro w32 hb
  replace BK11501 := kb BK11501 hb
  replace BK11502 := kb BK11502 hb
  replace BK11503 := kb BK11503 hb
  replace BK11510 := kb BK11510 hb
  replace BK11517 := kb BK11517 hb
  replace HB := kh HB hb
  (try clear hb)
  refine hK.out _ _ ⟨bc BK11510 0, bc BK11510 1, bc BK11510 2, bc BK11510 3, bc BK11510 4, bc BK11510 5, bc BK11517 0, bc BK11517 1, bc BK11517 2, bc BK11517 3, bc BK11517 4, bc BK11517 5⟩ (fun hHeld => ?_)
  clear hK K
  refine nrm (some 20) ?_
  refine pur 10 (some 21) #[true, true, true, true, true, true, true, true, true, true, true, false, false] (any_of HT_.out (by kernel_rfl)) ?_
  refine one_ (i := 11) (N := some 22) #[true, true, true, true, true, true, true, true, true, true, true, true, false] rfl rfl (one_of HT_.out (by kernel_rfl)) (by decide) (fun K hK => ?_)
  refine gc Try.func62 #[.agg #[.bool t11518, .int .i64 t11519, .int .i64 t11520, .bool t11521, .int .i64 t11522, .int .i64 t11523]] (flyballref21_Norm.calls t11518 t11519 t11520 t11521 t11522 t11523 t11524 t11525 t11526 t11527 t11528 t11529 _ A7.out) ?_
  intro w33 hb
  replace BK11501 := kb BK11501 hb
  replace BK11502 := kb BK11502 hb
  replace BK11503 := kb BK11503 hb
  replace BK11510 := kb BK11510 hb
  replace BK11517 := kb BK11517 hb
  replace HB := kh HB hb
  (try clear hb)
  refine hK.out _ _ ⟨bc BK11510 0, bc BK11510 1, bc BK11510 2, bc BK11510 3, bc BK11510 4, bc BK11510 5, bc BK11517 0, bc BK11517 1, bc BK11517 2, bc BK11517 3, bc BK11517 4, bc BK11517 5⟩ (fun hHeld => ?_)
  clear hK K
  refine nrm (some 22) ?_
  refine one_ (i := 12) (N := none) #[true, true, true, true, true, true, true, true, true, true, true, true, true] rfl rfl (one_of HT_.out (by kernel_rfl)) (by decide) (fun K hK => ?_)
  have hs34 : w33.cell? ⟨gb11503, 0, none⟩ = some (.bool false) := bc BK11503 0
  have hfs34 := blk_frozen BK11503.out 0
  have hns34_0 := NB11501_11503.out
  have hns34_1 := NB11502_11503.out
  have hns34_3 := NB11510_11503.out
  have hns34_4 := NB11517_11503.out
  have hms34_0 := NB11503_11501.out
  have hms34_1 := NB11503_11502.out
  have hms34_3 := NB11503_11510.out
  have hms34_4 := NB11503_11517.out
  have hs35 : w33.cell? ⟨gb11503, 1, none⟩ = some (.int .i64 0) := bc BK11503 1
  have hfs35 := blk_frozen BK11503.out 1
  have hs36 : w33.cell? ⟨gb11503, 2, none⟩ = some (.int .i64 0) := bc BK11503 2
  have hfs36 := blk_frozen BK11503.out 2
  have hs37 : w33.cell? ⟨gb11503, 3, none⟩ = some (.bool false) := bc BK11503 3
  have hfs37 := blk_frozen BK11503.out 3
  have hs38 : w33.cell? ⟨gb11503, 4, none⟩ = some (.int .i64 0) := bc BK11503 4
  have hfs38 := blk_frozen BK11503.out 4
  have hs39 : w33.cell? ⟨gb11503, 5, none⟩ = some (.int .i64 0) := bc BK11503 5
  have hfs39 := blk_frozen BK11503.out 5
  refine skip_ (w1 := ?_) (by rfl) rfl ?_ ?_
  rotate_left
  · go_simp
    rfl
  refine hK.out _ _ ⟨cf hHeld.1, cf hHeld.2.1, cf hHeld.2.2.1, cf hHeld.2.2.2.1, cf hHeld.2.2.2.2.1, cf hHeld.2.2.2.2.2.1, cf hHeld.2.2.2.2.2.2.1, cf hHeld.2.2.2.2.2.2.2.1, cf hHeld.2.2.2.2.2.2.2.2.1, cf hHeld.2.2.2.2.2.2.2.2.2.1, cf hHeld.2.2.2.2.2.2.2.2.2.2.1, cf hHeld.2.2.2.2.2.2.2.2.2.2.2⟩ (fun hHeld => ?_)
  clear hK K
  refine done_ (done_of HT_.out (by kernel_rfl)) ?_
  try go_wp2
  refine bodyPost_ret (results_cell_row rfl _ _ gb11503 29 #[.bool t11524, .int .i64 t11525, .int .i64 t11526, .bool t11527, .int .i64 t11528, .int .i64 t11529] (0, 0) _ rfl (pK BK11503) Try.underlying29 rfl (by kernel_rfl)) rfl ?_
  exact ⟨pe, pl HB⟩
end Go.Proofs.Ytinmgnlofininaa.PAll
end
