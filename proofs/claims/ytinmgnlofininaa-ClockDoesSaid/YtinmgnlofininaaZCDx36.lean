/- Functions of the print, turned to this claim. -/
import Derived.Test.YtinmgnlofininaaZCDW
import Derived.Test.YtinmgnlofininaaZCDx0
import Derived.Test.YtinmgnlofininaaZCDx17
import Derived.Test.YtinmgnlofininaaZCDx34
section
namespace Go.Proofs.Ytinmgnlofininaa.PAll
open Go.RowKit Go.Proofs.YtinmgnlofininaaW.PrintWords Go.Proofs.YtinmgnlofininaaW.PrintLast Go.Proofs.YtinmgnlofininaaW.PrintMore
attribute [local go_sem] max2_int min2_int max_two min_two max_three min_three max_four min_four   -- for this text's walks alone
set_option linter.unusedVariables false
set_option linter.unusedSimpArgs false
/-! ### flyballref21_Meet: function 23 -/
def flyballref21_Meet.f (a0_0 : Bool) (a0_1 : Int) (a0_2 : Int) (a0_3 : Bool) (a0_4 : Int) (a0_5 : Int) (a1_0 : Bool) (a1_1 : Int) (a1_2 : Int) (a1_3 : Bool) (a1_4 : Int) (a1_5 : Int) : Option (Bool × Int × Int × Bool × Int × Int) := (flyballref21_Norm.f a0_0 a0_1 a0_2 a0_3 a0_4 a0_5).bind fun bt11504 => ((flyballref21_Norm.f a1_0 a1_1 a1_2 a1_3 a1_4 a1_5).bind fun bt11511 => ((flyballref17_Meet.f bt11504.1 bt11504.2.1 bt11504.2.2.1 bt11511.1 bt11511.2.1 bt11511.2.2.1).bind fun bt11518 => ((flyballref17_Meet.f bt11504.2.2.2.1 bt11504.2.2.2.2.1 bt11504.2.2.2.2.2 bt11511.2.2.2.1 bt11511.2.2.2.2.1 bt11511.2.2.2.2.2).bind fun bt11521 => ((flyballref21_Norm.f bt11518.1 bt11518.2.1 bt11518.2.2 bt11521.1 bt11521.2.1 bt11521.2.2).bind fun bt11524 => (some (bt11524.1, bt11524.2.1, bt11524.2.2.1, bt11524.2.2.2.1, bt11524.2.2.2.2.1, bt11524.2.2.2.2.2))))))
def flyballref21_Meet.T3 : Bool × List (List Nat × List Nat) := (true, [([], []), ([0], [0]), ([], []), ([2], [2]), ([1, 3], [1, 3]), ([], []), ([5], [5]), ([], []), ([7], [7]), ([6, 8, 4], [6, 8]), ([4, 9], [4, 9]), ([10, 9], [10]), ([11, 11, 0, 1, 2, 3, 4, 5, 6, 7, 8, 9, 10, 11], [11])])
def flyballref21_Meet.B3 : List Nat := [0, 1, 0, 4, 15, 0, 32, 0, 128, 511, 1023, 2047, 4095]
theorem flyballref21_Meet.tab3 : rtab .any (opsOf Try.f23 3) = flyballref21_Meet.T3 := by kernel_rfl
theorem flyballref21_Meet.bits3 : waitsOk flyballref21_Meet.T3.2 flyballref21_Meet.B3 = true := by kernel_rfl
set_option maxHeartbeats 8000000 in
set_option maxRecDepth 100000 in
theorem flyballref21_Meet.calls (a0_0 : Bool) (a0_1 : Int) (a0_2 : Int) (a0_3 : Bool) (a0_4 : Int) (a0_5 : Int) (a1_0 : Bool) (a1_1 : Int) (a1_2 : Int) (a1_3 : Bool) (a1_4 : Int) (a1_5 : Int) (r1 : Bool) (r2 : Int) (r3 : Int) (r4 : Bool) (r5 : Int) (r6 : Int) (w : World) (h : flyballref21_Meet.f a0_0 a0_1 a0_2 a0_3 a0_4 a0_5 a1_0 a1_1 a1_2 a1_3 a1_4 a1_5 = some (r1, r2, r3, r4, r5, r6)) :
    Calls Try.prog 23 #[.agg #[.bool a0_0, .int .i64 a0_1, .int .i64 a0_2, .bool a0_3, .int .i64 a0_4, .int .i64 a0_5], .agg #[.bool a1_0, .int .i64 a1_1, .int .i64 a1_2, .bool a1_3, .int .i64 a1_4, .int .i64 a1_5]] w fun e w' => e = .returned (.agg #[.bool r1, .int .i64 r2, .int .i64 r3, .bool r4, .int .i64 r5, .int .i64 r6]) ∧ Below w.heap.size w w' := by
  have hu29 := Try.underlying29
  have hu23 := Try.underlying23
  have HB := Aside0.mk (Below.refl w.heap.size w)
  have H := h
  clear h
  unfold flyballref21_Meet.f at H
  obtain ⟨⟨t11504, t11505, t11506, t11507, t11508, t11509⟩, A30, H⟩ := Option.bind_eq_some_iff.mp H
  have A3 := Aside0.mk A30
  clear A30
  (try dsimp only at H)
  obtain ⟨⟨t11511, t11512, t11513, t11514, t11515, t11516⟩, A40, H⟩ := Option.bind_eq_some_iff.mp H
  have A4 := Aside0.mk A40
  clear A40
  (try dsimp only at H)
  obtain ⟨⟨t11518, t11519, t11520⟩, A50, H⟩ := Option.bind_eq_some_iff.mp H
  have A5 := Aside0.mk A50
  clear A50
  (try dsimp only at H)
  obtain ⟨⟨t11521, t11522, t11523⟩, A60, H⟩ := Option.bind_eq_some_iff.mp H
  have A6 := Aside0.mk A60
  clear A60
  (try dsimp only at H)
  obtain ⟨⟨t11524, t11525, t11526, t11527, t11528, t11529⟩, A70, H⟩ := Option.bind_eq_some_iff.mp H
  have A7 := Aside0.mk A70
  clear A70
  (try dsimp only at H)
  simp only [Option.some.injEq, Prod.mk.injEq] at H
  obtain ⟨rfl, rfl, rfl, rfl, rfl, rfl⟩ := H
  go_enter Try.func23, Try.ntmps23
  try go_wp2_with (first | ((with_reducible refine gate_dst (N := 2) rfl ?_); refine kx 2 #[.bool a0_0, .int .i64 a0_1, .int .i64 a0_2, .bool a0_3, .int .i64 a0_4, .int .i64 a0_5] 29 ?_; intro gb11501 hg w8 hbox hb; have BK11501 := Aside0.mk (hbox); have GW11501 := kg HB hg; have GE11501 := kg HB hg; replace HB := kh HB hb; clear hb hbox hg) | ((with_reducible refine gate_dst (N := 3) rfl ?_); refine kx 3 #[.bool a1_0, .int .i64 a1_1, .int .i64 a1_2, .bool a1_3, .int .i64 a1_4, .int .i64 a1_5] 29 ?_; intro gb11502 hg w9 hbox hb; have BK11502 := Aside0.mk (hbox); have GW11502 := kg HB hg; have GE11502 := kg HB hg; have NB11501_11502 := kn BK11501 hg; have NB11502_11501 := km BK11501 hg; replace BK11501 := kb BK11501 hb; replace HB := kh HB hb; clear hb hbox hg) | ((with_reducible refine gate_dst (N := 4) rfl ?_); refine kx 4 #[.bool false, .int .i64 0, .int .i64 0, .bool false, .int .i64 0, .int .i64 0] 29 ?_; intro gb11503 hg w10 hbox hb; have BK11503 := Aside0.mk (hbox); have GW11503 := kg HB hg; have GE11503 := kg HB hg; have NB11501_11503 := kn BK11501 hg; have NB11503_11501 := km BK11501 hg; have NB11502_11503 := kn BK11502 hg; have NB11503_11502 := km BK11502 hg; replace BK11501 := kb BK11501 hb; replace BK11502 := kb BK11502 hb; replace HB := kh HB hb; clear hb hbox hg; have hnb11 := NB11501_11502.out; have hnc11 := NB11502_11501.out; have hnb12 := NB11501_11503.out; have hnc12 := NB11503_11501.out; have ⟨hcz13_0, hcz13_1, hcz13_2, hcz13_3, hcz13_4, hcz13_5, hfz13_0, hfz13_1, hfz13_2, hfz13_3, hfz13_4, hfz13_5⟩ := kz6f BK11501) | ((with_reducible refine gate_callee (f := 62) rfl ?_); refine kc (some 8) Try.func62 #[.agg #[.bool a0_0, .int .i64 a0_1, .int .i64 a0_2, .bool a0_3, .int .i64 a0_4, .int .i64 a0_5]] (flyballref21_Norm.calls a0_0 a0_1 a0_2 a0_3 a0_4 a0_5 t11504 t11505 t11506 t11507 t11508 t11509 _ A3.out) ?_; intro w14 hb; replace BK11501 := kb BK11501 hb; replace BK11502 := kb BK11502 hb; replace BK11503 := kb BK11503 hb; replace HB := kh HB hb; (try clear hb)) | ((with_reducible refine gate_dst (N := 5) rfl ?_); refine kx 5 #[.bool false, .int .i64 0, .int .i64 0, .bool false, .int .i64 0, .int .i64 0] 29 ?_; intro gb11510 hg w15 hbox hb; have BK11510 := Aside0.mk (hbox); have GW11510 := kg HB hg; have GE11510 := kg HB hg; have NB11501_11510 := kn BK11501 hg; have NB11510_11501 := km BK11501 hg; have NB11502_11510 := kn BK11502 hg; have NB11510_11502 := km BK11502 hg; have NB11503_11510 := kn BK11503 hg; have NB11510_11503 := km BK11503 hg; replace BK11501 := kb BK11501 hb; replace BK11502 := kb BK11502 hb; replace BK11503 := kb BK11503 hb; replace HB := kh HB hb; clear hb hbox hg; have hnb16 := NB11510_11501.out; have hnc16 := NB11501_11510.out; have hnb17 := NB11510_11502.out; have hnc17 := NB11502_11510.out; have hnb18 := NB11510_11503.out; have hnc18 := NB11503_11510.out; have ⟨hcz19_0, hcz19_1, hcz19_2, hcz19_3, hcz19_4, hcz19_5, hfz19_0, hfz19_1, hfz19_2, hfz19_3, hfz19_4, hfz19_5⟩ := kz6f BK11510; have hnb20 := NB11502_11503.out; have hnc20 := NB11503_11502.out; have ⟨hcz21_0, hcz21_1, hcz21_2, hcz21_3, hcz21_4, hcz21_5, hfz21_0, hfz21_1, hfz21_2, hfz21_3, hfz21_4, hfz21_5⟩ := kz6f BK11502) | ((with_reducible refine gate_callee (f := 62) rfl ?_); refine kc (some 10) Try.func62 #[.agg #[.bool a1_0, .int .i64 a1_1, .int .i64 a1_2, .bool a1_3, .int .i64 a1_4, .int .i64 a1_5]] (flyballref21_Norm.calls a1_0 a1_1 a1_2 a1_3 a1_4 a1_5 t11511 t11512 t11513 t11514 t11515 t11516 _ A4.out) ?_; intro w22 hb; replace BK11501 := kb BK11501 hb; replace BK11502 := kb BK11502 hb; replace BK11503 := kb BK11503 hb; replace BK11510 := kb (o' := .cells #[.bool t11504, .int .i64 t11505, .int .i64 t11506, .bool t11507, .int .i64 t11508, .int .i64 t11509] 29 (0, 0)) BK11510 hb; replace HB := kh HB hb; (try clear hb)) | ((with_reducible refine gate_dst (N := 6) rfl ?_); refine kx 6 #[.bool false, .int .i64 0, .int .i64 0, .bool false, .int .i64 0, .int .i64 0] 29 ?_; intro gb11517 hg w23 hbox hb; have BK11517 := Aside0.mk (hbox); have GW11517 := kg HB hg; have GE11517 := kg HB hg; have NB11501_11517 := kn BK11501 hg; have NB11517_11501 := km BK11501 hg; have NB11502_11517 := kn BK11502 hg; have NB11517_11502 := km BK11502 hg; have NB11503_11517 := kn BK11503 hg; have NB11517_11503 := km BK11503 hg; have NB11510_11517 := kn BK11510 hg; have NB11517_11510 := km BK11510 hg; replace BK11501 := kb BK11501 hb; replace BK11502 := kb BK11502 hb; replace BK11503 := kb BK11503 hb; replace BK11510 := kb BK11510 hb; replace HB := kh HB hb; clear hb hbox hg; have hnb24 := NB11517_11501.out; have hnc24 := NB11501_11517.out; have hnb25 := NB11517_11502.out; have hnc25 := NB11502_11517.out; have hnb26 := NB11517_11503.out; have hnc26 := NB11503_11517.out; have hnb27 := NB11517_11510.out; have hnc27 := NB11510_11517.out; have ⟨hcz28_0, hcz28_1, hcz28_2, hcz28_3, hcz28_4, hcz28_5, hfz28_0, hfz28_1, hfz28_2, hfz28_3, hfz28_4, hfz28_5⟩ := kz6f BK11517))
  generalize hW_ : ((((((w23.setCell ⟨gb11517, 0, none⟩ (.bool t11511)).setCell ⟨gb11517, 1, none⟩ (.int .i64 t11512)).setCell ⟨gb11517, 2, none⟩ (.int .i64 t11513)).setCell ⟨gb11517, 3, none⟩ (.bool t11514)).setCell ⟨gb11517, 4, none⟩ (.int .i64 t11515)).setCell ⟨gb11517, 5, none⟩ (.int .i64 t11516)) = w29
  replace BK11501 := kr BK11501 hW_
  replace BK11502 := kr BK11502 hW_
  replace BK11503 := kr BK11503 hW_
  replace BK11510 := kr BK11510 hW_
  replace BK11517 := kr (o' := .cells #[.bool t11511, .int .i64 t11512, .int .i64 t11513, .bool t11514, .int .i64 t11515, .int .i64 t11516] 29 (0, 0)) BK11517 hW_
  replace HB := kq HB hW_
  clear hW_
  replace BK11501 := Aside0.mk (blk_drew BK11501.out)
  replace BK11502 := Aside0.mk (blk_drew BK11502.out)
  replace BK11503 := Aside0.mk (blk_drew BK11503.out)
  replace BK11510 := Aside0.mk (blk_drew BK11510.out)
  replace BK11517 := Aside0.mk (blk_drew BK11517.out)
  replace HB := Aside0.mk (below_drew1 HB.out)
  refine start_ (n := 13) (S := fun w' => w'.cell? ⟨gb11510, 0, none⟩ = some (.bool t11504) ∧ w'.cell? ⟨gb11510, 1, none⟩ = some (.int .i64 t11505) ∧ w'.cell? ⟨gb11510, 2, none⟩ = some (.int .i64 t11506) ∧ w'.cell? ⟨gb11510, 3, none⟩ = some (.bool t11507) ∧ w'.cell? ⟨gb11510, 4, none⟩ = some (.int .i64 t11508) ∧ w'.cell? ⟨gb11510, 5, none⟩ = some (.int .i64 t11509) ∧ w'.cell? ⟨gb11517, 0, none⟩ = some (.bool t11511) ∧ w'.cell? ⟨gb11517, 1, none⟩ = some (.int .i64 t11512) ∧ w'.cell? ⟨gb11517, 2, none⟩ = some (.int .i64 t11513) ∧ w'.cell? ⟨gb11517, 3, none⟩ = some (.bool t11514) ∧ w'.cell? ⟨gb11517, 4, none⟩ = some (.int .i64 t11515) ∧ w'.cell? ⟨gb11517, 5, none⟩ = some (.int .i64 t11516)) (ds := []) #[false, false, false, false, false, false, false, false, false, false, false, false, false] (by kernel_rfl) rfl rfl ⟨bc BK11510 0, bc BK11510 1, bc BK11510 2, bc BK11510 3, bc BK11510 4, bc BK11510 5, bc BK11517 0, bc BK11517 1, bc BK11517 2, bc BK11517 3, bc BK11517 4, bc BK11517 5⟩ (fun hHeld => ?_); refine with_tabW flyballref21_Meet.tab3 flyballref21_Meet.bits3 (fun HT_ HW_ => ?_)
  generalize w29.drew = w30 at BK11501 BK11502 BK11503 BK11510 BK11517 HB hHeld ⊢
  refine pur 0 (some 11) #[true, false, false, false, false, false, false, false, false, false, false, false, false] (any_of HT_.out (by kernel_rfl)) ?_
  refine pur 2 (some 13) #[true, false, true, false, false, false, false, false, false, false, false, false, false] (any_of HT_.out (by kernel_rfl)) ?_
  refine pur 5 (some 16) #[true, false, true, false, false, true, false, false, false, false, false, false, false] (any_of HT_.out (by kernel_rfl)) ?_
  refine pur 7 (some 18) #[true, false, true, false, false, true, false, true, false, false, false, false, false] (any_of HT_.out (by kernel_rfl)) ?_
  refine tak 1 (some 12) #[true, true, true, false, false, true, false, true, false, false, false, false, false] (take_ofW HT_.out HW_.out (by kernel_rfl)) hHeld ?_
  refine tak 3 (some 14) #[true, true, true, true, false, true, false, true, false, false, false, false, false] (take_ofW HT_.out HW_.out (by kernel_rfl)) hHeld ?_
  refine tak 6 (some 17) #[true, true, true, true, false, true, true, true, false, false, false, false, false] (take_ofW HT_.out HW_.out (by kernel_rfl)) hHeld ?_
  refine tak 8 (some 19) #[true, true, true, true, false, true, true, true, true, false, false, false, false] (take_ofW HT_.out HW_.out (by kernel_rfl)) hHeld ?_
  refine one_ (i := 4) (N := some 15) #[true, true, true, true, true, true, true, true, true, false, false, false, false] rfl rfl (one_of HT_.out (by kernel_rfl)) (by decide) (fun K hK => ?_)
  refine gc Try.func46 #[.agg #[.bool t11504, .int .i64 t11505, .int .i64 t11506], .agg #[.bool t11511, .int .i64 t11512, .int .i64 t11513]] (flyballref17_Meet.calls t11504 t11505 t11506 t11511 t11512 t11513 t11518 t11519 t11520 _ A5.out) ?_
  intro w31 hb
  replace BK11501 := kb BK11501 hb
  replace BK11502 := kb BK11502 hb
  replace BK11503 := kb BK11503 hb
  replace BK11510 := kb BK11510 hb
  replace BK11517 := kb BK11517 hb
  replace HB := kh HB hb
  (try clear hb)
  refine hK.out _ _ ⟨bc BK11510 0, bc BK11510 1, bc BK11510 2, bc BK11510 3, bc BK11510 4, bc BK11510 5, bc BK11517 0, bc BK11517 1, bc BK11517 2, bc BK11517 3, bc BK11517 4, bc BK11517 5⟩ (fun hHeld => ?_)
  clear hK K
  refine nrm (some 15) ?_
  refine one_ (i := 9) (N := some 20) #[true, true, true, true, true, true, true, true, true, true, false, false, false] rfl rfl (one_of HT_.out (by kernel_rfl)) (by decide) (fun K hK => ?_)
  refine gc Try.func46 #[.agg #[.bool t11507, .int .i64 t11508, .int .i64 t11509], .agg #[.bool t11514, .int .i64 t11515, .int .i64 t11516]] (flyballref17_Meet.calls t11507 t11508 t11509 t11514 t11515 t11516 t11521 t11522 t11523 _ A6.out) ?_
  intro w32 hb
  replace BK11501 := kb BK11501 hb
  replace BK11502 := kb BK11502 hb
  replace BK11503 := kb BK11503 hb
  replace BK11510 := kb BK11510 hb
  replace BK11517 := kb BK11517 hb
  replace HB := kh HB hb
  (try clear hb)
  refine hK.out _ _ ⟨bc BK11510 0, bc BK11510 1, bc BK11510 2, bc BK11510 3, bc BK11510 4, bc BK11510 5, bc BK11517 0, bc BK11517 1, bc BK11517 2, bc BK11517 3, bc BK11517 4, bc BK11517 5⟩ (fun hHeld => ?_)
  clear hK K
  refine nrm (some 20) ?_
  refine pur 10 (some 21) #[true, true, true, true, true, true, true, true, true, true, true, false, false] (any_of HT_.out (by kernel_rfl)) ?_
  refine one_ (i := 11) (N := some 22) #[true, true, true, true, true, true, true, true, true, true, true, true, false] rfl rfl (one_of HT_.out (by kernel_rfl)) (by decide) (fun K hK => ?_)
  refine gc Try.func62 #[.agg #[.bool t11518, .int .i64 t11519, .int .i64 t11520, .bool t11521, .int .i64 t11522, .int .i64 t11523]] (flyballref21_Norm.calls t11518 t11519 t11520 t11521 t11522 t11523 t11524 t11525 t11526 t11527 t11528 t11529 _ A7.out) ?_
  intro w33 hb
  replace BK11501 := kb BK11501 hb
  replace BK11502 := kb BK11502 hb
  replace BK11503 := kb BK11503 hb
  replace BK11510 := kb BK11510 hb
  replace BK11517 := kb BK11517 hb
  replace HB := kh HB hb
  (try clear hb)
  refine hK.out _ _ ⟨bc BK11510 0, bc BK11510 1, bc BK11510 2, bc BK11510 3, bc BK11510 4, bc BK11510 5, bc BK11517 0, bc BK11517 1, bc BK11517 2, bc BK11517 3, bc BK11517 4, bc BK11517 5⟩ (fun hHeld => ?_)
  clear hK K
  refine nrm (some 22) ?_
  refine one_ (i := 12) (N := none) #[true, true, true, true, true, true, true, true, true, true, true, true, true] rfl rfl (one_of HT_.out (by kernel_rfl)) (by decide) (fun K hK => ?_)
  have hs34 : w33.cell? ⟨gb11503, 0, none⟩ = some (.bool false) := bc BK11503 0
  have hfs34 := blk_frozen BK11503.out 0
  have hns34_0 := NB11501_11503.out
  have hns34_1 := NB11502_11503.out
  have hns34_3 := NB11510_11503.out
  have hns34_4 := NB11517_11503.out
  have hms34_0 := NB11503_11501.out
  have hms34_1 := NB11503_11502.out
  have hms34_3 := NB11503_11510.out
  have hms34_4 := NB11503_11517.out
  have hs35 : w33.cell? ⟨gb11503, 1, none⟩ = some (.int .i64 0) := bc BK11503 1
  have hfs35 := blk_frozen BK11503.out 1
  have hs36 : w33.cell? ⟨gb11503, 2, none⟩ = some (.int .i64 0) := bc BK11503 2
  have hfs36 := blk_frozen BK11503.out 2
  have hs37 : w33.cell? ⟨gb11503, 3, none⟩ = some (.bool false) := bc BK11503 3
  have hfs37 := blk_frozen BK11503.out 3
  have hs38 : w33.cell? ⟨gb11503, 4, none⟩ = some (.int .i64 0) := bc BK11503 4
  have hfs38 := blk_frozen BK11503.out 4
  have hs39 : w33.cell? ⟨gb11503, 5, none⟩ = some (.int .i64 0) := bc BK11503 5
  have hfs39 := blk_frozen BK11503.out 5
  refine skip_ (w1 := ?_) (by rfl) rfl ?_ ?_
  rotate_left
  · go_simp
    rfl
  refine hK.out _ _ ⟨cf hHeld.1, cf hHeld.2.1, cf hHeld.2.2.1, cf hHeld.2.2.2.1, cf hHeld.2.2.2.2.1, cf hHeld.2.2.2.2.2.1, cf hHeld.2.2.2.2.2.2.1, cf hHeld.2.2.2.2.2.2.2.1, cf hHeld.2.2.2.2.2.2.2.2.1, cf hHeld.2.2.2.2.2.2.2.2.2.1, cf hHeld.2.2.2.2.2.2.2.2.2.2.1, cf hHeld.2.2.2.2.2.2.2.2.2.2.2⟩ (fun hHeld => ?_)
  clear hK K
  refine done_ (done_of HT_.out (by kernel_rfl)) ?_
  try go_wp2
  refine bodyPost_ret (results_cell_row rfl _ _ gb11503 29 #[.bool t11524, .int .i64 t11525, .int .i64 t11526, .bool t11527, .int .i64 t11528, .int .i64 t11529] (0, 0) _ rfl (pK BK11503) Try.underlying29 rfl (by kernel_rfl)) rfl ?_
  exact ⟨pe, pl HB⟩
/-! ### flyballref21_Reduce: function 25 -/
def flyballref21_Reduce.f (k : Nat) (a0_0 : Bool) (a0_1 : Int) (a0_2 : Int) (a1_0 : Bool) (a1_1 : Int) (a1_2 : Int) (a1_3 : Bool) (a1_4 : Int) (a1_5 : Int) (a2_0 : Bool) (a2_1 : Int) (a2_2 : Int) : Option (Bool × Int × Int) := (flyballref21_Norm.f a1_0 a1_1 a1_2 a1_3 a1_4 a1_5).bind fun bt11655 => ((flyballref21_Add.f k bt11655.1 bt11655.2.1 bt11655.2.2.1 a2_0 a2_1 a2_2).bind fun bt11662 => ((flyballref17_Meet.f a0_0 a0_1 a0_2 bt11662.1 bt11662.2.1 bt11662.2.2).bind fun bt11665 => ((flyballref21_Neg.f a2_0 a2_1 a2_2).bind fun bt11668 => ((flyballref21_Add.f k bt11655.2.2.2.1 bt11655.2.2.2.2.1 bt11655.2.2.2.2.2 bt11668.1 bt11668.2.1 bt11668.2.2).bind fun bt11671 => ((flyballref17_Meet.f bt11665.1 bt11665.2.1 bt11665.2.2 bt11671.1 bt11671.2.1 bt11671.2.2).bind fun bt11674 => (some (bt11674.1, bt11674.2.1, bt11674.2.2)))))))
theorem flyballref21_Reduce.mono : ∀ a0 a1 a2 a3 a4 a5 a6 a7 a8 a9 a10 a11 k, LeO (flyballref21_Reduce.f k a0 a1 a2 a3 a4 a5 a6 a7 a8 a9 a10 a11) (flyballref21_Reduce.f (k + 1) a0 a1 a2 a3 a4 a5 a6 a7 a8 a9 a10 a11) := by
  intro a0 a1 a2 a3 a4 a5 a6 a7 a8 a9 a10 a11 k
  unfold flyballref21_Reduce.f
  repeat' first
      | (with_reducible exact flyballref21_Add.mono _ _ _ _ _ _ _)
      | (with_reducible exact LeO.refl _)
      | (with_reducible exact LeO.none _)
      | (with_reducible refine LeO.ite ?_ ?_)
      | (with_reducible refine LeO.bind ?_ (fun _ => ?_))
      | exact flyballref21_Add.mono _ _ _ _ _ _ _
      | exact LeO.none _
      | refine LeO.ite ?_ ?_
      | refine LeO.bind ?_ (fun _ => ?_)
def flyballref21_Reduce.T2 : Bool × List (List Nat × List Nat) := (true, [([], []), ([], []), ([1], [1]), ([], []), ([2, 3], [2, 3]), ([0, 4, 4], [0, 4]), ([], []), ([6], [6]), ([], []), ([8, 5], [8]), ([7, 9, 9], [7, 9]), ([5, 10, 10], [5, 10]), ([11, 11, 0, 1, 2, 3, 4, 5, 6, 7, 8, 9, 10, 11], [11])])
def flyballref21_Reduce.B2 : List Nat := [0, 0, 2, 0, 14, 31, 0, 64, 0, 319, 1023, 2047, 4095]
theorem flyballref21_Reduce.tab2 : rtab .any (opsOf Try.f25 2) = flyballref21_Reduce.T2 := by kernel_rfl
theorem flyballref21_Reduce.bits2 : waitsOk flyballref21_Reduce.T2.2 flyballref21_Reduce.B2 = true := by kernel_rfl
set_option maxHeartbeats 8000000 in
set_option maxRecDepth 100000 in
theorem flyballref21_Reduce.calls (k : Nat) (a0_0 : Bool) (a0_1 : Int) (a0_2 : Int) (a1_0 : Bool) (a1_1 : Int) (a1_2 : Int) (a1_3 : Bool) (a1_4 : Int) (a1_5 : Int) (a2_0 : Bool) (a2_1 : Int) (a2_2 : Int) (r1 : Bool) (r2 : Int) (r3 : Int) (w : World) (h : flyballref21_Reduce.f k a0_0 a0_1 a0_2 a1_0 a1_1 a1_2 a1_3 a1_4 a1_5 a2_0 a2_1 a2_2 = some (r1, r2, r3)) :
    Calls Try.prog 25 #[.agg #[.bool a0_0, .int .i64 a0_1, .int .i64 a0_2], .agg #[.bool a1_0, .int .i64 a1_1, .int .i64 a1_2, .bool a1_3, .int .i64 a1_4, .int .i64 a1_5], .agg #[.bool a2_0, .int .i64 a2_1, .int .i64 a2_2]] w fun e w' => e = .returned (.agg #[.bool r1, .int .i64 r2, .int .i64 r3]) ∧ Below w.heap.size w w' := by
  have hu23 := Try.underlying23
  have hu29 := Try.underlying29
  have HB := Aside0.mk (Below.refl w.heap.size w)
  have H := h
  clear h
  unfold flyballref21_Reduce.f at H
  obtain ⟨⟨t11655, t11656, t11657, t11658, t11659, t11660⟩, A40, H⟩ := Option.bind_eq_some_iff.mp H
  have A4 := Aside0.mk A40
  clear A40
  (try dsimp only at H)
  obtain ⟨⟨t11662, t11663, t11664⟩, A50, H⟩ := Option.bind_eq_some_iff.mp H
  have A5 := Aside0.mk A50
  clear A50
  (try dsimp only at H)
  obtain ⟨⟨t11665, t11666, t11667⟩, A60, H⟩ := Option.bind_eq_some_iff.mp H
  have A6 := Aside0.mk A60
  clear A60
  (try dsimp only at H)
  obtain ⟨⟨t11668, t11669, t11670⟩, A70, H⟩ := Option.bind_eq_some_iff.mp H
  have A7 := Aside0.mk A70
  clear A70
  (try dsimp only at H)
  obtain ⟨⟨t11671, t11672, t11673⟩, A80, H⟩ := Option.bind_eq_some_iff.mp H
  have A8 := Aside0.mk A80
  clear A80
  (try dsimp only at H)
  obtain ⟨⟨t11674, t11675, t11676⟩, A90, H⟩ := Option.bind_eq_some_iff.mp H
  have A9 := Aside0.mk A90
  clear A90
  (try dsimp only at H)
  simp only [Option.some.injEq, Prod.mk.injEq] at H
  obtain ⟨rfl, rfl, rfl⟩ := H
  go_enter Try.func25, Try.ntmps25
  try go_wp2_with (first | ((with_reducible refine gate_dst (N := 3) rfl ?_); refine kx 3 #[.bool a0_0, .int .i64 a0_1, .int .i64 a0_2] 23 ?_; intro gb11651 hg w10 hbox hb; have BK11651 := Aside0.mk (hbox); have GW11651 := kg HB hg; have GE11651 := kg HB hg; replace HB := kh HB hb; clear hb hbox hg) | ((with_reducible refine gate_dst (N := 4) rfl ?_); refine kx 4 #[.bool a1_0, .int .i64 a1_1, .int .i64 a1_2, .bool a1_3, .int .i64 a1_4, .int .i64 a1_5] 29 ?_; intro gb11652 hg w11 hbox hb; have BK11652 := Aside0.mk (hbox); have GW11652 := kg HB hg; have GE11652 := kg HB hg; have NB11651_11652 := kn BK11651 hg; have NB11652_11651 := km BK11651 hg; replace BK11651 := kb BK11651 hb; replace HB := kh HB hb; clear hb hbox hg) | ((with_reducible refine gate_dst (N := 5) rfl ?_); refine kx 5 #[.bool a2_0, .int .i64 a2_1, .int .i64 a2_2] 23 ?_; intro gb11653 hg w12 hbox hb; have BK11653 := Aside0.mk (hbox); have GW11653 := kg HB hg; have GE11653 := kg HB hg; have NB11651_11653 := kn BK11651 hg; have NB11653_11651 := km BK11651 hg; have NB11652_11653 := kn BK11652 hg; have NB11653_11652 := km BK11652 hg; replace BK11651 := kb BK11651 hb; replace BK11652 := kb BK11652 hb; replace HB := kh HB hb; clear hb hbox hg) | ((with_reducible refine gate_dst (N := 6) rfl ?_); refine kx 6 #[.bool false, .int .i64 0, .int .i64 0] 23 ?_; intro gb11654 hg w13 hbox hb; have BK11654 := Aside0.mk (hbox); have GW11654 := kg HB hg; have GE11654 := kg HB hg; have NB11651_11654 := kn BK11651 hg; have NB11654_11651 := km BK11651 hg; have NB11652_11654 := kn BK11652 hg; have NB11654_11652 := km BK11652 hg; have NB11653_11654 := kn BK11653 hg; have NB11654_11653 := km BK11653 hg; replace BK11651 := kb BK11651 hb; replace BK11652 := kb BK11652 hb; replace BK11653 := kb BK11653 hb; replace HB := kh HB hb; clear hb hbox hg; have hnb14 := NB11652_11651.out; have hnc14 := NB11651_11652.out; have hnb15 := NB11652_11653.out; have hnc15 := NB11653_11652.out; have hnb16 := NB11652_11654.out; have hnc16 := NB11654_11652.out; have ⟨hcz17_0, hcz17_1, hcz17_2, hcz17_3, hcz17_4, hcz17_5, hfz17_0, hfz17_1, hfz17_2, hfz17_3, hfz17_4, hfz17_5⟩ := kz6f BK11652) | ((with_reducible refine gate_callee (f := 62) rfl ?_); refine kc (some 9) Try.func62 #[.agg #[.bool a1_0, .int .i64 a1_1, .int .i64 a1_2, .bool a1_3, .int .i64 a1_4, .int .i64 a1_5]] (flyballref21_Norm.calls a1_0 a1_1 a1_2 a1_3 a1_4 a1_5 t11655 t11656 t11657 t11658 t11659 t11660 _ A4.out) ?_; intro w18 hb; replace BK11651 := kb BK11651 hb; replace BK11652 := kb BK11652 hb; replace BK11653 := kb BK11653 hb; replace BK11654 := kb BK11654 hb; replace HB := kh HB hb; (try clear hb)) | ((with_reducible refine gate_dst (N := 7) rfl ?_); refine kx 7 #[.bool false, .int .i64 0, .int .i64 0, .bool false, .int .i64 0, .int .i64 0] 29 ?_; intro gb11661 hg w19 hbox hb; have BK11661 := Aside0.mk (hbox); have GW11661 := kg HB hg; have GE11661 := kg HB hg; have NB11651_11661 := kn BK11651 hg; have NB11661_11651 := km BK11651 hg; have NB11652_11661 := kn BK11652 hg; have NB11661_11652 := km BK11652 hg; have NB11653_11661 := kn BK11653 hg; have NB11661_11653 := km BK11653 hg; have NB11654_11661 := kn BK11654 hg; have NB11661_11654 := km BK11654 hg; replace BK11651 := kb BK11651 hb; replace BK11652 := kb BK11652 hb; replace BK11653 := kb BK11653 hb; replace BK11654 := kb BK11654 hb; replace HB := kh HB hb; clear hb hbox hg; have hnb20 := NB11661_11651.out; have hnc20 := NB11651_11661.out; have hnb21 := NB11661_11652.out; have hnc21 := NB11652_11661.out; have hnb22 := NB11661_11653.out; have hnc22 := NB11653_11661.out; have hnb23 := NB11661_11654.out; have hnc23 := NB11654_11661.out; have ⟨hcz24_0, hcz24_1, hcz24_2, hcz24_3, hcz24_4, hcz24_5, hfz24_0, hfz24_1, hfz24_2, hfz24_3, hfz24_4, hfz24_5⟩ := kz6f BK11661))
  generalize hW_ : ((((((w19.setCell ⟨gb11661, 0, none⟩ (.bool t11655)).setCell ⟨gb11661, 1, none⟩ (.int .i64 t11656)).setCell ⟨gb11661, 2, none⟩ (.int .i64 t11657)).setCell ⟨gb11661, 3, none⟩ (.bool t11658)).setCell ⟨gb11661, 4, none⟩ (.int .i64 t11659)).setCell ⟨gb11661, 5, none⟩ (.int .i64 t11660)) = w25
  replace BK11651 := kr BK11651 hW_
  replace BK11652 := kr BK11652 hW_
  replace BK11653 := kr BK11653 hW_
  replace BK11654 := kr BK11654 hW_
  replace BK11661 := kr (o' := .cells #[.bool t11655, .int .i64 t11656, .int .i64 t11657, .bool t11658, .int .i64 t11659, .int .i64 t11660] 29 (0, 0)) BK11661 hW_
  replace HB := kq HB hW_
  clear hW_
  replace BK11651 := Aside0.mk (blk_drew BK11651.out)
  replace BK11652 := Aside0.mk (blk_drew BK11652.out)
  replace BK11653 := Aside0.mk (blk_drew BK11653.out)
  replace BK11654 := Aside0.mk (blk_drew BK11654.out)
  replace BK11661 := Aside0.mk (blk_drew BK11661.out)
  replace HB := Aside0.mk (below_drew1 HB.out)
  refine start_ (n := 13) (S := fun w' => w'.cell? ⟨gb11651, 0, none⟩ = some (.bool a0_0) ∧ w'.cell? ⟨gb11651, 1, none⟩ = some (.int .i64 a0_1) ∧ w'.cell? ⟨gb11651, 2, none⟩ = some (.int .i64 a0_2) ∧ w'.cell? ⟨gb11661, 0, none⟩ = some (.bool t11655) ∧ w'.cell? ⟨gb11661, 1, none⟩ = some (.int .i64 t11656) ∧ w'.cell? ⟨gb11661, 2, none⟩ = some (.int .i64 t11657) ∧ w'.cell? ⟨gb11661, 3, none⟩ = some (.bool t11658) ∧ w'.cell? ⟨gb11661, 4, none⟩ = some (.int .i64 t11659) ∧ w'.cell? ⟨gb11661, 5, none⟩ = some (.int .i64 t11660) ∧ w'.cell? ⟨gb11653, 0, none⟩ = some (.bool a2_0) ∧ w'.cell? ⟨gb11653, 1, none⟩ = some (.int .i64 a2_1) ∧ w'.cell? ⟨gb11653, 2, none⟩ = some (.int .i64 a2_2)) (ds := []) #[false, false, false, false, false, false, false, false, false, false, false, false, false] (by kernel_rfl) rfl rfl ⟨bc BK11651 0, bc BK11651 1, bc BK11651 2, bc BK11661 0, bc BK11661 1, bc BK11661 2, bc BK11661 3, bc BK11661 4, bc BK11661 5, bc BK11653 0, bc BK11653 1, bc BK11653 2⟩ (fun hHeld => ?_); refine with_tabW flyballref21_Reduce.tab2 flyballref21_Reduce.bits2 (fun HT_ HW_ => ?_)
  generalize w25.drew = w26 at BK11651 BK11652 BK11653 BK11654 BK11661 HB hHeld ⊢
  refine pur 1 (some 11) #[false, true, false, false, false, false, false, false, false, false, false, false, false] (any_of HT_.out (by kernel_rfl)) ?_
  refine pur 6 (some 16) #[false, true, false, false, false, false, true, false, false, false, false, false, false] (any_of HT_.out (by kernel_rfl)) ?_
  refine tak 0 (some 10) #[true, true, false, false, false, false, true, false, false, false, false, false, false] (take_ofW HT_.out HW_.out (by kernel_rfl)) hHeld ?_
  refine tak 2 (some 12) #[true, true, true, false, false, false, true, false, false, false, false, false, false] (take_ofW HT_.out HW_.out (by kernel_rfl)) hHeld ?_
  refine tak 3 (some 13) #[true, true, true, true, false, false, true, false, false, false, false, false, false] (take_ofW HT_.out HW_.out (by kernel_rfl)) hHeld ?_
  refine tak 7 (some 17) #[true, true, true, true, false, false, true, true, false, false, false, false, false] (take_ofW HT_.out HW_.out (by kernel_rfl)) hHeld ?_
  refine tak 8 (some 18) #[true, true, true, true, false, false, true, true, true, false, false, false, false] (take_ofW HT_.out HW_.out (by kernel_rfl)) hHeld ?_
  refine one_ (i := 4) (N := some 14) #[true, true, true, true, true, false, true, true, true, false, false, false, false] rfl rfl (one_of HT_.out (by kernel_rfl)) (by decide) (fun K hK => ?_)
  refine gc Try.func63 #[.agg #[.bool t11655, .int .i64 t11656, .int .i64 t11657], .agg #[.bool a2_0, .int .i64 a2_1, .int .i64 a2_2]] (flyballref21_Add.calls k t11655 t11656 t11657 a2_0 a2_1 a2_2 t11662 t11663 t11664 _ A5.out) ?_
  intro w27 hb
  replace BK11651 := kb BK11651 hb
  replace BK11652 := kb BK11652 hb
  replace BK11653 := kb BK11653 hb
  replace BK11654 := kb BK11654 hb
  replace BK11661 := kb BK11661 hb
  replace HB := kh HB hb
  (try clear hb)
  refine hK.out _ _ ⟨bc BK11651 0, bc BK11651 1, bc BK11651 2, bc BK11661 0, bc BK11661 1, bc BK11661 2, bc BK11661 3, bc BK11661 4, bc BK11661 5, bc BK11653 0, bc BK11653 1, bc BK11653 2⟩ (fun hHeld => ?_)
  clear hK K
  refine nrm (some 14) ?_
  refine one_ (i := 5) (N := some 15) #[true, true, true, true, true, true, true, true, true, false, false, false, false] rfl rfl (one_of HT_.out (by kernel_rfl)) (by decide) (fun K hK => ?_)
  refine gc Try.func46 #[.agg #[.bool a0_0, .int .i64 a0_1, .int .i64 a0_2], .agg #[.bool t11662, .int .i64 t11663, .int .i64 t11664]] (flyballref17_Meet.calls a0_0 a0_1 a0_2 t11662 t11663 t11664 t11665 t11666 t11667 _ A6.out) ?_
  intro w28 hb
  replace BK11651 := kb BK11651 hb
  replace BK11652 := kb BK11652 hb
  replace BK11653 := kb BK11653 hb
  replace BK11654 := kb BK11654 hb
  replace BK11661 := kb BK11661 hb
  replace HB := kh HB hb
  (try clear hb)
  refine hK.out _ _ ⟨bc BK11651 0, bc BK11651 1, bc BK11651 2, bc BK11661 0, bc BK11661 1, bc BK11661 2, bc BK11661 3, bc BK11661 4, bc BK11661 5, bc BK11653 0, bc BK11653 1, bc BK11653 2⟩ (fun hHeld => ?_)
  clear hK K
  refine nrm (some 15) ?_
  refine one_ (i := 9) (N := some 19) #[true, true, true, true, true, true, true, true, true, true, false, false, false] rfl rfl (one_of HT_.out (by kernel_rfl)) (by decide) (fun K hK => ?_)
  refine gc Try.func64 #[.agg #[.bool a2_0, .int .i64 a2_1, .int .i64 a2_2]] (flyballref21_Neg.calls a2_0 a2_1 a2_2 t11668 t11669 t11670 _ A7.out) ?_
  intro w29 hb
  replace BK11651 := kb BK11651 hb
  replace BK11652 := kb BK11652 hb
  replace BK11653 := kb BK11653 hb
  replace BK11654 := kb BK11654 hb
  replace BK11661 := kb BK11661 hb
  replace HB := kh HB hb
  (try clear hb)
  refine hK.out _ _ ⟨bc BK11651 0, bc BK11651 1, bc BK11651 2, bc BK11661 0, bc BK11661 1, bc BK11661 2, bc BK11661 3, bc BK11661 4, bc BK11661 5, bc BK11653 0, bc BK11653 1, bc BK11653 2⟩ (fun hHeld => ?_)
  clear hK K
  refine nrm (some 19) ?_
  refine one_ (i := 10) (N := some 20) #[true, true, true, true, true, true, true, true, true, true, true, false, false] rfl rfl (one_of HT_.out (by kernel_rfl)) (by decide) (fun K hK => ?_)
  refine gc Try.func63 #[.agg #[.bool t11658, .int .i64 t11659, .int .i64 t11660], .agg #[.bool t11668, .int .i64 t11669, .int .i64 t11670]] (flyballref21_Add.calls k t11658 t11659 t11660 t11668 t11669 t11670 t11671 t11672 t11673 _ A8.out) ?_
  intro w30 hb
  replace BK11651 := kb BK11651 hb
  replace BK11652 := kb BK11652 hb
  replace BK11653 := kb BK11653 hb
  replace BK11654 := kb BK11654 hb
  replace BK11661 := kb BK11661 hb
  replace HB := kh HB hb
  (try clear hb)
  refine hK.out _ _ ⟨bc BK11651 0, bc BK11651 1, bc BK11651 2, bc BK11661 0, bc BK11661 1, bc BK11661 2, bc BK11661 3, bc BK11661 4, bc BK11661 5, bc BK11653 0, bc BK11653 1, bc BK11653 2⟩ (fun hHeld => ?_)
  clear hK K
  refine nrm (some 20) ?_
  refine one_ (i := 11) (N := some 21) #[true, true, true, true, true, true, true, true, true, true, true, true, false] rfl rfl (one_of HT_.out (by kernel_rfl)) (by decide) (fun K hK => ?_)
  refine gc Try.func46 #[.agg #[.bool t11665, .int .i64 t11666, .int .i64 t11667], .agg #[.bool t11671, .int .i64 t11672, .int .i64 t11673]] (flyballref17_Meet.calls t11665 t11666 t11667 t11671 t11672 t11673 t11674 t11675 t11676 _ A9.out) ?_
  intro w31 hb
  replace BK11651 := kb BK11651 hb
  replace BK11652 := kb BK11652 hb
  replace BK11653 := kb BK11653 hb
  replace BK11654 := kb BK11654 hb
  replace BK11661 := kb BK11661 hb
  replace HB := kh HB hb
  (try clear hb)
  refine hK.out _ _ ⟨bc BK11651 0, bc BK11651 1, bc BK11651 2, bc BK11661 0, bc BK11661 1, bc BK11661 2, bc BK11661 3, bc BK11661 4, bc BK11661 5, bc BK11653 0, bc BK11653 1, bc BK11653 2⟩ (fun hHeld => ?_)
  clear hK K
  refine nrm (some 21) ?_
  refine one_ (i := 12) (N := none) #[true, true, true, true, true, true, true, true, true, true, true, true, true] rfl rfl (one_of HT_.out (by kernel_rfl)) (by decide) (fun K hK => ?_)
  have hs32 : w31.cell? ⟨gb11654, 0, none⟩ = some (.bool false) := bc BK11654 0
  have hfs32 := blk_frozen BK11654.out 0
  have hns32_0 := NB11651_11654.out
  have hns32_1 := NB11652_11654.out
  have hns32_2 := NB11653_11654.out
  have hns32_4 := NB11661_11654.out
  have hms32_0 := NB11654_11651.out
  have hms32_1 := NB11654_11652.out
  have hms32_2 := NB11654_11653.out
  have hms32_4 := NB11654_11661.out
  have hs33 : w31.cell? ⟨gb11654, 1, none⟩ = some (.int .i64 0) := bc BK11654 1
  have hfs33 := blk_frozen BK11654.out 1
  have hs34 : w31.cell? ⟨gb11654, 2, none⟩ = some (.int .i64 0) := bc BK11654 2
  have hfs34 := blk_frozen BK11654.out 2
  refine skip_ (w1 := ?_) (by rfl) rfl ?_ ?_
  rotate_left
  · go_simp
    rfl
  refine hK.out _ _ ⟨cf hHeld.1, cf hHeld.2.1, cf hHeld.2.2.1, cf hHeld.2.2.2.1, cf hHeld.2.2.2.2.1, cf hHeld.2.2.2.2.2.1, cf hHeld.2.2.2.2.2.2.1, cf hHeld.2.2.2.2.2.2.2.1, cf hHeld.2.2.2.2.2.2.2.2.1, cf hHeld.2.2.2.2.2.2.2.2.2.1, cf hHeld.2.2.2.2.2.2.2.2.2.2.1, cf hHeld.2.2.2.2.2.2.2.2.2.2.2⟩ (fun hHeld => ?_)
  clear hK K
  refine done_ (done_of HT_.out (by kernel_rfl)) ?_
  try go_wp2
  refine bodyPost_ret (results_cell_row rfl _ _ gb11654 23 #[.bool t11674, .int .i64 t11675, .int .i64 t11676] (0, 0) _ rfl (pK BK11654) Try.underlying23 rfl (by kernel_rfl)) rfl ?_
  exact ⟨pe, pl HB⟩
end Go.Proofs.Ytinmgnlofininaa.PAll
end
