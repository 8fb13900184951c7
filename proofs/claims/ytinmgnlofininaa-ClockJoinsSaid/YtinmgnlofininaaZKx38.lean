/- Functions of the print, turned to this claim. -/
import Derived.Test.YtinmgnlofininaaZKW
import Derived.Test.YtinmgnlofininaaZKx0
import Derived.Test.YtinmgnlofininaaZKx16
import Derived.Test.YtinmgnlofininaaZKx23
import Derived.Test.YtinmgnlofininaaZKx34
section
namespace Go.Proofs.Ytinmgnlofininaa.PAll
open Go.RowKit Go.Proofs.YtinmgnlofininaaW.PrintWords Go.Proofs.YtinmgnlofininaaW.PrintLast Go.Proofs.YtinmgnlofininaaW.PrintMore
attribute [local go_sem] max2_int min2_int max_two min_two max_three min_three max_four min_four   -- for this text's walks alone
set_option linter.unusedVariables false
set_option linter.unusedSimpArgs false
/-! ### flyballref21_Join: function 27 -/
def flyballref21_Join.f (a0_0 : Bool) (a0_1 : Int) (a0_2 : Int) (a0_3 : Bool) (a0_4 : Int) (a0_5 : Int) (a1_0 : Bool) (a1_1 : Int) (a1_2 : Int) (a1_3 : Bool) (a1_4 : Int) (a1_5 : Int) : Option (Bool × Int × Int × Bool × Int × Int) := (flyballref21_Norm.f a0_0 a0_1 a0_2 a0_3 a0_4 a0_5).bind fun bt11954 => ((flyballref21_Norm.f a1_0 a1_1 a1_2 a1_3 a1_4 a1_5).bind fun bt11961 => ((flyballref17_Join.f bt11954.1 bt11954.2.1 bt11954.2.2.1 bt11961.1 bt11961.2.1 bt11961.2.2.1).bind fun bt11968 => ((flyballref17_Join.f bt11954.2.2.2.1 bt11954.2.2.2.2.1 bt11954.2.2.2.2.2 bt11961.2.2.2.1 bt11961.2.2.2.2.1 bt11961.2.2.2.2.2).bind fun bt11971 => ((flyballref21_Norm.f bt11968.1 bt11968.2.1 bt11968.2.2 bt11971.1 bt11971.2.1 bt11971.2.2).bind fun bt11974 => (some (bt11974.1, bt11974.2.1, bt11974.2.2.1, bt11974.2.2.2.1, bt11974.2.2.2.2.1, bt11974.2.2.2.2.2))))))
def flyballref21_Join.T3 : Bool × List (List Nat × List Nat) := (true, [([], []), ([0], [0]), ([], []), ([2], [2]), ([1, 3], [1, 3]), ([], []), ([5], [5]), ([], []), ([7], [7]), ([6, 8, 4], [6, 8]), ([4, 9], [4, 9]), ([10, 9], [10]), ([11, 11, 0, 1, 2, 3, 4, 5, 6, 7, 8, 9, 10, 11], [11])])
def flyballref21_Join.B3 : List Nat := [0, 1, 0, 4, 15, 0, 32, 0, 128, 511, 1023, 2047, 4095]
theorem flyballref21_Join.tab3 : rtab .any (opsOf Try.f27 3) = flyballref21_Join.T3 := by kernel_rfl
theorem flyballref21_Join.bits3 : waitsOk flyballref21_Join.T3.2 flyballref21_Join.B3 = true := by kernel_rfl
set_option maxHeartbeats 8000000 in
set_option maxRecDepth 100000 in
theorem flyballref21_Join.calls (a0_0 : Bool) (a0_1 : Int) (a0_2 : Int) (a0_3 : Bool) (a0_4 : Int) (a0_5 : Int) (a1_0 : Bool) (a1_1 : Int) (a1_2 : Int) (a1_3 : Bool) (a1_4 : Int) (a1_5 : Int) (r1 : Bool) (r2 : Int) (r3 : Int) (r4 : Bool) (r5 : Int) (r6 : Int) (w : World) (h : flyballref21_Join.f a0_0 a0_1 a0_2 a0_3 a0_4 a0_5 a1_0 a1_1 a1_2 a1_3 a1_4 a1_5 = some (r1, r2, r3, r4, r5, r6)) :
    Calls Try.prog 27 #[.agg #[.bool a0_0, .int .i64 a0_1, .int .i64 a0_2, .bool a0_3, .int .i64 a0_4, .int .i64 a0_5], .agg #[.bool a1_0, .int .i64 a1_1, .int .i64 a1_2, .bool a1_3, .int .i64 a1_4, .int .i64 a1_5]] w fun e w' => e = .returned (.agg #[.bool r1, .int .i64 r2, .int .i64 r3, .bool r4, .int .i64 r5, .int .i64 r6]) ∧ Below w.heap.size w w' := by
  have hu29 := Try.underlying29
  have hu23 := Try.underlying23
  have HB := Aside0.mk (Below.refl w.heap.size w)
  have H := h
  clear h
  unfold flyballref21_Join.f at H
  obtain ⟨⟨t11954, t11955, t11956, t11957, t11958, t11959⟩, A30, H⟩ := Option.bind_eq_some_iff.mp H
  have A3 := Aside0.mk A30
  clear A30
  (try dsimp only at H)
  obtain ⟨⟨t11961, t11962, t11963, t11964, t11965, t11966⟩, A40, H⟩ := Option.bind_eq_some_iff.mp H
  have A4 := Aside0.mk A40
  clear A40
  (try dsimp only at H)
  obtain ⟨⟨t11968, t11969, t11970⟩, A50, H⟩ := Option.bind_eq_some_iff.mp H
  have A5 := Aside0.mk A50
  clear A50
  (try dsimp only at H)
  obtain ⟨⟨t11971, t11972, t11973⟩, A60, H⟩ := Option.bind_eq_some_iff.mp H
  have A6 := Aside0.mk A60
  clear A60
  (try dsimp only at H)
  obtain ⟨⟨t11974, t11975, t11976, t11977, t11978, t11979⟩, A70, H⟩ := Option.bind_eq_some_iff.mp H
  have A7 := Aside0.mk A70
  clear A70
  (try dsimp only at H)
  simp only [Option.some.injEq, Prod.mk.injEq] at H
  obtain ⟨rfl, rfl, rfl, rfl, rfl, rfl⟩ := H
  go_enter Try.func27, Try.ntmps27
  try go_wp2_with (first | ((with_reducible refine gate_dst (N := 2) rfl ?_); refine kx 2 #[.bool a0_0, .int .i64 a0_1, .int .i64 a0_2, .bool a0_3, .int .i64 a0_4, .int .i64 a0_5] 29 ?_; intro gb11951 hg w8 hbox hb; have BK11951 := Aside0.mk (hbox); have GW11951 := kg HB hg; have GE11951 := kg HB hg; replace HB := kh HB hb; clear hb hbox hg) | ((with_reducible refine gate_dst (N := 3) rfl ?_); refine kx 3 #[.bool a1_0, .int .i64 a1_1, .int .i64 a1_2, .bool a1_3, .int .i64 a1_4, .int .i64 a1_5] 29 ?_; intro gb11952 hg w9 hbox hb; have BK11952 := Aside0.mk (hbox); have GW11952 := kg HB hg; have GE11952 := kg HB hg; have NB11951_11952 := kn BK11951 hg; have NB11952_11951 := km BK11951 hg; replace BK11951 := kb BK11951 hb; replace HB := kh HB hb; clear hb hbox hg) | ((with_reducible refine gate_dst (N := 4) rfl ?_); refine kx 4 #[.bool false, .int .i64 0, .int .i64 0, .bool false, .int .i64 0, .int .i64 0] 29 ?_; intro gb11953 hg w10 hbox hb; have BK11953 := Aside0.mk (hbox); have GW11953 := kg HB hg; have GE11953 := kg HB hg; have NB11951_11953 := kn BK11951 hg; have NB11953_11951 := km BK11951 hg; have NB11952_11953 := kn BK11952 hg; have NB11953_11952 := km BK11952 hg; replace BK11951 := kb BK11951 hb; replace BK11952 := kb BK11952 hb; replace HB := kh HB hb; clear hb hbox hg; have hnb11 := NB11951_11952.out; have hnc11 := NB11952_11951.out; have hnb12 := NB11951_11953.out; have hnc12 := NB11953_11951.out; have ⟨hcz13_0, hcz13_1, hcz13_2, hcz13_3, hcz13_4, hcz13_5, hfz13_0, hfz13_1, hfz13_2, hfz13_3, hfz13_4, hfz13_5⟩ := kz6f BK11951) | ((with_reducible refine gate_callee (f := 62) rfl ?_); refine kc (some 8) Try.func62 #[.agg #[.bool a0_0, .int .i64 a0_1, .int .i64 a0_2, .bool a0_3, .int .i64 a0_4, .int .i64 a0_5]] (flyballref21_Norm.calls a0_0 a0_1 a0_2 a0_3 a0_4 a0_5 t11954 t11955 t11956 t11957 t11958 t11959 _ A3.out) ?_; intro w14 hb; replace BK11951 := kb BK11951 hb; replace BK11952 := kb BK11952 hb; replace BK11953 := kb BK11953 hb; replace HB := kh HB hb; (try clear hb)) | ((with_reducible refine gate_dst (N := 5) rfl ?_); refine kx 5 #[.bool false, .int .i64 0, .int .i64 0, .bool false, .int .i64 0, .int .i64 0] 29 ?_; intro gb11960 hg w15 hbox hb; have BK11960 := Aside0.mk (hbox); have GW11960 := kg HB hg; have GE11960 := kg HB hg; have NB11951_11960 := kn BK11951 hg; have NB11960_11951 := km BK11951 hg; have NB11952_11960 := kn BK11952 hg; have NB11960_11952 := km BK11952 hg; have NB11953_11960 := kn BK11953 hg; have NB11960_11953 := km BK11953 hg; replace BK11951 := kb BK11951 hb; replace BK11952 := kb BK11952 hb; replace BK11953 := kb BK11953 hb; replace HB := kh HB hb; clear hb hbox hg; have hnb16 := NB11960_11951.out; have hnc16 := NB11951_11960.out; have hnb17 := NB11960_11952.out; have hnc17 := NB11952_11960.out; have hnb18 := NB11960_11953.out; have hnc18 := NB11953_11960.out; have ⟨hcz19_0, hcz19_1, hcz19_2, hcz19_3, hcz19_4, hcz19_5, hfz19_0, hfz19_1, hfz19_2, hfz19_3, hfz19_4, hfz19_5⟩ := kz6f BK11960; have hnb20 := NB11952_11953.out; have hnc20 := NB11953_11952.out; have ⟨hcz21_0, hcz21_1, hcz21_2, hcz21_3, hcz21_4, hcz21_5, hfz21_0, hfz21_1, hfz21_2, hfz21_3, hfz21_4, hfz21_5⟩ := kz6f BK11952) | ((with_reducible refine gate_callee (f := 62) rfl ?_); refine kc (some 10) Try.func62 #[.agg #[.bool a1_0, .int .i64 a1_1, .int .i64 a1_2, .bool a1_3, .int .i64 a1_4, .int .i64 a1_5]] (flyballref21_Norm.calls a1_0 a1_1 a1_2 a1_3 a1_4 a1_5 t11961 t11962 t11963 t11964 t11965 t11966 _ A4.out) ?_; intro w22 hb; replace BK11951 := kb BK11951 hb; replace BK11952 := kb BK11952 hb; replace BK11953 := kb BK11953 hb; replace BK11960 := kb (o' := .cells #[.bool t11954, .int .i64 t11955, .int .i64 t11956, .bool t11957, .int .i64 t11958, .int .i64 t11959] 29 (0, 0)) BK11960 hb; replace HB := kh HB hb; (try clear hb)) | ((with_reducible refine gate_dst (N := 6) rfl ?_); refine kx 6 #[.bool false, .int .i64 0, .int .i64 0, .bool false, .int .i64 0, .int .i64 0] 29 ?_; intro gb11967 hg w23 hbox hb; have BK11967 := Aside0.mk (hbox); have GW11967 := kg HB hg; have GE11967 := kg HB hg; have NB11951_11967 := kn BK11951 hg; have NB11967_11951 := km BK11951 hg; have NB11952_11967 := kn BK11952 hg; have NB11967_11952 := km BK11952 hg; have NB11953_11967 := kn BK11953 hg; have NB11967_11953 := km BK11953 hg; have NB11960_11967 := kn BK11960 hg; have NB11967_11960 := km BK11960 hg; replace BK11951 := kb BK11951 hb; replace BK11952 := kb BK11952 hb; replace BK11953 := kb BK11953 hb; replace BK11960 := kb BK11960 hb; replace HB := kh HB hb; clear hb hbox hg; have hnb24 := NB11967_11951.out; have hnc24 := NB11951_11967.out; have hnb25 := NB11967_11952.out; have hnc25 := NB11952_11967.out; have hnb26 := NB11967_11953.out; have hnc26 := NB11953_11967.out; have hnb27 := NB11967_11960.out; have hnc27 := NB11960_11967.out; have ⟨hcz28_0, hcz28_1, hcz28_2, hcz28_3, hcz28_4, hcz28_5, hfz28_0, hfz28_1, hfz28_2, hfz28_3, hfz28_4, hfz28_5⟩ := kz6f BK11967))
  generalize hW_ : ((((((w23.setCell ⟨gb11967, 0, none⟩ (.bool t11961)).setCell ⟨gb11967, 1, none⟩ (.int .i64 t11962)).setCell ⟨gb11967, 2, none⟩ (.int .i64 t11963)).setCell ⟨gb11967, 3, none⟩ (.bool t11964)).setCell ⟨gb11967, 4, none⟩ (.int .i64 t11965)).setCell ⟨gb11967, 5, none⟩ (.int .i64 t11966)) = w29
  replace BK11951 := kr BK11951 hW_
  replace BK11952 := kr BK11952 hW_
  replace BK11953 := kr BK11953 hW_
  replace BK11960 := kr BK11960 hW_
  replace BK11967 := kr (o' := .cells #[.bool t11961, .int .i64 t11962, .int .i64 t11963, .bool t11964, .int .i64 t11965, .int .i64 t11966] 29 (0, 0)) BK11967 hW_
  replace HB := kq HB hW_
  clear hW_
  replace BK11951 := Aside0.mk (blk_drew BK11951.out)
  replace BK11952 := Aside0.mk (blk_drew BK11952.out)
  replace BK11953 := Aside0.mk (blk_drew BK11953.out)
  replace BK11960 := Aside0.mk (blk_drew BK11960.out)
  replace BK11967 := Aside0.mk (blk_drew BK11967.out)
  replace HB := Aside0.mk (below_drew1 HB.out)
  refine start_ (n := 13) (S := fun w' => w'.cell? ⟨gb11960, 0, none⟩ = some (.bool t11954) ∧ w'.cell? ⟨gb11960, 1, none⟩ = some (.int .i64 t11955) ∧ w'.cell? ⟨gb11960, 2, none⟩ = some (.int .i64 t11956) ∧ w'.cell? ⟨gb11960, 3, none⟩ = some (.bool t11957) ∧ w'.cell? ⟨gb11960, 4, none⟩ = some (.int .i64 t11958) ∧ w'.cell? ⟨gb11960, 5, none⟩ = some (.int .i64 t11959) ∧ w'.cell? ⟨gb11967, 0, none⟩ = some (.bool t11961) ∧ w'.cell? ⟨gb11967, 1, none⟩ = some (.int .i64 t11962) ∧ w'.cell? ⟨gb11967, 2, none⟩ = some (.int .i64 t11963) ∧ w'.cell? ⟨gb11967, 3, none⟩ = some (.bool t11964) ∧ w'.cell? ⟨gb11967, 4, none⟩ = some (.int .i64 t11965) ∧ w'.cell? ⟨gb11967, 5, none⟩ = some (.int .i64 t11966)) (ds := []) #[false, false, false, false, false, false, false, false, false, false, false, false, false] (by kernel_rfl) rfl rfl ⟨bc BK11960 0, bc BK11960 1, bc BK11960 2, bc BK11960 3, bc BK11960 4, bc BK11960 5, bc BK11967 0, bc BK11967 1, bc BK11967 2, bc BK11967 3, bc BK11967 4, bc BK11967 5⟩ (fun hHeld => ?_); refine with_tabW flyballref21_Join.tab3 flyballref21_Join.bits3 (fun HT_ HW_ => ?_)
  generalize w29.drew = w30 at BK11951 BK11952 BK11953 BK11960 BK11967 HB hHeld ⊢
  refine pur 0 (some 11) #[true, false, false, false, false, false, false, false, false, false, false, false, false] (any_of HT_.out (by kernel_rfl)) ?_
  refine pur 2 (some 13) #[true, false, true, false, false, false, false, false, false, false, false, false, false] (any_of HT_.out (by kernel_rfl)) ?_
  refine pur 5 (some 16) #[true, false, true, false, false, true, false, false, false, false, false, false, false] (any_of HT_.out (by kernel_rfl)) ?_
  refine pur 7 (some 18) #[true, false, true, false, false, true, false, true, false, false, false, false, false] (any_of HT_.out (by kernel_rfl)) ?_
  refine tak 1 (some 12) #[true, true, true, false, false, true, false, true, false, false, false, false, false] (take_ofW HT_.out HW_.out (by kernel_rfl)) hHeld ?_
  refine tak 3 (some 14) #[true, true, true, true, false, true, false, true, false, false, false, false, false] (take_ofW HT_.out HW_.out (by kernel_rfl)) hHeld ?_
  refine tak 6 (some 17) #[true, true, true, true, false, true, true, true, false, false, false, false, false] (take_ofW HT_.out HW_.out (by kernel_rfl)) hHeld ?_
  refine tak 8 (some 19) #[true, true, true, true, false, true, true, true, true, false, false, false, false] (take_ofW HT_.out HW_.out (by kernel_rfl)) hHeld ?_
  refine one_ (i := 4) (N := some 15) #[true, true, true, true, true, true, true, true, true, false, false, false, false] rfl rfl (one_of HT_.out (by kernel_rfl)) (by decide) (fun K hK => ?_)
  refine gc Try.func44 #[.agg #[.bool t11954, .int .i64 t11955, .int .i64 t11956], .agg #[.bool t11961, .int .i64 t11962, .int .i64 t11963]] (flyballref17_Join.calls t11954 t11955 t11956 t11961 t11962 t11963 t11968 t11969 t11970 _ A5.out) ?_
  intro w31 hb
  replace BK11951 := kb BK11951 hb
  replace BK11952 := kb BK11952 hb
  replace BK11953 := kb BK11953 hb
  replace BK11960 := kb BK11960 hb
  replace BK11967 := kb BK11967 hb
  replace HB := kh HB hb
  (try clear hb)
  refine hK.out _ _ ⟨bc BK11960 0, bc BK11960 1, bc BK11960 2, bc BK11960 3, bc BK11960 4, bc BK11960 5, bc BK11967 0, bc BK11967 1, bc BK11967 2, bc BK11967 3, bc BK11967 4, bc BK11967 5⟩ (fun hHeld => ?_)
  clear hK K
  refine nrm (some 15) ?_
  refine one_ (i := 9) (N := some 20) #[true, true, true, true, true, true, true, true, true, true, false, false, false] rfl rfl (one_of HT_.out (by kernel_rfl)) (by decide) (fun K hK => ?_)
  refine gc Try.func44 #[.agg #[.bool t11957, .int .i64 t11958, .int .i64 t11959], .agg #[.bool t11964, .int .i64 t11965, .int .i64 t11966]] (flyballref17_Join.calls t11957 t11958 t11959 t11964 t11965 t11966 t11971 t11972 t11973 _ A6.out) ?_
  intro w32 hb
  replace BK11951 := kb BK11951 hb
  replace BK11952 := kb BK11952 hb
  replace BK11953 := kb BK11953 hb
  replace BK11960 := kb BK11960 hb
  replace BK11967 := kb BK11967 hb
  replace HB := kh HB hb
  (try clear hb)
  refine hK.out _ _ ⟨bc BK11960 0, bc BK11960 1, bc BK11960 2, bc BK11960 3, bc BK11960 4, bc BK11960 5, bc BK11967 0, bc BK11967 1, bc BK11967 2, bc BK11967 3, bc BK11967 4, bc BK11967 5⟩ (fun hHeld => ?_)
  clear hK K
  refine nrm (some 20) ?_
  refine pur 10 (some 21) #[true, true, true, true, true, true, true, true, true, true, true, false, false] (any_of HT_.out (by kernel_rfl)) ?_
  refine one_ (i := 11) (N := some 22) #[true, true, true, true, true, true, true, true, true, true, true, true, false] rfl rfl (one_of HT_.out (by kernel_rfl)) (by decide) (fun K hK => ?_)
  refine gc Try.func62 #[.agg #[.bool t11968, .int .i64 t11969, .int .i64 t11970, .bool t11971, .int .i64 t11972, .int .i64 t11973]] (flyballref21_Norm.calls t11968 t11969 t11970 t11971 t11972 t11973 t11974 t11975 t11976 t11977 t11978 t11979 _ A7.out) ?_
  intro w33 hb
  replace BK11951 := kb BK11951 hb
  replace BK11952 := kb BK11952 hb
  replace BK11953 := kb BK11953 hb
  replace BK11960 := kb BK11960 hb
  replace BK11967 := kb BK11967 hb
  replace HB := kh HB hb
  (try clear hb)
  refine hK.out _ _ ⟨bc BK11960 0, bc BK11960 1, bc BK11960 2, bc BK11960 3, bc BK11960 4, bc BK11960 5, bc BK11967 0, bc BK11967 1, bc BK11967 2, bc BK11967 3, bc BK11967 4, bc BK11967 5⟩ (fun hHeld => ?_)
  clear hK K
  refine nrm (some 22) ?_
  refine one_ (i := 12) (N := none) #[true, true, true, true, true, true, true, true, true, true, true, true, true] rfl rfl (one_of HT_.out (by kernel_rfl)) (by decide) (fun K hK => ?_)
  have hs34 : w33.cell? ⟨gb11953, 0, none⟩ = some (.bool false) := bc BK11953 0
  have hfs34 := blk_frozen BK11953.out 0
  have hns34_0 := NB11951_11953.out
  have hns34_1 := NB11952_11953.out
  have hns34_3 := NB11960_11953.out
  have hns34_4 := NB11967_11953.out
  have hms34_0 := NB11953_11951.out
  have hms34_1 := NB11953_11952.out
  have hms34_3 := NB11953_11960.out
  have hms34_4 := NB11953_11967.out
  have hs35 : w33.cell? ⟨gb11953, 1, none⟩ = some (.int .i64 0) := bc BK11953 1
  have hfs35 := blk_frozen BK11953.out 1
  have hs36 : w33.cell? ⟨gb11953, 2, none⟩ = some (.int .i64 0) := bc BK11953 2
  have hfs36 := blk_frozen BK11953.out 2
  have hs37 : w33.cell? ⟨gb11953, 3, none⟩ = some (.bool false) := bc BK11953 3
  have hfs37 := blk_frozen BK11953.out 3
  have hs38 : w33.cell? ⟨gb11953, 4, none⟩ = some (.int .i64 0) := bc BK11953 4
  have hfs38 := blk_frozen BK11953.out 4
  have hs39 : w33.cell? ⟨gb11953, 5, none⟩ = some (.int .i64 0) := bc BK11953 5
  have hfs39 := blk_frozen BK11953.out 5
  refine skip_ (w1 := ?_) (by rfl) rfl ?_ ?_
  rotate_left
  · go_simp
    rfl
  refine hK.out _ _ ⟨cf hHeld.1, cf hHeld.2.1, cf hHeld.2.2.1, cf hHeld.2.2.2.1, cf hHeld.2.2.2.2.1, cf hHeld.2.2.2.2.2.1, cf hHeld.2.2.2.2.2.2.1, cf hHeld.2.2.2.2.2.2.2.1, cf hHeld.2.2.2.2.2.2.2.2.1, cf hHeld.2.2.2.2.2.2.2.2.2.1, cf hHeld.2.2.2.2.2.2.2.2.2.2.1, cf hHeld.2.2.2.2.2.2.2.2.2.2.2⟩ (fun hHeld => ?_)
  clear hK K
  refine done_ (done_of HT_.out (by kernel_rfl)) ?_
  try go_wp2
  refine bodyPost_ret (results_cell_row rfl _ _ gb11953 29 #[.bool t11974, .int .i64 t11975, .int .i64 t11976, .bool t11977, .int .i64 t11978, .int .i64 t11979] (0, 0) _ rfl (pK BK11953) Try.underlying29 rfl (by kernel_rfl)) rfl ?_
  exact ⟨pe, pl HB⟩
/-! ### flyballref21_Widen: function 30 -/
def flyballref21_Widen.f (k : Nat) (a0_0 : Bool) (a0_1 : Int) (a0_2 : Int) (a0_3 : Bool) (a0_4 : Int) (a0_5 : Int) (a1_0 : Bool) (a1_1 : Int) (a1_2 : Int) (a1_3 : Bool) (a1_4 : Int) (a1_5 : Int) (l2 : List Int) : Option (Bool × Int × Int × Bool × Int × Int) := (flyballref21_Norm.f a0_0 a0_1 a0_2 a0_3 a0_4 a0_5).bind fun bt12104 => ((flyballref21_Norm.f a1_0 a1_1 a1_2 a1_3 a1_4 a1_5).bind fun bt12111 => ((flyballref17_Widen.f k bt12104.1 bt12104.2.1 bt12104.2.2.1 bt12111.1 bt12111.2.1 bt12111.2.2.1 l2).bind fun bt12118 => ((flyballref17_Widen.f k bt12104.2.2.2.1 bt12104.2.2.2.2.1 bt12104.2.2.2.2.2 bt12111.2.2.2.1 bt12111.2.2.2.2.1 bt12111.2.2.2.2.2 l2).bind fun bt12121 => ((flyballref21_Norm.f bt12118.1 bt12118.2.1 bt12118.2.2 bt12121.1 bt12121.2.1 bt12121.2.2).bind fun bt12124 => (some (bt12124.1, bt12124.2.1, bt12124.2.2.1, bt12124.2.2.2.1, bt12124.2.2.2.2.1, bt12124.2.2.2.2.2))))))
theorem flyballref21_Widen.mono : ∀ a0 a1 a2 a3 a4 a5 a6 a7 a8 a9 a10 a11 a12 k, LeO (flyballref21_Widen.f k a0 a1 a2 a3 a4 a5 a6 a7 a8 a9 a10 a11 a12) (flyballref21_Widen.f (k + 1) a0 a1 a2 a3 a4 a5 a6 a7 a8 a9 a10 a11 a12) := by
  intro a0 a1 a2 a3 a4 a5 a6 a7 a8 a9 a10 a11 a12 k
  unfold flyballref21_Widen.f
  repeat' first
      | (with_reducible exact flyballref17_Widen.mono _ _ _ _ _ _ _ _)
      | (with_reducible exact LeO.refl _)
      | (with_reducible exact LeO.none _)
      | (with_reducible refine LeO.ite ?_ ?_)
      | (with_reducible refine LeO.bind ?_ (fun _ => ?_))
      | exact flyballref17_Widen.mono _ _ _ _ _ _ _ _
      | exact LeO.none _
      | refine LeO.ite ?_ ?_
      | refine LeO.bind ?_ (fun _ => ?_)
def flyballref21_Widen.T3 : Bool × List (List Nat × List Nat) := (true, [([], []), ([0], [0]), ([], []), ([2], [2]), ([], []), ([1, 3, 4], [1, 3, 4]), ([], []), ([6], [6]), ([], []), ([8], [8]), ([], []), ([7, 9, 10, 5], [7, 9, 10]), ([5, 11], [5, 11]), ([12, 11], [12]), ([13, 13, 0, 1, 2, 3, 4, 5, 6, 7, 8, 9, 10, 11, 12, 13], [13])])
def flyballref21_Widen.B3 : List Nat := [0, 1, 0, 4, 0, 31, 0, 64, 0, 256, 0, 2047, 4095, 8191, 16383]
theorem flyballref21_Widen.tab3 : rtab .any (opsOf Try.f30 3) = flyballref21_Widen.T3 := by kernel_rfl
theorem flyballref21_Widen.bits3 : waitsOk flyballref21_Widen.T3.2 flyballref21_Widen.B3 = true := by kernel_rfl
set_option maxHeartbeats 8000000 in
set_option maxRecDepth 100000 in
theorem flyballref21_Widen.calls (k : Nat) (a0_0 : Bool) (a0_1 : Int) (a0_2 : Int) (a0_3 : Bool) (a0_4 : Int) (a0_5 : Int) (a1_0 : Bool) (a1_1 : Int) (a1_2 : Int) (a1_3 : Bool) (a1_4 : Int) (a1_5 : Int) (A2 : Option Addr) (c2 : Nat) (l2 : List Int) (r1 : Bool) (r2 : Int) (r3 : Int) (r4 : Bool) (r5 : Int) (r6 : Int) (w : World) (hr2 : Kd.C (Kd.int .i64) w A2 l2.length l2) (hc2 : l2.length ≤ c2) (h : flyballref21_Widen.f k a0_0 a0_1 a0_2 a0_3 a0_4 a0_5 a1_0 a1_1 a1_2 a1_3 a1_4 a1_5 l2 = some (r1, r2, r3, r4, r5, r6)) :
    Calls Try.prog 30 #[.agg #[.bool a0_0, .int .i64 a0_1, .int .i64 a0_2, .bool a0_3, .int .i64 a0_4, .int .i64 a0_5], .agg #[.bool a1_0, .int .i64 a1_1, .int .i64 a1_2, .bool a1_3, .int .i64 a1_4, .int .i64 a1_5], .slice A2 l2.length c2] w fun e w' => e = .returned (.agg #[.bool r1, .int .i64 r2, .int .i64 r3, .bool r4, .int .i64 r5, .int .i64 r6]) ∧ Below w.heap.size w w' := by
  have hu29 := Try.underlying29
  have hu23 := Try.underlying23
  have HR2 := Aside0.mk hr2
  have HC2 := Aside0.mk hc2
  clear hr2 hc2
  have HB := Aside0.mk (Below.refl w.heap.size w)
  have H := h
  clear h
  unfold flyballref21_Widen.f at H
  obtain ⟨⟨t12104, t12105, t12106, t12107, t12108, t12109⟩, A40, H⟩ := Option.bind_eq_some_iff.mp H
  have A4 := Aside0.mk A40
  clear A40
  (try dsimp only at H)
  obtain ⟨⟨t12111, t12112, t12113, t12114, t12115, t12116⟩, A50, H⟩ := Option.bind_eq_some_iff.mp H
  have A5 := Aside0.mk A50
  clear A50
  (try dsimp only at H)
  obtain ⟨⟨t12118, t12119, t12120⟩, A60, H⟩ := Option.bind_eq_some_iff.mp H
  have A6 := Aside0.mk A60
  clear A60
  (try dsimp only at H)
  obtain ⟨⟨t12121, t12122, t12123⟩, A70, H⟩ := Option.bind_eq_some_iff.mp H
  have A7 := Aside0.mk A70
  clear A70
  (try dsimp only at H)
  obtain ⟨⟨t12124, t12125, t12126, t12127, t12128, t12129⟩, A80, H⟩ := Option.bind_eq_some_iff.mp H
  have A8 := Aside0.mk A80
  clear A80
  (try dsimp only at H)
  simp only [Option.some.injEq, Prod.mk.injEq] at H
  obtain ⟨rfl, rfl, rfl, rfl, rfl, rfl⟩ := H
  go_enter Try.func30, Try.ntmps30
  try go_wp2_with (first | ((with_reducible refine gate_dst (N := 3) rfl ?_); refine kx 3 #[.bool a0_0, .int .i64 a0_1, .int .i64 a0_2, .bool a0_3, .int .i64 a0_4, .int .i64 a0_5] 29 ?_; intro gb12101 hg w9 hbox hb; have BK12101 := Aside0.mk (hbox); have GW12101 := kg HB hg; have GE12101 := kg HB hg; replace HB := kh HB hb; clear hb hbox hg) | ((with_reducible refine gate_dst (N := 4) rfl ?_); refine kx 4 #[.bool a1_0, .int .i64 a1_1, .int .i64 a1_2, .bool a1_3, .int .i64 a1_4, .int .i64 a1_5] 29 ?_; intro gb12102 hg w10 hbox hb; have BK12102 := Aside0.mk (hbox); have GW12102 := kg HB hg; have GE12102 := kg HB hg; have NB12101_12102 := kn BK12101 hg; have NB12102_12101 := km BK12101 hg; replace BK12101 := kb BK12101 hb; replace HB := kh HB hb; clear hb hbox hg) | ((with_reducible refine gate_dst (N := 6) rfl ?_); refine kx 6 #[.bool false, .int .i64 0, .int .i64 0, .bool false, .int .i64 0, .int .i64 0] 29 ?_; intro gb12103 hg w11 hbox hb; have BK12103 := Aside0.mk (hbox); have GW12103 := kg HB hg; have GE12103 := kg HB hg; have NB12101_12103 := kn BK12101 hg; have NB12103_12101 := km BK12101 hg; have NB12102_12103 := kn BK12102 hg; have NB12103_12102 := km BK12102 hg; replace BK12101 := kb BK12101 hb; replace BK12102 := kb BK12102 hb; replace HB := kh HB hb; clear hb hbox hg; have hnb12 := NB12101_12102.out; have hnc12 := NB12102_12101.out; have hnb13 := NB12101_12103.out; have hnc13 := NB12103_12101.out; have ⟨hcz14_0, hcz14_1, hcz14_2, hcz14_3, hcz14_4, hcz14_5, hfz14_0, hfz14_1, hfz14_2, hfz14_3, hfz14_4, hfz14_5⟩ := kz6f BK12101) | ((with_reducible refine gate_callee (f := 62) rfl ?_); refine kc (some 10) Try.func62 #[.agg #[.bool a0_0, .int .i64 a0_1, .int .i64 a0_2, .bool a0_3, .int .i64 a0_4, .int .i64 a0_5]] (flyballref21_Norm.calls a0_0 a0_1 a0_2 a0_3 a0_4 a0_5 t12104 t12105 t12106 t12107 t12108 t12109 _ A4.out) ?_; intro w15 hb; replace BK12101 := kb BK12101 hb; replace BK12102 := kb BK12102 hb; replace BK12103 := kb BK12103 hb; replace HB := kh HB hb; (try clear hb)) | ((with_reducible refine gate_dst (N := 7) rfl ?_); refine kx 7 #[.bool false, .int .i64 0, .int .i64 0, .bool false, .int .i64 0, .int .i64 0] 29 ?_; intro gb12110 hg w16 hbox hb; have BK12110 := Aside0.mk (hbox); have GW12110 := kg HB hg; have GE12110 := kg HB hg; have NB12101_12110 := kn BK12101 hg; have NB12110_12101 := km BK12101 hg; have NB12102_12110 := kn BK12102 hg; have NB12110_12102 := km BK12102 hg; have NB12103_12110 := kn BK12103 hg; have NB12110_12103 := km BK12103 hg; replace BK12101 := kb BK12101 hb; replace BK12102 := kb BK12102 hb; replace BK12103 := kb BK12103 hb; replace HB := kh HB hb; clear hb hbox hg; have hnb17 := NB12110_12101.out; have hnc17 := NB12101_12110.out; have hnb18 := NB12110_12102.out; have hnc18 := NB12102_12110.out; have hnb19 := NB12110_12103.out; have hnc19 := NB12103_12110.out; have ⟨hcz20_0, hcz20_1, hcz20_2, hcz20_3, hcz20_4, hcz20_5, hfz20_0, hfz20_1, hfz20_2, hfz20_3, hfz20_4, hfz20_5⟩ := kz6f BK12110; have hnb21 := NB12102_12103.out; have hnc21 := NB12103_12102.out; have ⟨hcz22_0, hcz22_1, hcz22_2, hcz22_3, hcz22_4, hcz22_5, hfz22_0, hfz22_1, hfz22_2, hfz22_3, hfz22_4, hfz22_5⟩ := kz6f BK12102) | ((with_reducible refine gate_callee (f := 62) rfl ?_); refine kc (some 12) Try.func62 #[.agg #[.bool a1_0, .int .i64 a1_1, .int .i64 a1_2, .bool a1_3, .int .i64 a1_4, .int .i64 a1_5]] (flyballref21_Norm.calls a1_0 a1_1 a1_2 a1_3 a1_4 a1_5 t12111 t12112 t12113 t12114 t12115 t12116 _ A5.out) ?_; intro w23 hb; replace BK12101 := kb BK12101 hb; replace BK12102 := kb BK12102 hb; replace BK12103 := kb BK12103 hb; replace BK12110 := kb (o' := .cells #[.bool t12104, .int .i64 t12105, .int .i64 t12106, .bool t12107, .int .i64 t12108, .int .i64 t12109] 29 (0, 0)) BK12110 hb; replace HB := kh HB hb; (try clear hb)) | ((with_reducible refine gate_dst (N := 8) rfl ?_); refine kx 8 #[.bool false, .int .i64 0, .int .i64 0, .bool false, .int .i64 0, .int .i64 0] 29 ?_; intro gb12117 hg w24 hbox hb; have BK12117 := Aside0.mk (hbox); have GW12117 := kg HB hg; have GE12117 := kg HB hg; have NB12101_12117 := kn BK12101 hg; have NB12117_12101 := km BK12101 hg; have NB12102_12117 := kn BK12102 hg; have NB12117_12102 := km BK12102 hg; have NB12103_12117 := kn BK12103 hg; have NB12117_12103 := km BK12103 hg; have NB12110_12117 := kn BK12110 hg; have NB12117_12110 := km BK12110 hg; replace BK12101 := kb BK12101 hb; replace BK12102 := kb BK12102 hb; replace BK12103 := kb BK12103 hb; replace BK12110 := kb BK12110 hb; replace HB := kh HB hb; clear hb hbox hg; have hnb25 := NB12117_12101.out; have hnc25 := NB12101_12117.out; have hnb26 := NB12117_12102.out; have hnc26 := NB12102_12117.out; have hnb27 := NB12117_12103.out; have hnc27 := NB12103_12117.out; have hnb28 := NB12117_12110.out; have hnc28 := NB12110_12117.out; have ⟨hcz29_0, hcz29_1, hcz29_2, hcz29_3, hcz29_4, hcz29_5, hfz29_0, hfz29_1, hfz29_2, hfz29_3, hfz29_4, hfz29_5⟩ := kz6f BK12117))
  generalize hW_ : ((((((w24.setCell ⟨gb12117, 0, none⟩ (.bool t12111)).setCell ⟨gb12117, 1, none⟩ (.int .i64 t12112)).setCell ⟨gb12117, 2, none⟩ (.int .i64 t12113)).setCell ⟨gb12117, 3, none⟩ (.bool t12114)).setCell ⟨gb12117, 4, none⟩ (.int .i64 t12115)).setCell ⟨gb12117, 5, none⟩ (.int .i64 t12116)) = w30
  replace BK12101 := kr BK12101 hW_
  replace BK12102 := kr BK12102 hW_
  replace BK12103 := kr BK12103 hW_
  replace BK12110 := kr BK12110 hW_
  replace BK12117 := kr (o' := .cells #[.bool t12111, .int .i64 t12112, .int .i64 t12113, .bool t12114, .int .i64 t12115, .int .i64 t12116] 29 (0, 0)) BK12117 hW_
  replace HB := kq HB hW_
  clear hW_
  replace BK12101 := Aside0.mk (blk_drew BK12101.out)
  replace BK12102 := Aside0.mk (blk_drew BK12102.out)
  replace BK12103 := Aside0.mk (blk_drew BK12103.out)
  replace BK12110 := Aside0.mk (blk_drew BK12110.out)
  replace BK12117 := Aside0.mk (blk_drew BK12117.out)
  replace HB := Aside0.mk (below_drew1 HB.out)
  refine start_ (n := 15) (S := fun w' => w'.cell? ⟨gb12110, 0, none⟩ = some (.bool t12104) ∧ w'.cell? ⟨gb12110, 1, none⟩ = some (.int .i64 t12105) ∧ w'.cell? ⟨gb12110, 2, none⟩ = some (.int .i64 t12106) ∧ w'.cell? ⟨gb12110, 3, none⟩ = some (.bool t12107) ∧ w'.cell? ⟨gb12110, 4, none⟩ = some (.int .i64 t12108) ∧ w'.cell? ⟨gb12110, 5, none⟩ = some (.int .i64 t12109) ∧ w'.cell? ⟨gb12117, 0, none⟩ = some (.bool t12111) ∧ w'.cell? ⟨gb12117, 1, none⟩ = some (.int .i64 t12112) ∧ w'.cell? ⟨gb12117, 2, none⟩ = some (.int .i64 t12113) ∧ w'.cell? ⟨gb12117, 3, none⟩ = some (.bool t12114) ∧ w'.cell? ⟨gb12117, 4, none⟩ = some (.int .i64 t12115) ∧ w'.cell? ⟨gb12117, 5, none⟩ = some (.int .i64 t12116)) (ds := []) #[false, false, false, false, false, false, false, false, false, false, false, false, false, false, false] (by kernel_rfl) rfl rfl ⟨bc BK12110 0, bc BK12110 1, bc BK12110 2, bc BK12110 3, bc BK12110 4, bc BK12110 5, bc BK12117 0, bc BK12117 1, bc BK12117 2, bc BK12117 3, bc BK12117 4, bc BK12117 5⟩ (fun hHeld => ?_); refine with_tabW flyballref21_Widen.tab3 flyballref21_Widen.bits3 (fun HT_ HW_ => ?_)
  generalize w30.drew = w31 at BK12101 BK12102 BK12103 BK12110 BK12117 HB hHeld ⊢
  refine pur 0 (some 13) #[true, false, false, false, false, false, false, false, false, false, false, false, false, false, false] (any_of HT_.out (by kernel_rfl)) ?_
  refine pur 2 (some 15) #[true, false, true, false, false, false, false, false, false, false, false, false, false, false, false] (any_of HT_.out (by kernel_rfl)) ?_
  refine pur 4 (some 17) #[true, false, true, false, true, false, false, false, false, false, false, false, false, false, false] (any_of HT_.out (by kernel_rfl)) ?_
  refine pur 6 (some 19) #[true, false, true, false, true, false, true, false, false, false, false, false, false, false, false] (any_of HT_.out (by kernel_rfl)) ?_
  refine pur 8 (some 21) #[true, false, true, false, true, false, true, false, true, false, false, false, false, false, false] (any_of HT_.out (by kernel_rfl)) ?_
  refine pur 10 (some 23) #[true, false, true, false, true, false, true, false, true, false, true, false, false, false, false] (any_of HT_.out (by kernel_rfl)) ?_
  refine tak 1 (some 14) #[true, true, true, false, true, false, true, false, true, false, true, false, false, false, false] (take_ofW HT_.out HW_.out (by kernel_rfl)) hHeld ?_
  refine tak 3 (some 16) #[true, true, true, true, true, false, true, false, true, false, true, false, false, false, false] (take_ofW HT_.out HW_.out (by kernel_rfl)) hHeld ?_
  refine tak 7 (some 20) #[true, true, true, true, true, false, true, true, true, false, true, false, false, false, false] (take_ofW HT_.out HW_.out (by kernel_rfl)) hHeld ?_
  refine tak 9 (some 22) #[true, true, true, true, true, false, true, true, true, true, true, false, false, false, false] (take_ofW HT_.out HW_.out (by kernel_rfl)) hHeld ?_
  refine one_ (i := 5) (N := some 18) #[true, true, true, true, true, true, true, true, true, true, true, false, false, false, false] rfl rfl (one_of HT_.out (by kernel_rfl)) (by decide) (fun K hK => ?_)
  refine goes_ Try.func58 (by kernel_rfl) rfl #[.agg #[.bool t12104, .int .i64 t12105, .int .i64 t12106], .agg #[.bool t12111, .int .i64 t12112, .int .i64 t12113], .slice A2 l2.length c2] (by rfl) rfl rfl pa ?_
  with_reducible refine (flyballref17_Widen.calls k t12104 t12105 t12106 t12111 t12112 t12113 (fun k_ => k_ < w.heap.size) _ _ l2 t12118 t12119 t12120 _ ?side1 A6.out).mono ?_
  (case side1 => exact Kd.V_mk HC2.out (Kd.F_below (Kd.C_F (Kd.heap_int .i64) HR2.out) (pl HB)))
  rintro e w32 ⟨rfl, hb⟩
  refine ⟨_, rfl, ?_⟩
  replace BK12101 := kb BK12101 hb
  replace BK12102 := kb BK12102 hb
  replace BK12103 := kb BK12103 hb
  replace BK12110 := kb BK12110 hb
  replace BK12117 := kb BK12117 hb
  replace HB := kh HB hb
  (try clear hb)
  refine hK.out _ _ ⟨bc BK12110 0, bc BK12110 1, bc BK12110 2, bc BK12110 3, bc BK12110 4, bc BK12110 5, bc BK12117 0, bc BK12117 1, bc BK12117 2, bc BK12117 3, bc BK12117 4, bc BK12117 5⟩ (fun hHeld => ?_)
  clear hK K
  refine nrm (some 18) ?_
  refine one_ (i := 11) (N := some 24) #[true, true, true, true, true, true, true, true, true, true, true, true, false, false, false] rfl rfl (one_of HT_.out (by kernel_rfl)) (by decide) (fun K hK => ?_)
  refine goes_ Try.func58 (by kernel_rfl) rfl #[.agg #[.bool t12107, .int .i64 t12108, .int .i64 t12109], .agg #[.bool t12114, .int .i64 t12115, .int .i64 t12116], .slice A2 l2.length c2] (by rfl) rfl rfl pa ?_
  with_reducible refine (flyballref17_Widen.calls k t12107 t12108 t12109 t12114 t12115 t12116 (fun k_ => k_ < w.heap.size) _ _ l2 t12121 t12122 t12123 _ ?side1 A7.out).mono ?_
  (case side1 => exact Kd.V_mk HC2.out (Kd.F_below (Kd.C_F (Kd.heap_int .i64) HR2.out) (pl HB)))
  rintro e w33 ⟨rfl, hb⟩
  refine ⟨_, rfl, ?_⟩
  replace BK12101 := kb BK12101 hb
  replace BK12102 := kb BK12102 hb
  replace BK12103 := kb BK12103 hb
  replace BK12110 := kb BK12110 hb
  replace BK12117 := kb BK12117 hb
  replace HB := kh HB hb
  (try clear hb)
  refine hK.out _ _ ⟨bc BK12110 0, bc BK12110 1, bc BK12110 2, bc BK12110 3, bc BK12110 4, bc BK12110 5, bc BK12117 0, bc BK12117 1, bc BK12117 2, bc BK12117 3, bc BK12117 4, bc BK12117 5⟩ (fun hHeld => ?_)
  clear hK K
  refine nrm (some 24) ?_
  refine pur 12 (some 25) #[true, true, true, true, true, true, true, true, true, true, true, true, true, false, false] (any_of HT_.out (by kernel_rfl)) ?_
  refine one_ (i := 13) (N := some 26) #[true, true, true, true, true, true, true, true, true, true, true, true, true, true, false] rfl rfl (one_of HT_.out (by kernel_rfl)) (by decide) (fun K hK => ?_)
  refine gc Try.func62 #[.agg #[.bool t12118, .int .i64 t12119, .int .i64 t12120, .bool t12121, .int .i64 t12122, .int .i64 t12123]] (flyballref21_Norm.calls t12118 t12119 t12120 t12121 t12122 t12123 t12124 t12125 t12126 t12127 t12128 t12129 _ A8.out) ?_
  intro w34 hb
  replace BK12101 := kb BK12101 hb
  replace BK12102 := kb BK12102 hb
  replace BK12103 := kb BK12103 hb
  replace BK12110 := kb BK12110 hb
  replace BK12117 := kb BK12117 hb
  replace HB := kh HB hb
  (try clear hb)
  refine hK.out _ _ ⟨bc BK12110 0, bc BK12110 1, bc BK12110 2, bc BK12110 3, bc BK12110 4, bc BK12110 5, bc BK12117 0, bc BK12117 1, bc BK12117 2, bc BK12117 3, bc BK12117 4, bc BK12117 5⟩ (fun hHeld => ?_)
  clear hK K
  refine nrm (some 26) ?_
  refine one_ (i := 14) (N := none) #[true, true, true, true, true, true, true, true, true, true, true, true, true, true, true] rfl rfl (one_of HT_.out (by kernel_rfl)) (by decide) (fun K hK => ?_)
  have hs35 : w34.cell? ⟨gb12103, 0, none⟩ = some (.bool false) := bc BK12103 0
  have hfs35 := blk_frozen BK12103.out 0
  have hns35_0 := NB12101_12103.out
  have hns35_1 := NB12102_12103.out
  have hns35_3 := NB12110_12103.out
  have hns35_4 := NB12117_12103.out
  have hms35_0 := NB12103_12101.out
  have hms35_1 := NB12103_12102.out
  have hms35_3 := NB12103_12110.out
  have hms35_4 := NB12103_12117.out
  have hs36 : w34.cell? ⟨gb12103, 1, none⟩ = some (.int .i64 0) := bc BK12103 1
  have hfs36 := blk_frozen BK12103.out 1
  have hs37 : w34.cell? ⟨gb12103, 2, none⟩ = some (.int .i64 0) := bc BK12103 2
  have hfs37 := blk_frozen BK12103.out 2
  have hs38 : w34.cell? ⟨gb12103, 3, none⟩ = some (.bool false) := bc BK12103 3
  have hfs38 := blk_frozen BK12103.out 3
  have hs39 : w34.cell? ⟨gb12103, 4, none⟩ = some (.int .i64 0) := bc BK12103 4
  have hfs39 := blk_frozen BK12103.out 4
  have hs40 : w34.cell? ⟨gb12103, 5, none⟩ = some (.int .i64 0) := bc BK12103 5
  have hfs40 := blk_frozen BK12103.out 5
  refine skip_ (w1 := ?_) (by rfl) rfl ?_ ?_
  rotate_left
  · go_simp
    rfl
  refine hK.out _ _ ⟨cf hHeld.1, cf hHeld.2.1, cf hHeld.2.2.1, cf hHeld.2.2.2.1, cf hHeld.2.2.2.2.1, cf hHeld.2.2.2.2.2.1, cf hHeld.2.2.2.2.2.2.1, cf hHeld.2.2.2.2.2.2.2.1, cf hHeld.2.2.2.2.2.2.2.2.1, cf hHeld.2.2.2.2.2.2.2.2.2.1, cf hHeld.2.2.2.2.2.2.2.2.2.2.1, cf hHeld.2.2.2.2.2.2.2.2.2.2.2⟩ (fun hHeld => ?_)
  clear hK K
  refine done_ (done_of HT_.out (by kernel_rfl)) ?_
  try go_wp2
  refine bodyPost_ret (results_cell_row rfl _ _ gb12103 29 #[.bool t12124, .int .i64 t12125, .int .i64 t12126, .bool t12127, .int .i64 t12128, .int .i64 t12129] (0, 0) _ rfl (pK BK12103) Try.underlying29 rfl (by kernel_rfl)) rfl ?_
  exact ⟨pe, pl HB⟩
/-! ### flyballref21_Inside: function 32 -/
def flyballref21_Inside.f (a0_0 : Bool) (a0_1 : Int) (a0_2 : Int) (a0_3 : Bool) (a0_4 : Int) (a0_5 : Int) (a1_0 : Bool) (a1_1 : Int) (a1_2 : Int) (a1_3 : Bool) (a1_4 : Int) (a1_5 : Int) : Option (Bool) := (flyballref21_Norm.f a0_0 a0_1 a0_2 a0_3 a0_4 a0_5).bind fun bt12253 => ((flyballref21_Norm.f a1_0 a1_1 a1_2 a1_3 a1_4 a1_5).bind fun bt12260 => ((flyballref17_Inside.f bt12253.1 bt12253.2.1 bt12253.2.2.1 bt12260.1 bt12260.2.1 bt12260.2.2.1).bind fun t12267 => (if t12267 = true then ((flyballref17_Inside.f bt12253.2.2.2.1 bt12253.2.2.2.2.1 bt12253.2.2.2.2.2 bt12260.2.2.2.1 bt12260.2.2.2.2.1 bt12260.2.2.2.2.2).bind fun t12268 => (some t12268)) else (some false))))
set_option maxHeartbeats 8000000 in
set_option maxRecDepth 100000 in
theorem flyballref21_Inside.calls (a0_0 : Bool) (a0_1 : Int) (a0_2 : Int) (a0_3 : Bool) (a0_4 : Int) (a0_5 : Int) (a1_0 : Bool) (a1_1 : Int) (a1_2 : Int) (a1_3 : Bool) (a1_4 : Int) (a1_5 : Int) (r : Bool) (w : World) (h : flyballref21_Inside.f a0_0 a0_1 a0_2 a0_3 a0_4 a0_5 a1_0 a1_1 a1_2 a1_3 a1_4 a1_5 = some r) :
    Calls Try.prog 32 #[.agg #[.bool a0_0, .int .i64 a0_1, .int .i64 a0_2, .bool a0_3, .int .i64 a0_4, .int .i64 a0_5], .agg #[.bool a1_0, .int .i64 a1_1, .int .i64 a1_2, .bool a1_3, .int .i64 a1_4, .int .i64 a1_5]] w fun e w' => e = .returned (.bool r) ∧ Below w.heap.size w w' := by
  have hu29 := Try.underlying29
  have hu23 := Try.underlying23
  have HB := Aside0.mk (Below.refl w.heap.size w)
  have H := h
  clear h
  unfold flyballref21_Inside.f at H
  obtain ⟨⟨t12253, t12254, t12255, t12256, t12257, t12258⟩, A30, H⟩ := Option.bind_eq_some_iff.mp H
  have A3 := Aside0.mk A30
  clear A30
  (try dsimp only at H)
  obtain ⟨⟨t12260, t12261, t12262, t12263, t12264, t12265⟩, A40, H⟩ := Option.bind_eq_some_iff.mp H
  have A4 := Aside0.mk A40
  clear A40
  (try dsimp only at H)
  obtain ⟨t12267, A50, H⟩ := Option.bind_eq_some_iff.mp H
  have A5 := Aside0.mk A50
  clear A50
  (try dsimp only at H)
  by_cases c6 : t12267 = true
  · subst c6
    rw [if_pos rfl] at H
    obtain ⟨t12268, A70, H⟩ := Option.bind_eq_some_iff.mp H
    have A7 := Aside0.mk A70
    clear A70
    (try dsimp only at H)
    obtain rfl := Option.some.inj H
    go_enter Try.func32, Try.ntmps32
    go_wp2_with (first | ((with_reducible refine gate_dst (N := 2) rfl ?_); refine kx 2 #[.bool a0_0, .int .i64 a0_1, .int .i64 a0_2, .bool a0_3, .int .i64 a0_4, .int .i64 a0_5] 29 ?_; intro gb12251 hg w8 hbox hb; have BK12251 := Aside0.mk (hbox); have GW12251 := kg HB hg; have GE12251 := kg HB hg; replace HB := kh HB hb; clear hb hbox hg) | ((with_reducible refine gate_dst (N := 3) rfl ?_); refine kx 3 #[.bool a1_0, .int .i64 a1_1, .int .i64 a1_2, .bool a1_3, .int .i64 a1_4, .int .i64 a1_5] 29 ?_; intro gb12252 hg w9 hbox hb; have BK12252 := Aside0.mk (hbox); have GW12252 := kg HB hg; have GE12252 := kg HB hg; have NB12251_12252 := kn BK12251 hg; have NB12252_12251 := km BK12251 hg; replace BK12251 := kb BK12251 hb; replace HB := kh HB hb; clear hb hbox hg; have hnb10 := NB12251_12252.out; have hnc10 := NB12252_12251.out; have ⟨hcz11_0, hcz11_1, hcz11_2, hcz11_3, hcz11_4, hcz11_5, hfz11_0, hfz11_1, hfz11_2, hfz11_3, hfz11_4, hfz11_5⟩ := kz6f BK12251) | ((with_reducible refine gate_callee (f := 62) rfl ?_); refine kc (some 8) Try.func62 #[.agg #[.bool a0_0, .int .i64 a0_1, .int .i64 a0_2, .bool a0_3, .int .i64 a0_4, .int .i64 a0_5]] (flyballref21_Norm.calls a0_0 a0_1 a0_2 a0_3 a0_4 a0_5 t12253 t12254 t12255 t12256 t12257 t12258 _ A3.out) ?_; intro w12 hb; replace BK12251 := kb BK12251 hb; replace BK12252 := kb BK12252 hb; replace HB := kh HB hb; (try clear hb)) | ((with_reducible refine gate_dst (N := 5) rfl ?_); refine kx 5 #[.bool false, .int .i64 0, .int .i64 0, .bool false, .int .i64 0, .int .i64 0] 29 ?_; intro gb12259 hg w13 hbox hb; have BK12259 := Aside0.mk (hbox); have GW12259 := kg HB hg; have GE12259 := kg HB hg; have NB12251_12259 := kn BK12251 hg; have NB12259_12251 := km BK12251 hg; have NB12252_12259 := kn BK12252 hg; have NB12259_12252 := km BK12252 hg; replace BK12251 := kb BK12251 hb; replace BK12252 := kb BK12252 hb; replace HB := kh HB hb; clear hb hbox hg; have hnb14 := NB12259_12251.out; have hnc14 := NB12251_12259.out; have hnb15 := NB12259_12252.out; have hnc15 := NB12252_12259.out; have ⟨hcz16_0, hcz16_1, hcz16_2, hcz16_3, hcz16_4, hcz16_5, hfz16_0, hfz16_1, hfz16_2, hfz16_3, hfz16_4, hfz16_5⟩ := kz6f BK12259; have ⟨hcz17_0, hcz17_1, hcz17_2, hcz17_3, hcz17_4, hcz17_5, hfz17_0, hfz17_1, hfz17_2, hfz17_3, hfz17_4, hfz17_5⟩ := kz6f BK12252) | ((with_reducible refine gate_callee (f := 62) rfl ?_); refine kc (some 10) Try.func62 #[.agg #[.bool a1_0, .int .i64 a1_1, .int .i64 a1_2, .bool a1_3, .int .i64 a1_4, .int .i64 a1_5]] (flyballref21_Norm.calls a1_0 a1_1 a1_2 a1_3 a1_4 a1_5 t12260 t12261 t12262 t12263 t12264 t12265 _ A4.out) ?_; intro w18 hb; replace BK12251 := kb BK12251 hb; replace BK12252 := kb BK12252 hb; replace BK12259 := kb (o' := .cells #[.bool t12253, .int .i64 t12254, .int .i64 t12255, .bool t12256, .int .i64 t12257, .int .i64 t12258] 29 (0, 0)) BK12259 hb; replace HB := kh HB hb; (try clear hb)) | ((with_reducible refine gate_dst (N := 6) rfl ?_); refine kx 6 #[.bool false, .int .i64 0, .int .i64 0, .bool false, .int .i64 0, .int .i64 0] 29 ?_; intro gb12266 hg w19 hbox hb; have BK12266 := Aside0.mk (hbox); have GW12266 := kg HB hg; have GE12266 := kg HB hg; have NB12251_12266 := kn BK12251 hg; have NB12266_12251 := km BK12251 hg; have NB12252_12266 := kn BK12252 hg; have NB12266_12252 := km BK12252 hg; have NB12259_12266 := kn BK12259 hg; have NB12266_12259 := km BK12259 hg; replace BK12251 := kb BK12251 hb; replace BK12252 := kb BK12252 hb; replace BK12259 := kb BK12259 hb; replace HB := kh HB hb; clear hb hbox hg; have hnb20 := NB12266_12251.out; have hnc20 := NB12251_12266.out; have hnb21 := NB12266_12252.out; have hnc21 := NB12252_12266.out; have hnb22 := NB12266_12259.out; have hnc22 := NB12259_12266.out; have ⟨hcz23_0, hcz23_1, hcz23_2, hcz23_3, hcz23_4, hcz23_5, hfz23_0, hfz23_1, hfz23_2, hfz23_3, hfz23_4, hfz23_5⟩ := kz6f BK12266; have ⟨hcz24_0, hcz24_1, hcz24_2, hcz24_3, hcz24_4, hcz24_5, hfz24_0, hfz24_1, hfz24_2, hfz24_3, hfz24_4, hfz24_5⟩ := kz6f BK12259) | ((with_reducible refine gate_callee (f := 42) rfl ?_); refine kc (some 15) Try.func42 #[.agg #[.bool t12253, .int .i64 t12254, .int .i64 t12255], .agg #[.bool t12260, .int .i64 t12261, .int .i64 t12262]] (flyballref17_Inside.calls t12253 t12254 t12255 t12260 t12261 t12262 true _ A5.out) ?_; intro w25 hb; replace BK12251 := kb BK12251 hb; replace BK12252 := kb BK12252 hb; replace BK12259 := kb BK12259 hb; replace BK12266 := kb (o' := .cells #[.bool t12260, .int .i64 t12261, .int .i64 t12262, .bool t12263, .int .i64 t12264, .int .i64 t12265] 29 (0, 0)) BK12266 hb; replace HB := kh HB hb; (try clear hb); have ⟨hcz26_0, hcz26_1, hcz26_2, hcz26_3, hcz26_4, hcz26_5, hfz26_0, hfz26_1, hfz26_2, hfz26_3, hfz26_4, hfz26_5⟩ := kz6f BK12259; have ⟨hcz27_0, hcz27_1, hcz27_2, hcz27_3, hcz27_4, hcz27_5, hfz27_0, hfz27_1, hfz27_2, hfz27_3, hfz27_4, hfz27_5⟩ := kz6f BK12266) | (go_at_call 42; (with_reducible refine (flyballref17_Inside.calls t12256 t12257 t12258 t12263 t12264 t12265 t12268 _ A7.out).mono ?_); rintro e w28 ⟨rfl, hb⟩; replace BK12251 := kb BK12251 hb; replace BK12252 := kb BK12252 hb; replace BK12259 := kb BK12259 hb; replace BK12266 := kb BK12266 hb; replace HB := kh HB hb; (try clear hb)))
    go_ret
    exact ⟨pe, pl HB⟩
  · replace c6 := Bool.eq_false_iff.mpr c6
    subst c6
    rw [if_neg (show ¬ (false = true) by decide)] at H
    obtain rfl := Option.some.inj H
    go_enter Try.func32, Try.ntmps32
    go_wp2_with (first | ((with_reducible refine gate_dst (N := 2) rfl ?_); refine kx 2 #[.bool a0_0, .int .i64 a0_1, .int .i64 a0_2, .bool a0_3, .int .i64 a0_4, .int .i64 a0_5] 29 ?_; intro gb12251 hg w29 hbox hb; have BK12251 := Aside0.mk (hbox); have GW12251 := kg HB hg; have GE12251 := kg HB hg; replace HB := kh HB hb; clear hb hbox hg) | ((with_reducible refine gate_dst (N := 3) rfl ?_); refine kx 3 #[.bool a1_0, .int .i64 a1_1, .int .i64 a1_2, .bool a1_3, .int .i64 a1_4, .int .i64 a1_5] 29 ?_; intro gb12252 hg w30 hbox hb; have BK12252 := Aside0.mk (hbox); have GW12252 := kg HB hg; have GE12252 := kg HB hg; have NB12251_12252 := kn BK12251 hg; have NB12252_12251 := km BK12251 hg; replace BK12251 := kb BK12251 hb; replace HB := kh HB hb; clear hb hbox hg; have hnb31 := NB12251_12252.out; have hnc31 := NB12252_12251.out; have ⟨hcz32_0, hcz32_1, hcz32_2, hcz32_3, hcz32_4, hcz32_5, hfz32_0, hfz32_1, hfz32_2, hfz32_3, hfz32_4, hfz32_5⟩ := kz6f BK12251) | ((with_reducible refine gate_callee (f := 62) rfl ?_); refine kc (some 8) Try.func62 #[.agg #[.bool a0_0, .int .i64 a0_1, .int .i64 a0_2, .bool a0_3, .int .i64 a0_4, .int .i64 a0_5]] (flyballref21_Norm.calls a0_0 a0_1 a0_2 a0_3 a0_4 a0_5 t12253 t12254 t12255 t12256 t12257 t12258 _ A3.out) ?_; intro w33 hb; replace BK12251 := kb BK12251 hb; replace BK12252 := kb BK12252 hb; replace HB := kh HB hb; (try clear hb)) | ((with_reducible refine gate_dst (N := 5) rfl ?_); refine kx 5 #[.bool false, .int .i64 0, .int .i64 0, .bool false, .int .i64 0, .int .i64 0] 29 ?_; intro gb12259 hg w34 hbox hb; have BK12259 := Aside0.mk (hbox); have GW12259 := kg HB hg; have GE12259 := kg HB hg; have NB12251_12259 := kn BK12251 hg; have NB12259_12251 := km BK12251 hg; have NB12252_12259 := kn BK12252 hg; have NB12259_12252 := km BK12252 hg; replace BK12251 := kb BK12251 hb; replace BK12252 := kb BK12252 hb; replace HB := kh HB hb; clear hb hbox hg; have hnb35 := NB12259_12251.out; have hnc35 := NB12251_12259.out; have hnb36 := NB12259_12252.out; have hnc36 := NB12252_12259.out; have ⟨hcz37_0, hcz37_1, hcz37_2, hcz37_3, hcz37_4, hcz37_5, hfz37_0, hfz37_1, hfz37_2, hfz37_3, hfz37_4, hfz37_5⟩ := kz6f BK12259; have ⟨hcz38_0, hcz38_1, hcz38_2, hcz38_3, hcz38_4, hcz38_5, hfz38_0, hfz38_1, hfz38_2, hfz38_3, hfz38_4, hfz38_5⟩ := kz6f BK12252) | ((with_reducible refine gate_callee (f := 62) rfl ?_); refine kc (some 10) Try.func62 #[.agg #[.bool a1_0, .int .i64 a1_1, .int .i64 a1_2, .bool a1_3, .int .i64 a1_4, .int .i64 a1_5]] (flyballref21_Norm.calls a1_0 a1_1 a1_2 a1_3 a1_4 a1_5 t12260 t12261 t12262 t12263 t12264 t12265 _ A4.out) ?_; intro w39 hb; replace BK12251 := kb BK12251 hb; replace BK12252 := kb BK12252 hb; replace BK12259 := kb (o' := .cells #[.bool t12253, .int .i64 t12254, .int .i64 t12255, .bool t12256, .int .i64 t12257, .int .i64 t12258] 29 (0, 0)) BK12259 hb; replace HB := kh HB hb; (try clear hb)) | ((with_reducible refine gate_dst (N := 6) rfl ?_); refine kx 6 #[.bool false, .int .i64 0, .int .i64 0, .bool false, .int .i64 0, .int .i64 0] 29 ?_; intro gb12266 hg w40 hbox hb; have BK12266 := Aside0.mk (hbox); have GW12266 := kg HB hg; have GE12266 := kg HB hg; have NB12251_12266 := kn BK12251 hg; have NB12266_12251 := km BK12251 hg; have NB12252_12266 := kn BK12252 hg; have NB12266_12252 := km BK12252 hg; have NB12259_12266 := kn BK12259 hg; have NB12266_12259 := km BK12259 hg; replace BK12251 := kb BK12251 hb; replace BK12252 := kb BK12252 hb; replace BK12259 := kb BK12259 hb; replace HB := kh HB hb; clear hb hbox hg; have hnb41 := NB12266_12251.out; have hnc41 := NB12251_12266.out; have hnb42 := NB12266_12252.out; have hnc42 := NB12252_12266.out; have hnb43 := NB12266_12259.out; have hnc43 := NB12259_12266.out; have ⟨hcz44_0, hcz44_1, hcz44_2, hcz44_3, hcz44_4, hcz44_5, hfz44_0, hfz44_1, hfz44_2, hfz44_3, hfz44_4, hfz44_5⟩ := kz6f BK12266; have ⟨hcz45_0, hcz45_1, hcz45_2, hcz45_3, hcz45_4, hcz45_5, hfz45_0, hfz45_1, hfz45_2, hfz45_3, hfz45_4, hfz45_5⟩ := kz6f BK12259) | ((with_reducible refine gate_callee (f := 42) rfl ?_); refine kc (some 15) Try.func42 #[.agg #[.bool t12253, .int .i64 t12254, .int .i64 t12255], .agg #[.bool t12260, .int .i64 t12261, .int .i64 t12262]] (flyballref17_Inside.calls t12253 t12254 t12255 t12260 t12261 t12262 false _ A5.out) ?_; intro w46 hb; replace BK12251 := kb BK12251 hb; replace BK12252 := kb BK12252 hb; replace BK12259 := kb BK12259 hb; replace BK12266 := kb (o' := .cells #[.bool t12260, .int .i64 t12261, .int .i64 t12262, .bool t12263, .int .i64 t12264, .int .i64 t12265] 29 (0, 0)) BK12266 hb; replace HB := kh HB hb; (try clear hb)))
    go_ret
    exact ⟨pe, pl HB⟩
end Go.Proofs.Ytinmgnlofininaa.PAll
end
