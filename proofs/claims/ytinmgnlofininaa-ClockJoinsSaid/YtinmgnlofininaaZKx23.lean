/- Functions of the print, turned to this claim. -/
import Derived.Test.YtinmgnlofininaaZKW
import Derived.Test.YtinmgnlofininaaZKx0
import Derived.Test.YtinmgnlofininaaZKx16
section
namespace Go.Proofs.Ytinmgnlofininaa.PAll
open Go.RowKit Go.Proofs.YtinmgnlofininaaW.PrintWords Go.Proofs.YtinmgnlofininaaW.PrintLast Go.Proofs.YtinmgnlofininaaW.PrintMore
attribute [local go_sem] max2_int min2_int max_two min_two max_three min_three max_four min_four   -- for this text's walks alone
set_option linter.unusedVariables false
set_option linter.unusedSimpArgs false
/-! ### flyballref17_Widen: function 58 -/
mutual
def flyballref17_Widen.j1 : Nat → List Int → Bool → Int → Int → Bool → Int → Int → Option (Bool × Int × Int)
  | 0, _, _, _, _, _, _, _ => none
  | k + 1, x2, x6708000, x6708001, x6708002, x6716000, x6716001, x6716002 => if x6716002 > x6708002 then (flyballref17_Widen.l1 k x2 1099511627776 0 x6716000 x6716001 x6716002) else ((flyballref17_Norm.f x6716000 x6716001 x6716002).bind fun bt6723 => (some (bt6723.1, bt6723.2.1, bt6723.2.2)))
def flyballref17_Widen.l1 : Nat → List Int → Int → Int → Bool → Int → Int → Option (Bool × Int × Int)
  | 0, _, _, _, _, _, _ => none
  | k + 1, x2, x12, x13, x6716000, x6716001, x6716002 => if x13 < (x2.length : Int) then (if 0 ≤ x13 then (if (rd x2 x13) ≥ x6716002 then (flyballref17_Widen.l1 k x2 (mn x12 (rd x2 x13)) (wrap64 (x13 + 1)) x6716000 x6716001 x6716002) else (flyballref17_Widen.l1 k x2 x12 (wrap64 (x13 + 1)) x6716000 x6716001 x6716002)) else (none)) else ((flyballref17_Norm.f x6716000 x6716001 x12).bind fun bt6720 => (some (bt6720.1, bt6720.2.1, bt6720.2.2)))
def flyballref17_Widen.l0 : Nat → List Int → Int → Int → Bool → Int → Int → Bool → Int → Int → Option (Bool × Int × Int)
  | 0, _, _, _, _, _, _, _, _, _ => none
  | k + 1, x2, x10, x11, x6708000, x6708001, x6708002, x6716000, x6716001, x6716002 => if x11 < (x2.length : Int) then (if 0 ≤ x11 then (if (rd x2 x11) ≤ x6716001 then (flyballref17_Widen.l0 k x2 (mx x10 (rd x2 x11)) (wrap64 (x11 + 1)) x6708000 x6708001 x6708002 x6716000 x6716001 x6716002) else (flyballref17_Widen.l0 k x2 x10 (wrap64 (x11 + 1)) x6708000 x6708001 x6708002 x6716000 x6716001 x6716002)) else (none)) else (flyballref17_Widen.j1 k x2 x6708000 x6708001 x6708002 x6716000 x10 x6716002)
end
def flyballref17_Widen.f (k : Nat) (a0_0 : Bool) (a0_1 : Int) (a0_2 : Int) (a1_0 : Bool) (a1_1 : Int) (a1_2 : Int) (l2 : List Int) : Option (Bool × Int × Int) := (flyballref17_Norm.f a0_0 a0_1 a0_2).bind fun bt6704 => ((flyballref17_Norm.f a1_0 a1_1 a1_2).bind fun bt6708 => (if bt6704.1 = true then (some (bt6708.1, bt6708.2.1, bt6708.2.2)) else ((flyballref17_Join.f bt6704.1 bt6704.2.1 bt6704.2.2 bt6708.1 bt6708.2.1 bt6708.2.2).bind fun bt6712 => (if bt6712.2.1 < bt6704.2.1 then (flyballref17_Widen.l0 k l2 (-1099511627776) 0 bt6704.1 bt6704.2.1 bt6704.2.2 bt6712.1 bt6712.2.1 bt6712.2.2) else (flyballref17_Widen.j1 k l2 bt6704.1 bt6704.2.1 bt6704.2.2 bt6712.1 bt6712.2.1 bt6712.2.2)))))
theorem flyballref17_Widen.mono_l : ∀ k, (∀ y0 y1 y2 y3 y4 y5 y6, LeO (flyballref17_Widen.j1 k y0 y1 y2 y3 y4 y5 y6) (flyballref17_Widen.j1 (k + 1) y0 y1 y2 y3 y4 y5 y6)) ∧ (∀ y0 y1 y2 y3 y4 y5, LeO (flyballref17_Widen.l1 k y0 y1 y2 y3 y4 y5) (flyballref17_Widen.l1 (k + 1) y0 y1 y2 y3 y4 y5)) ∧ (∀ y0 y1 y2 y3 y4 y5 y6 y7 y8, LeO (flyballref17_Widen.l0 k y0 y1 y2 y3 y4 y5 y6 y7 y8) (flyballref17_Widen.l0 (k + 1) y0 y1 y2 y3 y4 y5 y6 y7 y8))
  | 0 => ⟨fun _ _ _ _ _ _ _ r h => by simp [flyballref17_Widen.j1] at h, fun _ _ _ _ _ _ r h => by simp [flyballref17_Widen.l1] at h, fun _ _ _ _ _ _ _ _ _ r h => by simp [flyballref17_Widen.l0] at h⟩
  | k + 1 => by
    obtain ⟨ih0, ih1, ih2⟩ := flyballref17_Widen.mono_l k
    refine ⟨?_, ?_, ?_⟩
    · intro y0 y1 y2 y3 y4 y5 y6
      unfold flyballref17_Widen.j1
      repeat' first
      | (with_reducible exact ih0 _ _ _ _ _ _ _)
      | (with_reducible exact ih1 _ _ _ _ _ _)
      | (with_reducible exact ih2 _ _ _ _ _ _ _ _ _)
      | (with_reducible exact LeO.refl _)
      | (with_reducible exact LeO.none _)
      | (with_reducible refine LeO.ite ?_ ?_)
      | (with_reducible refine LeO.bind ?_ (fun _ => ?_))
      | exact ih0 _ _ _ _ _ _ _
      | exact ih1 _ _ _ _ _ _
      | exact ih2 _ _ _ _ _ _ _ _ _
      | exact LeO.none _
      | refine LeO.ite ?_ ?_
      | refine LeO.bind ?_ (fun _ => ?_)
    · intro y0 y1 y2 y3 y4 y5
      unfold flyballref17_Widen.l1
      repeat' first
      | (with_reducible exact ih0 _ _ _ _ _ _ _)
      | (with_reducible exact ih1 _ _ _ _ _ _)
      | (with_reducible exact ih2 _ _ _ _ _ _ _ _ _)
      | (with_reducible exact LeO.refl _)
      | (with_reducible exact LeO.none _)
      | (with_reducible refine LeO.ite ?_ ?_)
      | (with_reducible refine LeO.bind ?_ (fun _ => ?_))
      | exact ih0 _ _ _ _ _ _ _
      | exact ih1 _ _ _ _ _ _
      | exact ih2 _ _ _ _ _ _ _ _ _
      | exact LeO.none _
      | refine LeO.ite ?_ ?_
      | refine LeO.bind ?_ (fun _ => ?_)
    · intro y0 y1 y2 y3 y4 y5 y6 y7 y8
      unfold flyballref17_Widen.l0
      repeat' first
      | (with_reducible exact ih0 _ _ _ _ _ _ _)
      | (with_reducible exact ih1 _ _ _ _ _ _)
      | (with_reducible exact ih2 _ _ _ _ _ _ _ _ _)
      | (with_reducible exact LeO.refl _)
      | (with_reducible exact LeO.none _)
      | (with_reducible refine LeO.ite ?_ ?_)
      | (with_reducible refine LeO.bind ?_ (fun _ => ?_))
      | exact ih0 _ _ _ _ _ _ _
      | exact ih1 _ _ _ _ _ _
      | exact ih2 _ _ _ _ _ _ _ _ _
      | exact LeO.none _
      | refine LeO.ite ?_ ?_
      | refine LeO.bind ?_ (fun _ => ?_)
theorem flyballref17_Widen.mono : ∀ a0 a1 a2 a3 a4 a5 a6 k, LeO (flyballref17_Widen.f k a0 a1 a2 a3 a4 a5 a6) (flyballref17_Widen.f (k + 1) a0 a1 a2 a3 a4 a5 a6) := by
  intro a0 a1 a2 a3 a4 a5 a6 k
  obtain ⟨ih0, ih1, ih2⟩ := flyballref17_Widen.mono_l k
  unfold flyballref17_Widen.f
  repeat' first
      | (with_reducible exact ih0 _ _ _ _ _ _ _)
      | (with_reducible exact ih1 _ _ _ _ _ _)
      | (with_reducible exact ih2 _ _ _ _ _ _ _ _ _)
      | (with_reducible exact LeO.refl _)
      | (with_reducible exact LeO.none _)
      | (with_reducible refine LeO.ite ?_ ?_)
      | (with_reducible refine LeO.bind ?_ (fun _ => ?_))
      | exact ih0 _ _ _ _ _ _ _
      | exact ih1 _ _ _ _ _ _
      | exact ih2 _ _ _ _ _ _ _ _ _
      | exact LeO.none _
      | refine LeO.ite ?_ ?_
      | refine LeO.bind ?_ (fun _ => ?_)
set_option maxHeartbeats 8000000 in
set_option maxRecDepth 100000 in
theorem flyballref17_Widen.calls (k : Nat) (a0_0 : Bool) (a0_1 : Int) (a0_2 : Int) (a1_0 : Bool) (a1_1 : Int) (a1_2 : Int) (P2_ : Nat → Prop) (A2 : Option Addr) (c2 : Nat) (l2 : List Int) (r1 : Bool) (r2 : Int) (r3 : Int) (w : World) (hs2 : Kd.V (Kd.int .i64) 2 w w.heap.size (fun k_ => P2_ k_) (.slice A2 l2.length c2) l2) (h : flyballref17_Widen.f k a0_0 a0_1 a0_2 a1_0 a1_1 a1_2 l2 = some (r1, r2, r3)) :
    Calls Try.prog 58 #[.agg #[.bool a0_0, .int .i64 a0_1, .int .i64 a0_2], .agg #[.bool a1_0, .int .i64 a1_1, .int .i64 a1_2], .slice A2 l2.length c2] w fun e w' => e = .returned (.agg #[.bool r1, .int .i64 r2, .int .i64 r3]) ∧ Below w.heap.size w w' := by
  have hu23 := Try.underlying23
  have HO2 := Aside0.mk (show Kd.V (Kd.int .i64) 2 w w.heap.size (fun k_ => (P2_ k_ ∨ w.heap.size ≤ k_)) (.slice A2 l2.length c2) l2 from Kd.V_mono hs2 (fun k_ hk => .inl hk))
  have HB := Aside0.mk (Below.refl w.heap.size w)
  have H := h
  clear h
  unfold flyballref17_Widen.f at H
  obtain ⟨⟨t6704, t6705, t6706⟩, A40, H⟩ := Option.bind_eq_some_iff.mp H
  have A4 := Aside0.mk A40
  clear A40
  (try dsimp only at H)
  obtain ⟨⟨t6708, t6709, t6710⟩, A50, H⟩ := Option.bind_eq_some_iff.mp H
  have A5 := Aside0.mk A50
  clear A50
  (try dsimp only at H)
  by_cases c6 : t6704 = true
  · subst c6
    rw [if_pos rfl] at H
    simp only [Option.some.injEq, Prod.mk.injEq] at H
    obtain ⟨rfl, rfl, rfl⟩ := H
    go_enter Try.func58, Try.ntmps58
    go_wp2_with (first | ((with_reducible refine gate_dst (N := 3) rfl ?_); refine kx 3 #[.bool a0_0, .int .i64 a0_1, .int .i64 a0_2] 23 ?_; intro gb6701 hg w7 hbox hb; have n0_ := Aside0.mk (Kd.V_below (Kd.V_elderB (by (with_reducible repeat (first | apply Kd.V_alloc | apply Kd.V_drewN | apply Kd.V_drew)); exact HO2.out) gb6701 (Nat.le_of_eq hg.symm)) hb); have n1_ := kh HB hb; have n2_ := Aside0.mk (hbox); have n3_ := kg HB hg; have n4_ := kg HB hg; clear HO2; clear HB; have HO2 := n0_; have HB := n1_; have BK6701 := n2_; have GW6701 := n3_; have GE6701 := n4_; clear n0_ n1_ n2_ n3_ n4_; clear hb hbox hg) | ((with_reducible refine gate_dst (N := 4) rfl ?_); refine kx 4 #[.bool a1_0, .int .i64 a1_1, .int .i64 a1_2] 23 ?_; intro gb6702 hg w8 hbox hb; have n0_ := Aside0.mk (Kd.V_below (Kd.V_elderB (by (with_reducible repeat (first | apply Kd.V_alloc | apply Kd.V_drewN | apply Kd.V_drew)); exact HO2.out) gb6702 (Nat.le_of_eq hg.symm)) hb); have n1_ := kb BK6701 hb; have n2_ := kh HB hb; have n3_ := Aside0.mk (hbox); have n4_ := kg HB hg; have n5_ := kg HB hg; have n6_ := kn BK6701 hg; have n7_ := km BK6701 hg; clear HO2; clear BK6701; clear HB; have HO2 := n0_; have BK6701 := n1_; have HB := n2_; have BK6702 := n3_; have GW6702 := n4_; have GE6702 := n5_; have NB6701_6702 := n6_; have NB6702_6701 := n7_; clear n0_ n1_ n2_ n3_ n4_ n5_ n6_ n7_; clear hb hbox hg) | ((with_reducible refine gate_dst (N := 6) rfl ?_); refine kx 6 #[.bool false, .int .i64 0, .int .i64 0] 23 ?_; intro gb6703 hg w9 hbox hb; have n0_ := Aside0.mk (Kd.V_below (Kd.V_elderB (by (with_reducible repeat (first | apply Kd.V_alloc | apply Kd.V_drewN | apply Kd.V_drew)); exact HO2.out) gb6703 (Nat.le_of_eq hg.symm)) hb); have n1_ := kb BK6701 hb; have n2_ := kb BK6702 hb; have n3_ := kh HB hb; have n4_ := Aside0.mk (hbox); have n5_ := kg HB hg; have n6_ := kg HB hg; have n7_ := kn BK6701 hg; have n8_ := km BK6701 hg; have n9_ := kn BK6702 hg; have n10_ := km BK6702 hg; clear HO2; clear BK6701; clear BK6702; clear HB; have HO2 := n0_; have BK6701 := n1_; have BK6702 := n2_; have HB := n3_; have BK6703 := n4_; have GW6703 := n5_; have GE6703 := n6_; have NB6701_6703 := n7_; have NB6703_6701 := n8_; have NB6702_6703 := n9_; have NB6703_6702 := n10_; clear n0_ n1_ n2_ n3_ n4_ n5_ n6_ n7_ n8_ n9_ n10_; clear hb hbox hg; have hnb10 := NB6701_6702.out; have hnc10 := NB6702_6701.out; have hnb11 := NB6701_6703.out; have hnc11 := NB6703_6701.out; have ⟨hcz12_0, hcz12_1, hcz12_2, hfz12_0, hfz12_1, hfz12_2⟩ := kz3f BK6701) | (go_at_call 39; (with_reducible refine (flyballref17_Norm.calls a0_0 a0_1 a0_2 true t6705 t6706 _ A4.out).mono ?_); rintro e w13 ⟨rfl, hb⟩; have n0_ := Aside0.mk (Kd.V_below (by (with_reducible repeat (first | apply Kd.V_alloc | apply Kd.V_drewN | apply Kd.V_drew)); exact HO2.out) hb); have n1_ := kb BK6701 hb; have n2_ := kb BK6702 hb; have n3_ := kb BK6703 hb; have n4_ := kh HB hb; clear HO2; clear BK6701; clear BK6702; clear BK6703; clear HB; have HO2 := n0_; have BK6701 := n1_; have BK6702 := n2_; have BK6703 := n3_; have HB := n4_; clear n0_ n1_ n2_ n3_ n4_; (try clear hb); (try clear hb2); (try clear hk); (try clear hi)) | ((with_reducible refine gate_dst (N := 7) rfl ?_); refine kx 7 #[.bool false, .int .i64 0, .int .i64 0] 23 ?_; intro gb6707 hg w14 hbox hb; have n0_ := Aside0.mk (Kd.V_below (Kd.V_elderB (by (with_reducible repeat (first | apply Kd.V_alloc | apply Kd.V_drewN | apply Kd.V_drew)); exact HO2.out) gb6707 (Nat.le_of_eq hg.symm)) hb); have n1_ := kb BK6701 hb; have n2_ := kb BK6702 hb; have n3_ := kb BK6703 hb; have n4_ := kh HB hb; have n5_ := Aside0.mk (hbox); have n6_ := kg HB hg; have n7_ := kg HB hg; have n8_ := kn BK6701 hg; have n9_ := km BK6701 hg; have n10_ := kn BK6702 hg; have n11_ := km BK6702 hg; have n12_ := kn BK6703 hg; have n13_ := km BK6703 hg; clear HO2; clear BK6701; clear BK6702; clear BK6703; clear HB; have HO2 := n0_; have BK6701 := n1_; have BK6702 := n2_; have BK6703 := n3_; have HB := n4_; have BK6707 := n5_; have GW6707 := n6_; have GE6707 := n7_; have NB6701_6707 := n8_; have NB6707_6701 := n9_; have NB6702_6707 := n10_; have NB6707_6702 := n11_; have NB6703_6707 := n12_; have NB6707_6703 := n13_; clear n0_ n1_ n2_ n3_ n4_ n5_ n6_ n7_ n8_ n9_ n10_ n11_ n12_ n13_; clear hb hbox hg; have hnb15 := NB6707_6701.out; have hnc15 := NB6701_6707.out; have hnb16 := NB6707_6702.out; have hnc16 := NB6702_6707.out; have hnb17 := NB6707_6703.out; have hnc17 := NB6703_6707.out; have ⟨hcz18_0, hcz18_1, hcz18_2, hfz18_0, hfz18_1, hfz18_2⟩ := kz3f BK6707; have hnb19 := NB6702_6703.out; have hnc19 := NB6703_6702.out; have ⟨hcz20_0, hcz20_1, hcz20_2, hfz20_0, hfz20_1, hfz20_2⟩ := kz3f BK6702) | (go_at_call 39; (with_reducible refine (flyballref17_Norm.calls a1_0 a1_1 a1_2 t6708 t6709 t6710 _ A5.out).mono ?_); rintro e w21 ⟨rfl, hb⟩; have n0_ := Aside0.mk (Kd.V_below (by (with_reducible repeat (first | apply Kd.V_alloc | apply Kd.V_drewN | apply Kd.V_drew)); exact (Kd.V_mono (Kd.V_far (p := ⟨gb6707, 2, none⟩) (Kd.V_far (p := ⟨gb6707, 1, none⟩) (Kd.V_far (p := ⟨gb6707, 0, none⟩) (Kd.V_mono HO2.out (fun k_ hk => (⟨hk, hk.2⟩ : _ ∧ k_ ≠ gb6707))) (fun _ hk => hk.2) (.bool true)) (fun _ hk => hk.2) (.int .i64 t6705)) (fun _ hk => hk.2) (.int .i64 t6706)) (fun _ h_ => h_.1))) hb); have n1_ := kb BK6701 hb; have n2_ := kb BK6702 hb; have n3_ := kb BK6703 hb; have n4_ := kb (o' := .cells #[.bool true, .int .i64 t6705, .int .i64 t6706] 23 (0, 0)) BK6707 hb; have n5_ := kh HB hb; clear HO2; clear BK6701; clear BK6702; clear BK6703; clear BK6707; clear HB; have HO2 := n0_; have BK6701 := n1_; have BK6702 := n2_; have BK6703 := n3_; have BK6707 := n4_; have HB := n5_; clear n0_ n1_ n2_ n3_ n4_ n5_; (try clear hb); (try clear hb2); (try clear hk); (try clear hi)) | ((with_reducible refine gate_dst (N := 8) rfl ?_); refine kx 8 #[.bool false, .int .i64 0, .int .i64 0] 23 ?_; intro gb6711 hg w22 hbox hb; have n0_ := Aside0.mk (Kd.V_below (Kd.V_elderB (by (with_reducible repeat (first | apply Kd.V_alloc | apply Kd.V_drewN | apply Kd.V_drew)); exact HO2.out) gb6711 (Nat.le_of_eq hg.symm)) hb); have n1_ := kb BK6701 hb; have n2_ := kb BK6702 hb; have n3_ := kb BK6703 hb; have n4_ := kb BK6707 hb; have n5_ := kh HB hb; have n6_ := Aside0.mk (hbox); have n7_ := kg HB hg; have n8_ := kg HB hg; have n9_ := kn BK6701 hg; have n10_ := km BK6701 hg; have n11_ := kn BK6702 hg; have n12_ := km BK6702 hg; have n13_ := kn BK6703 hg; have n14_ := km BK6703 hg; have n15_ := kn BK6707 hg; have n16_ := km BK6707 hg; clear HO2; clear BK6701; clear BK6702; clear BK6703; clear BK6707; clear HB; have HO2 := n0_; have BK6701 := n1_; have BK6702 := n2_; have BK6703 := n3_; have BK6707 := n4_; have HB := n5_; have BK6711 := n6_; have GW6711 := n7_; have GE6711 := n8_; have NB6701_6711 := n9_; have NB6711_6701 := n10_; have NB6702_6711 := n11_; have NB6711_6702 := n12_; have NB6703_6711 := n13_; have NB6711_6703 := n14_; have NB6707_6711 := n15_; have NB6711_6707 := n16_; clear n0_ n1_ n2_ n3_ n4_ n5_ n6_ n7_ n8_ n9_ n10_ n11_ n12_ n13_ n14_ n15_ n16_; clear hb hbox hg; have hnb23 := NB6711_6701.out; have hnc23 := NB6701_6711.out; have hnb24 := NB6711_6702.out; have hnc24 := NB6702_6711.out; have hnb25 := NB6711_6703.out; have hnc25 := NB6703_6711.out; have hnb26 := NB6711_6707.out; have hnc26 := NB6707_6711.out; have ⟨hcz27_0, hcz27_1, hcz27_2, hfz27_0, hfz27_1, hfz27_2⟩ := kz3f BK6711; have ⟨hcz28_0, hcz28_1, hcz28_2, hfz28_0, hfz28_1, hfz28_2⟩ := kz3f BK6707; have ⟨hcz29_0, hcz29_1, hcz29_2, hfz29_0, hfz29_1, hfz29_2⟩ := kz3f BK6703))
    repeat (go_quiet (first | ((with_reducible refine gate_dst (N := 3) rfl ?_); refine kx 3 #[.bool a0_0, .int .i64 a0_1, .int .i64 a0_2] 23 ?_; intro gb6701 hg w7 hbox hb; have n0_ := Aside0.mk (Kd.V_below (Kd.V_elderB (by (with_reducible repeat (first | apply Kd.V_alloc | apply Kd.V_drewN | apply Kd.V_drew)); exact HO2.out) gb6701 (Nat.le_of_eq hg.symm)) hb); have n1_ := kh HB hb; have n2_ := Aside0.mk (hbox); have n3_ := kg HB hg; have n4_ := kg HB hg; clear HO2; clear HB; have HO2 := n0_; have HB := n1_; have BK6701 := n2_; have GW6701 := n3_; have GE6701 := n4_; clear n0_ n1_ n2_ n3_ n4_; clear hb hbox hg) | ((with_reducible refine gate_dst (N := 4) rfl ?_); refine kx 4 #[.bool a1_0, .int .i64 a1_1, .int .i64 a1_2] 23 ?_; intro gb6702 hg w8 hbox hb; have n0_ := Aside0.mk (Kd.V_below (Kd.V_elderB (by (with_reducible repeat (first | apply Kd.V_alloc | apply Kd.V_drewN | apply Kd.V_drew)); exact HO2.out) gb6702 (Nat.le_of_eq hg.symm)) hb); have n1_ := kb BK6701 hb; have n2_ := kh HB hb; have n3_ := Aside0.mk (hbox); have n4_ := kg HB hg; have n5_ := kg HB hg; have n6_ := kn BK6701 hg; have n7_ := km BK6701 hg; clear HO2; clear BK6701; clear HB; have HO2 := n0_; have BK6701 := n1_; have HB := n2_; have BK6702 := n3_; have GW6702 := n4_; have GE6702 := n5_; have NB6701_6702 := n6_; have NB6702_6701 := n7_; clear n0_ n1_ n2_ n3_ n4_ n5_ n6_ n7_; clear hb hbox hg) | ((with_reducible refine gate_dst (N := 6) rfl ?_); refine kx 6 #[.bool false, .int .i64 0, .int .i64 0] 23 ?_; intro gb6703 hg w9 hbox hb; have n0_ := Aside0.mk (Kd.V_below (Kd.V_elderB (by (with_reducible repeat (first | apply Kd.V_alloc | apply Kd.V_drewN | apply Kd.V_drew)); exact HO2.out) gb6703 (Nat.le_of_eq hg.symm)) hb); have n1_ := kb BK6701 hb; have n2_ := kb BK6702 hb; have n3_ := kh HB hb; have n4_ := Aside0.mk (hbox); have n5_ := kg HB hg; have n6_ := kg HB hg; have n7_ := kn BK6701 hg; have n8_ := km BK6701 hg; have n9_ := kn BK6702 hg; have n10_ := km BK6702 hg; clear HO2; clear BK6701; clear BK6702; clear HB; have HO2 := n0_; have BK6701 := n1_; have BK6702 := n2_; have HB := n3_; have BK6703 := n4_; have GW6703 := n5_; have GE6703 := n6_; have NB6701_6703 := n7_; have NB6703_6701 := n8_; have NB6702_6703 := n9_; have NB6703_6702 := n10_; clear n0_ n1_ n2_ n3_ n4_ n5_ n6_ n7_ n8_ n9_ n10_; clear hb hbox hg; have hnb10 := NB6701_6702.out; have hnc10 := NB6702_6701.out; have hnb11 := NB6701_6703.out; have hnc11 := NB6703_6701.out; have ⟨hcz12_0, hcz12_1, hcz12_2, hfz12_0, hfz12_1, hfz12_2⟩ := kz3f BK6701) | (go_at_call 39; (with_reducible refine (flyballref17_Norm.calls a0_0 a0_1 a0_2 true t6705 t6706 _ A4.out).mono ?_); rintro e w13 ⟨rfl, hb⟩; have n0_ := Aside0.mk (Kd.V_below (by (with_reducible repeat (first | apply Kd.V_alloc | apply Kd.V_drewN | apply Kd.V_drew)); exact HO2.out) hb); have n1_ := kb BK6701 hb; have n2_ := kb BK6702 hb; have n3_ := kb BK6703 hb; have n4_ := kh HB hb; clear HO2; clear BK6701; clear BK6702; clear BK6703; clear HB; have HO2 := n0_; have BK6701 := n1_; have BK6702 := n2_; have BK6703 := n3_; have HB := n4_; clear n0_ n1_ n2_ n3_ n4_; (try clear hb); (try clear hb2); (try clear hk); (try clear hi)) | ((with_reducible refine gate_dst (N := 7) rfl ?_); refine kx 7 #[.bool false, .int .i64 0, .int .i64 0] 23 ?_; intro gb6707 hg w14 hbox hb; have n0_ := Aside0.mk (Kd.V_below (Kd.V_elderB (by (with_reducible repeat (first | apply Kd.V_alloc | apply Kd.V_drewN | apply Kd.V_drew)); exact HO2.out) gb6707 (Nat.le_of_eq hg.symm)) hb); have n1_ := kb BK6701 hb; have n2_ := kb BK6702 hb; have n3_ := kb BK6703 hb; have n4_ := kh HB hb; have n5_ := Aside0.mk (hbox); have n6_ := kg HB hg; have n7_ := kg HB hg; have n8_ := kn BK6701 hg; have n9_ := km BK6701 hg; have n10_ := kn BK6702 hg; have n11_ := km BK6702 hg; have n12_ := kn BK6703 hg; have n13_ := km BK6703 hg; clear HO2; clear BK6701; clear BK6702; clear BK6703; clear HB; have HO2 := n0_; have BK6701 := n1_; have BK6702 := n2_; have BK6703 := n3_; have HB := n4_; have BK6707 := n5_; have GW6707 := n6_; have GE6707 := n7_; have NB6701_6707 := n8_; have NB6707_6701 := n9_; have NB6702_6707 := n10_; have NB6707_6702 := n11_; have NB6703_6707 := n12_; have NB6707_6703 := n13_; clear n0_ n1_ n2_ n3_ n4_ n5_ n6_ n7_ n8_ n9_ n10_ n11_ n12_ n13_; clear hb hbox hg; have hnb15 := NB6707_6701.out; have hnc15 := NB6701_6707.out; have hnb16 := NB6707_6702.out; have hnc16 := NB6702_6707.out; have hnb17 := NB6707_6703.out; have hnc17 := NB6703_6707.out; have ⟨hcz18_0, hcz18_1, hcz18_2, hfz18_0, hfz18_1, hfz18_2⟩ := kz3f BK6707; have hnb19 := NB6702_6703.out; have hnc19 := NB6703_6702.out; have ⟨hcz20_0, hcz20_1, hcz20_2, hfz20_0, hfz20_1, hfz20_2⟩ := kz3f BK6702) | (go_at_call 39; (with_reducible refine (flyballref17_Norm.calls a1_0 a1_1 a1_2 t6708 t6709 t6710 _ A5.out).mono ?_); rintro e w21 ⟨rfl, hb⟩; have n0_ := Aside0.mk (Kd.V_below (by (with_reducible repeat (first | apply Kd.V_alloc | apply Kd.V_drewN | apply Kd.V_drew)); exact (Kd.V_mono (Kd.V_far (p := ⟨gb6707, 2, none⟩) (Kd.V_far (p := ⟨gb6707, 1, none⟩) (Kd.V_far (p := ⟨gb6707, 0, none⟩) (Kd.V_mono HO2.out (fun k_ hk => (⟨hk, hk.2⟩ : _ ∧ k_ ≠ gb6707))) (fun _ hk => hk.2) (.bool true)) (fun _ hk => hk.2) (.int .i64 t6705)) (fun _ hk => hk.2) (.int .i64 t6706)) (fun _ h_ => h_.1))) hb); have n1_ := kb BK6701 hb; have n2_ := kb BK6702 hb; have n3_ := kb BK6703 hb; have n4_ := kb (o' := .cells #[.bool true, .int .i64 t6705, .int .i64 t6706] 23 (0, 0)) BK6707 hb; have n5_ := kh HB hb; clear HO2; clear BK6701; clear BK6702; clear BK6703; clear BK6707; clear HB; have HO2 := n0_; have BK6701 := n1_; have BK6702 := n2_; have BK6703 := n3_; have BK6707 := n4_; have HB := n5_; clear n0_ n1_ n2_ n3_ n4_ n5_; (try clear hb); (try clear hb2); (try clear hk); (try clear hi)) | ((with_reducible refine gate_dst (N := 8) rfl ?_); refine kx 8 #[.bool false, .int .i64 0, .int .i64 0] 23 ?_; intro gb6711 hg w22 hbox hb; have n0_ := Aside0.mk (Kd.V_below (Kd.V_elderB (by (with_reducible repeat (first | apply Kd.V_alloc | apply Kd.V_drewN | apply Kd.V_drew)); exact HO2.out) gb6711 (Nat.le_of_eq hg.symm)) hb); have n1_ := kb BK6701 hb; have n2_ := kb BK6702 hb; have n3_ := kb BK6703 hb; have n4_ := kb BK6707 hb; have n5_ := kh HB hb; have n6_ := Aside0.mk (hbox); have n7_ := kg HB hg; have n8_ := kg HB hg; have n9_ := kn BK6701 hg; have n10_ := km BK6701 hg; have n11_ := kn BK6702 hg; have n12_ := km BK6702 hg; have n13_ := kn BK6703 hg; have n14_ := km BK6703 hg; have n15_ := kn BK6707 hg; have n16_ := km BK6707 hg; clear HO2; clear BK6701; clear BK6702; clear BK6703; clear BK6707; clear HB; have HO2 := n0_; have BK6701 := n1_; have BK6702 := n2_; have BK6703 := n3_; have BK6707 := n4_; have HB := n5_; have BK6711 := n6_; have GW6711 := n7_; have GE6711 := n8_; have NB6701_6711 := n9_; have NB6711_6701 := n10_; have NB6702_6711 := n11_; have NB6711_6702 := n12_; have NB6703_6711 := n13_; have NB6711_6703 := n14_; have NB6707_6711 := n15_; have NB6711_6707 := n16_; clear n0_ n1_ n2_ n3_ n4_ n5_ n6_ n7_ n8_ n9_ n10_ n11_ n12_ n13_ n14_ n15_ n16_; clear hb hbox hg; have hnb23 := NB6711_6701.out; have hnc23 := NB6701_6711.out; have hnb24 := NB6711_6702.out; have hnc24 := NB6702_6711.out; have hnb25 := NB6711_6703.out; have hnc25 := NB6703_6711.out; have hnb26 := NB6711_6707.out; have hnc26 := NB6707_6711.out; have ⟨hcz27_0, hcz27_1, hcz27_2, hfz27_0, hfz27_1, hfz27_2⟩ := kz3f BK6711; have ⟨hcz28_0, hcz28_1, hcz28_2, hfz28_0, hfz28_1, hfz28_2⟩ := kz3f BK6707; have ⟨hcz29_0, hcz29_1, hcz29_2, hfz29_0, hfz29_1, hfz29_2⟩ := kz3f BK6703)); try go_wp2_with (first | ((with_reducible refine gate_dst (N := 3) rfl ?_); refine kx 3 #[.bool a0_0, .int .i64 a0_1, .int .i64 a0_2] 23 ?_; intro gb6701 hg w7 hbox hb; have n0_ := Aside0.mk (Kd.V_below (Kd.V_elderB (by (with_reducible repeat (first | apply Kd.V_alloc | apply Kd.V_drewN | apply Kd.V_drew)); exact HO2.out) gb6701 (Nat.le_of_eq hg.symm)) hb); have n1_ := kh HB hb; have n2_ := Aside0.mk (hbox); have n3_ := kg HB hg; have n4_ := kg HB hg; clear HO2; clear HB; have HO2 := n0_; have HB := n1_; have BK6701 := n2_; have GW6701 := n3_; have GE6701 := n4_; clear n0_ n1_ n2_ n3_ n4_; clear hb hbox hg) | ((with_reducible refine gate_dst (N := 4) rfl ?_); refine kx 4 #[.bool a1_0, .int .i64 a1_1, .int .i64 a1_2] 23 ?_; intro gb6702 hg w8 hbox hb; have n0_ := Aside0.mk (Kd.V_below (Kd.V_elderB (by (with_reducible repeat (first | apply Kd.V_alloc | apply Kd.V_drewN | apply Kd.V_drew)); exact HO2.out) gb6702 (Nat.le_of_eq hg.symm)) hb); have n1_ := kb BK6701 hb; have n2_ := kh HB hb; have n3_ := Aside0.mk (hbox); have n4_ := kg HB hg; have n5_ := kg HB hg; have n6_ := kn BK6701 hg; have n7_ := km BK6701 hg; clear HO2; clear BK6701; clear HB; have HO2 := n0_; have BK6701 := n1_; have HB := n2_; have BK6702 := n3_; have GW6702 := n4_; have GE6702 := n5_; have NB6701_6702 := n6_; have NB6702_6701 := n7_; clear n0_ n1_ n2_ n3_ n4_ n5_ n6_ n7_; clear hb hbox hg) | ((with_reducible refine gate_dst (N := 6) rfl ?_); refine kx 6 #[.bool false, .int .i64 0, .int .i64 0] 23 ?_; intro gb6703 hg w9 hbox hb; have n0_ := Aside0.mk (Kd.V_below (Kd.V_elderB (by (with_reducible repeat (first | apply Kd.V_alloc | apply Kd.V_drewN | apply Kd.V_drew)); exact HO2.out) gb6703 (Nat.le_of_eq hg.symm)) hb); have n1_ := kb BK6701 hb; have n2_ := kb BK6702 hb; have n3_ := kh HB hb; have n4_ := Aside0.mk (hbox); have n5_ := kg HB hg; have n6_ := kg HB hg; have n7_ := kn BK6701 hg; have n8_ := km BK6701 hg; have n9_ := kn BK6702 hg; have n10_ := km BK6702 hg; clear HO2; clear BK6701; clear BK6702; clear HB; have HO2 := n0_; have BK6701 := n1_; have BK6702 := n2_; have HB := n3_; have BK6703 := n4_; have GW6703 := n5_; have GE6703 := n6_; have NB6701_6703 := n7_; have NB6703_6701 := n8_; have NB6702_6703 := n9_; have NB6703_6702 := n10_; clear n0_ n1_ n2_ n3_ n4_ n5_ n6_ n7_ n8_ n9_ n10_; clear hb hbox hg; have hnb10 := NB6701_6702.out; have hnc10 := NB6702_6701.out; have hnb11 := NB6701_6703.out; have hnc11 := NB6703_6701.out; have ⟨hcz12_0, hcz12_1, hcz12_2, hfz12_0, hfz12_1, hfz12_2⟩ := kz3f BK6701) | (go_at_call 39; (with_reducible refine (flyballref17_Norm.calls a0_0 a0_1 a0_2 true t6705 t6706 _ A4.out).mono ?_); rintro e w13 ⟨rfl, hb⟩; have n0_ := Aside0.mk (Kd.V_below (by (with_reducible repeat (first | apply Kd.V_alloc | apply Kd.V_drewN | apply Kd.V_drew)); exact HO2.out) hb); have n1_ := kb BK6701 hb; have n2_ := kb BK6702 hb; have n3_ := kb BK6703 hb; have n4_ := kh HB hb; clear HO2; clear BK6701; clear BK6702; clear BK6703; clear HB; have HO2 := n0_; have BK6701 := n1_; have BK6702 := n2_; have BK6703 := n3_; have HB := n4_; clear n0_ n1_ n2_ n3_ n4_; (try clear hb); (try clear hb2); (try clear hk); (try clear hi)) | ((with_reducible refine gate_dst (N := 7) rfl ?_); refine kx 7 #[.bool false, .int .i64 0, .int .i64 0] 23 ?_; intro gb6707 hg w14 hbox hb; have n0_ := Aside0.mk (Kd.V_below (Kd.V_elderB (by (with_reducible repeat (first | apply Kd.V_alloc | apply Kd.V_drewN | apply Kd.V_drew)); exact HO2.out) gb6707 (Nat.le_of_eq hg.symm)) hb); have n1_ := kb BK6701 hb; have n2_ := kb BK6702 hb; have n3_ := kb BK6703 hb; have n4_ := kh HB hb; have n5_ := Aside0.mk (hbox); have n6_ := kg HB hg; have n7_ := kg HB hg; have n8_ := kn BK6701 hg; have n9_ := km BK6701 hg; have n10_ := kn BK6702 hg; have n11_ := km BK6702 hg; have n12_ := kn BK6703 hg; have n13_ := km BK6703 hg; clear HO2; clear BK6701; clear BK6702; clear BK6703; clear HB; have HO2 := n0_; have BK6701 := n1_; have BK6702 := n2_; have BK6703 := n3_; have HB := n4_; have BK6707 := n5_; have GW6707 := n6_; have GE6707 := n7_; have NB6701_6707 := n8_; have NB6707_6701 := n9_; have NB6702_6707 := n10_; have NB6707_6702 := n11_; have NB6703_6707 := n12_; have NB6707_6703 := n13_; clear n0_ n1_ n2_ n3_ n4_ n5_ n6_ n7_ n8_ n9_ n10_ n11_ n12_ n13_; clear hb hbox hg; have hnb15 := NB6707_6701.out; have hnc15 := NB6701_6707.out; have hnb16 := NB6707_6702.out; have hnc16 := NB6702_6707.out; have hnb17 := NB6707_6703.out; have hnc17 := NB6703_6707.out; have ⟨hcz18_0, hcz18_1, hcz18_2, hfz18_0, hfz18_1, hfz18_2⟩ := kz3f BK6707; have hnb19 := NB6702_6703.out; have hnc19 := NB6703_6702.out; have ⟨hcz20_0, hcz20_1, hcz20_2, hfz20_0, hfz20_1, hfz20_2⟩ := kz3f BK6702) | (go_at_call 39; (with_reducible refine (flyballref17_Norm.calls a1_0 a1_1 a1_2 t6708 t6709 t6710 _ A5.out).mono ?_); rintro e w21 ⟨rfl, hb⟩; have n0_ := Aside0.mk (Kd.V_below (by (with_reducible repeat (first | apply Kd.V_alloc | apply Kd.V_drewN | apply Kd.V_drew)); exact (Kd.V_mono (Kd.V_far (p := ⟨gb6707, 2, none⟩) (Kd.V_far (p := ⟨gb6707, 1, none⟩) (Kd.V_far (p := ⟨gb6707, 0, none⟩) (Kd.V_mono HO2.out (fun k_ hk => (⟨hk, hk.2⟩ : _ ∧ k_ ≠ gb6707))) (fun _ hk => hk.2) (.bool true)) (fun _ hk => hk.2) (.int .i64 t6705)) (fun _ hk => hk.2) (.int .i64 t6706)) (fun _ h_ => h_.1))) hb); have n1_ := kb BK6701 hb; have n2_ := kb BK6702 hb; have n3_ := kb BK6703 hb; have n4_ := kb (o' := .cells #[.bool true, .int .i64 t6705, .int .i64 t6706] 23 (0, 0)) BK6707 hb; have n5_ := kh HB hb; clear HO2; clear BK6701; clear BK6702; clear BK6703; clear BK6707; clear HB; have HO2 := n0_; have BK6701 := n1_; have BK6702 := n2_; have BK6703 := n3_; have BK6707 := n4_; have HB := n5_; clear n0_ n1_ n2_ n3_ n4_ n5_; (try clear hb); (try clear hb2); (try clear hk); (try clear hi)) | ((with_reducible refine gate_dst (N := 8) rfl ?_); refine kx 8 #[.bool false, .int .i64 0, .int .i64 0] 23 ?_; intro gb6711 hg w22 hbox hb; have n0_ := Aside0.mk (Kd.V_below (Kd.V_elderB (by (with_reducible repeat (first | apply Kd.V_alloc | apply Kd.V_drewN | apply Kd.V_drew)); exact HO2.out) gb6711 (Nat.le_of_eq hg.symm)) hb); have n1_ := kb BK6701 hb; have n2_ := kb BK6702 hb; have n3_ := kb BK6703 hb; have n4_ := kb BK6707 hb; have n5_ := kh HB hb; have n6_ := Aside0.mk (hbox); have n7_ := kg HB hg; have n8_ := kg HB hg; have n9_ := kn BK6701 hg; have n10_ := km BK6701 hg; have n11_ := kn BK6702 hg; have n12_ := km BK6702 hg; have n13_ := kn BK6703 hg; have n14_ := km BK6703 hg; have n15_ := kn BK6707 hg; have n16_ := km BK6707 hg; clear HO2; clear BK6701; clear BK6702; clear BK6703; clear BK6707; clear HB; have HO2 := n0_; have BK6701 := n1_; have BK6702 := n2_; have BK6703 := n3_; have BK6707 := n4_; have HB := n5_; have BK6711 := n6_; have GW6711 := n7_; have GE6711 := n8_; have NB6701_6711 := n9_; have NB6711_6701 := n10_; have NB6702_6711 := n11_; have NB6711_6702 := n12_; have NB6703_6711 := n13_; have NB6711_6703 := n14_; have NB6707_6711 := n15_; have NB6711_6707 := n16_; clear n0_ n1_ n2_ n3_ n4_ n5_ n6_ n7_ n8_ n9_ n10_ n11_ n12_ n13_ n14_ n15_ n16_; clear hb hbox hg; have hnb23 := NB6711_6701.out; have hnc23 := NB6701_6711.out; have hnb24 := NB6711_6702.out; have hnc24 := NB6702_6711.out; have hnb25 := NB6711_6703.out; have hnc25 := NB6703_6711.out; have hnb26 := NB6711_6707.out; have hnc26 := NB6707_6711.out; have ⟨hcz27_0, hcz27_1, hcz27_2, hfz27_0, hfz27_1, hfz27_2⟩ := kz3f BK6711; have ⟨hcz28_0, hcz28_1, hcz28_2, hfz28_0, hfz28_1, hfz28_2⟩ := kz3f BK6707; have ⟨hcz29_0, hcz29_1, hcz29_2, hfz29_0, hfz29_1, hfz29_2⟩ := kz3f BK6703)))
    refine bodyPost_ret (results_cell_row rfl _ _ gb6703 23 #[.bool t6708, .int .i64 t6709, .int .i64 t6710] (0, 0) _ rfl (pK BK6703) Try.underlying23 rfl (by kernel_rfl)) rfl ?_
    exact ⟨pe, pl HB⟩
  · replace c6 := Bool.eq_false_iff.mpr c6
    subst c6
    rw [if_neg (show ¬ (false = true) by decide)] at H
    obtain ⟨⟨t6712, t6713, t6714⟩, A300, H⟩ := Option.bind_eq_some_iff.mp H
    have A30 := Aside0.mk A300
    clear A300
    (try dsimp only at H)
    have HC31 := Aside0.mk H
    clear H
    go_enter Try.func58, Try.ntmps58
    go_upto_if 28 with (first | ((with_reducible refine gate_dst (N := 3) rfl ?_); refine kx 3 #[.bool a0_0, .int .i64 a0_1, .int .i64 a0_2] 23 ?_; intro gb6701 hg w32 hbox hb; have n0_ := Aside0.mk (Kd.V_below (Kd.V_elderB (by (with_reducible repeat (first | apply Kd.V_alloc | apply Kd.V_drewN | apply Kd.V_drew)); exact HO2.out) gb6701 (Nat.le_of_eq hg.symm)) hb); have n1_ := kh HB hb; have n2_ := Aside0.mk (hbox); have n3_ := kg HB hg; have n4_ := kg HB hg; clear HO2; clear HB; have HO2 := n0_; have HB := n1_; have BK6701 := n2_; have GW6701 := n3_; have GE6701 := n4_; clear n0_ n1_ n2_ n3_ n4_; clear hb hbox hg) | ((with_reducible refine gate_dst (N := 4) rfl ?_); refine kx 4 #[.bool a1_0, .int .i64 a1_1, .int .i64 a1_2] 23 ?_; intro gb6702 hg w33 hbox hb; have n0_ := Aside0.mk (Kd.V_below (Kd.V_elderB (by (with_reducible repeat (first | apply Kd.V_alloc | apply Kd.V_drewN | apply Kd.V_drew)); exact HO2.out) gb6702 (Nat.le_of_eq hg.symm)) hb); have n1_ := kb BK6701 hb; have n2_ := kh HB hb; have n3_ := Aside0.mk (hbox); have n4_ := kg HB hg; have n5_ := kg HB hg; have n6_ := kn BK6701 hg; have n7_ := km BK6701 hg; clear HO2; clear BK6701; clear HB; have HO2 := n0_; have BK6701 := n1_; have HB := n2_; have BK6702 := n3_; have GW6702 := n4_; have GE6702 := n5_; have NB6701_6702 := n6_; have NB6702_6701 := n7_; clear n0_ n1_ n2_ n3_ n4_ n5_ n6_ n7_; clear hb hbox hg) | ((with_reducible refine gate_dst (N := 6) rfl ?_); refine kx 6 #[.bool false, .int .i64 0, .int .i64 0] 23 ?_; intro gb6703 hg w34 hbox hb; have n0_ := Aside0.mk (Kd.V_below (Kd.V_elderB (by (with_reducible repeat (first | apply Kd.V_alloc | apply Kd.V_drewN | apply Kd.V_drew)); exact HO2.out) gb6703 (Nat.le_of_eq hg.symm)) hb); have n1_ := kb BK6701 hb; have n2_ := kb BK6702 hb; have n3_ := kh HB hb; have n4_ := Aside0.mk (hbox); have n5_ := kg HB hg; have n6_ := kg HB hg; have n7_ := kn BK6701 hg; have n8_ := km BK6701 hg; have n9_ := kn BK6702 hg; have n10_ := km BK6702 hg; clear HO2; clear BK6701; clear BK6702; clear HB; have HO2 := n0_; have BK6701 := n1_; have BK6702 := n2_; have HB := n3_; have BK6703 := n4_; have GW6703 := n5_; have GE6703 := n6_; have NB6701_6703 := n7_; have NB6703_6701 := n8_; have NB6702_6703 := n9_; have NB6703_6702 := n10_; clear n0_ n1_ n2_ n3_ n4_ n5_ n6_ n7_ n8_ n9_ n10_; clear hb hbox hg; have hnb35 := NB6701_6702.out; have hnc35 := NB6702_6701.out; have hnb36 := NB6701_6703.out; have hnc36 := NB6703_6701.out; have ⟨hcz37_0, hcz37_1, hcz37_2, hfz37_0, hfz37_1, hfz37_2⟩ := kz3f BK6701) | (go_at_call 39; (with_reducible refine (flyballref17_Norm.calls a0_0 a0_1 a0_2 false t6705 t6706 _ A4.out).mono ?_); rintro e w38 ⟨rfl, hb⟩; have n0_ := Aside0.mk (Kd.V_below (by (with_reducible repeat (first | apply Kd.V_alloc | apply Kd.V_drewN | apply Kd.V_drew)); exact HO2.out) hb); have n1_ := kb BK6701 hb; have n2_ := kb BK6702 hb; have n3_ := kb BK6703 hb; have n4_ := kh HB hb; clear HO2; clear BK6701; clear BK6702; clear BK6703; clear HB; have HO2 := n0_; have BK6701 := n1_; have BK6702 := n2_; have BK6703 := n3_; have HB := n4_; clear n0_ n1_ n2_ n3_ n4_; (try clear hb); (try clear hb2); (try clear hk); (try clear hi)) | ((with_reducible refine gate_dst (N := 7) rfl ?_); refine kx 7 #[.bool false, .int .i64 0, .int .i64 0] 23 ?_; intro gb6707 hg w39 hbox hb; have n0_ := Aside0.mk (Kd.V_below (Kd.V_elderB (by (with_reducible repeat (first | apply Kd.V_alloc | apply Kd.V_drewN | apply Kd.V_drew)); exact HO2.out) gb6707 (Nat.le_of_eq hg.symm)) hb); have n1_ := kb BK6701 hb; have n2_ := kb BK6702 hb; have n3_ := kb BK6703 hb; have n4_ := kh HB hb; have n5_ := Aside0.mk (hbox); have n6_ := kg HB hg; have n7_ := kg HB hg; have n8_ := kn BK6701 hg; have n9_ := km BK6701 hg; have n10_ := kn BK6702 hg; have n11_ := km BK6702 hg; have n12_ := kn BK6703 hg; have n13_ := km BK6703 hg; clear HO2; clear BK6701; clear BK6702; clear BK6703; clear HB; have HO2 := n0_; have BK6701 := n1_; have BK6702 := n2_; have BK6703 := n3_; have HB := n4_; have BK6707 := n5_; have GW6707 := n6_; have GE6707 := n7_; have NB6701_6707 := n8_; have NB6707_6701 := n9_; have NB6702_6707 := n10_; have NB6707_6702 := n11_; have NB6703_6707 := n12_; have NB6707_6703 := n13_; clear n0_ n1_ n2_ n3_ n4_ n5_ n6_ n7_ n8_ n9_ n10_ n11_ n12_ n13_; clear hb hbox hg; have hnb40 := NB6707_6701.out; have hnc40 := NB6701_6707.out; have hnb41 := NB6707_6702.out; have hnc41 := NB6702_6707.out; have hnb42 := NB6707_6703.out; have hnc42 := NB6703_6707.out; have ⟨hcz43_0, hcz43_1, hcz43_2, hfz43_0, hfz43_1, hfz43_2⟩ := kz3f BK6707; have hnb44 := NB6702_6703.out; have hnc44 := NB6703_6702.out; have ⟨hcz45_0, hcz45_1, hcz45_2, hfz45_0, hfz45_1, hfz45_2⟩ := kz3f BK6702) | (go_at_call 39; (with_reducible refine (flyballref17_Norm.calls a1_0 a1_1 a1_2 t6708 t6709 t6710 _ A5.out).mono ?_); rintro e w46 ⟨rfl, hb⟩; have n0_ := Aside0.mk (Kd.V_below (by (with_reducible repeat (first | apply Kd.V_alloc | apply Kd.V_drewN | apply Kd.V_drew)); exact (Kd.V_mono (Kd.V_far (p := ⟨gb6707, 2, none⟩) (Kd.V_far (p := ⟨gb6707, 1, none⟩) (Kd.V_far (p := ⟨gb6707, 0, none⟩) (Kd.V_mono HO2.out (fun k_ hk => (⟨hk, hk.2⟩ : _ ∧ k_ ≠ gb6707))) (fun _ hk => hk.2) (.bool false)) (fun _ hk => hk.2) (.int .i64 t6705)) (fun _ hk => hk.2) (.int .i64 t6706)) (fun _ h_ => h_.1))) hb); have n1_ := kb BK6701 hb; have n2_ := kb BK6702 hb; have n3_ := kb BK6703 hb; have n4_ := kb (o' := .cells #[.bool false, .int .i64 t6705, .int .i64 t6706] 23 (0, 0)) BK6707 hb; have n5_ := kh HB hb; clear HO2; clear BK6701; clear BK6702; clear BK6703; clear BK6707; clear HB; have HO2 := n0_; have BK6701 := n1_; have BK6702 := n2_; have BK6703 := n3_; have BK6707 := n4_; have HB := n5_; clear n0_ n1_ n2_ n3_ n4_ n5_; (try clear hb); (try clear hb2); (try clear hk); (try clear hi)) | ((with_reducible refine gate_dst (N := 8) rfl ?_); refine kx 8 #[.bool false, .int .i64 0, .int .i64 0] 23 ?_; intro gb6711 hg w47 hbox hb; have n0_ := Aside0.mk (Kd.V_below (Kd.V_elderB (by (with_reducible repeat (first | apply Kd.V_alloc | apply Kd.V_drewN | apply Kd.V_drew)); exact HO2.out) gb6711 (Nat.le_of_eq hg.symm)) hb); have n1_ := kb BK6701 hb; have n2_ := kb BK6702 hb; have n3_ := kb BK6703 hb; have n4_ := kb BK6707 hb; have n5_ := kh HB hb; have n6_ := Aside0.mk (hbox); have n7_ := kg HB hg; have n8_ := kg HB hg; have n9_ := kn BK6701 hg; have n10_ := km BK6701 hg; have n11_ := kn BK6702 hg; have n12_ := km BK6702 hg; have n13_ := kn BK6703 hg; have n14_ := km BK6703 hg; have n15_ := kn BK6707 hg; have n16_ := km BK6707 hg; clear HO2; clear BK6701; clear BK6702; clear BK6703; clear BK6707; clear HB; have HO2 := n0_; have BK6701 := n1_; have BK6702 := n2_; have BK6703 := n3_; have BK6707 := n4_; have HB := n5_; have BK6711 := n6_; have GW6711 := n7_; have GE6711 := n8_; have NB6701_6711 := n9_; have NB6711_6701 := n10_; have NB6702_6711 := n11_; have NB6711_6702 := n12_; have NB6703_6711 := n13_; have NB6711_6703 := n14_; have NB6707_6711 := n15_; have NB6711_6707 := n16_; clear n0_ n1_ n2_ n3_ n4_ n5_ n6_ n7_ n8_ n9_ n10_ n11_ n12_ n13_ n14_ n15_ n16_; clear hb hbox hg; have hnb48 := NB6711_6701.out; have hnc48 := NB6701_6711.out; have hnb49 := NB6711_6702.out; have hnc49 := NB6702_6711.out; have hnb50 := NB6711_6703.out; have hnc50 := NB6703_6711.out; have hnb51 := NB6711_6707.out; have hnc51 := NB6707_6711.out; have ⟨hcz52_0, hcz52_1, hcz52_2, hfz52_0, hfz52_1, hfz52_2⟩ := kz3f BK6711; have ⟨hcz53_0, hcz53_1, hcz53_2, hfz53_0, hfz53_1, hfz53_2⟩ := kz3f BK6707) | (go_at_call 44; (with_reducible refine (flyballref17_Join.calls false t6705 t6706 t6708 t6709 t6710 t6712 t6713 t6714 _ A30.out).mono ?_); rintro e w54 ⟨rfl, hb⟩; have n0_ := Aside0.mk (Kd.V_below (by (with_reducible repeat (first | apply Kd.V_alloc | apply Kd.V_drewN | apply Kd.V_drew)); exact (Kd.V_mono (Kd.V_far (p := ⟨gb6711, 2, none⟩) (Kd.V_far (p := ⟨gb6711, 1, none⟩) (Kd.V_far (p := ⟨gb6711, 0, none⟩) (Kd.V_mono HO2.out (fun k_ hk => (⟨hk, hk.2⟩ : _ ∧ k_ ≠ gb6711))) (fun _ hk => hk.2) (.bool t6708)) (fun _ hk => hk.2) (.int .i64 t6709)) (fun _ hk => hk.2) (.int .i64 t6710)) (fun _ h_ => h_.1))) hb); have n1_ := kb BK6701 hb; have n2_ := kb BK6702 hb; have n3_ := kb BK6703 hb; have n4_ := kb BK6707 hb; have n5_ := kb (o' := .cells #[.bool t6708, .int .i64 t6709, .int .i64 t6710] 23 (0, 0)) BK6711 hb; have n6_ := kh HB hb; clear HO2; clear BK6701; clear BK6702; clear BK6703; clear BK6707; clear BK6711; clear HB; have HO2 := n0_; have BK6701 := n1_; have BK6702 := n2_; have BK6703 := n3_; have BK6707 := n4_; have BK6711 := n5_; have HB := n6_; clear n0_ n1_ n2_ n3_ n4_ n5_ n6_; (try clear hb); (try clear hb2); (try clear hk); (try clear hi)) | ((with_reducible refine gate_dst (N := 9) rfl ?_); refine kx 9 #[.bool false, .int .i64 0, .int .i64 0] 23 ?_; intro gb6715 hg w55 hbox hb; have n0_ := Aside0.mk (Kd.V_below (Kd.V_elderB (by (with_reducible repeat (first | apply Kd.V_alloc | apply Kd.V_drewN | apply Kd.V_drew)); exact HO2.out) gb6715 (Nat.le_of_eq hg.symm)) hb); have n1_ := kb BK6701 hb; have n2_ := kb BK6702 hb; have n3_ := kb BK6703 hb; have n4_ := kb BK6707 hb; have n5_ := kb BK6711 hb; have n6_ := kh HB hb; have n7_ := Aside0.mk (hbox); have n8_ := kg HB hg; have n9_ := kg HB hg; have n10_ := kn BK6701 hg; have n11_ := km BK6701 hg; have n12_ := kn BK6702 hg; have n13_ := km BK6702 hg; have n14_ := kn BK6703 hg; have n15_ := km BK6703 hg; have n16_ := kn BK6707 hg; have n17_ := km BK6707 hg; have n18_ := kn BK6711 hg; have n19_ := km BK6711 hg; clear HO2; clear BK6701; clear BK6702; clear BK6703; clear BK6707; clear BK6711; clear HB; have HO2 := n0_; have BK6701 := n1_; have BK6702 := n2_; have BK6703 := n3_; have BK6707 := n4_; have BK6711 := n5_; have HB := n6_; have BK6715 := n7_; have GW6715 := n8_; have GE6715 := n9_; have NB6701_6715 := n10_; have NB6715_6701 := n11_; have NB6702_6715 := n12_; have NB6715_6702 := n13_; have NB6703_6715 := n14_; have NB6715_6703 := n15_; have NB6707_6715 := n16_; have NB6715_6707 := n17_; have NB6711_6715 := n18_; have NB6715_6711 := n19_; clear n0_ n1_ n2_ n3_ n4_ n5_ n6_ n7_ n8_ n9_ n10_ n11_ n12_ n13_ n14_ n15_ n16_ n17_ n18_ n19_; clear hb hbox hg; have hnb56 := NB6715_6701.out; have hnc56 := NB6701_6715.out; have hnb57 := NB6715_6702.out; have hnc57 := NB6702_6715.out; have hnb58 := NB6715_6703.out; have hnc58 := NB6703_6715.out; have hnb59 := NB6715_6707.out; have hnc59 := NB6707_6715.out; have hnb60 := NB6715_6711.out; have hnc60 := NB6711_6715.out; have ⟨hcz61_0, hcz61_1, hcz61_2, hfz61_0, hfz61_1, hfz61_2⟩ := kz3f BK6715; have ⟨hcz62_0, hcz62_1, hcz62_2, hfz62_0, hfz62_1, hfz62_2⟩ := kz3f BK6707))
    repeat (go_quiet (first | ((with_reducible refine gate_dst (N := 3) rfl ?_); refine kx 3 #[.bool a0_0, .int .i64 a0_1, .int .i64 a0_2] 23 ?_; intro gb6701 hg w32 hbox hb; have n0_ := Aside0.mk (Kd.V_below (Kd.V_elderB (by (with_reducible repeat (first | apply Kd.V_alloc | apply Kd.V_drewN | apply Kd.V_drew)); exact HO2.out) gb6701 (Nat.le_of_eq hg.symm)) hb); have n1_ := kh HB hb; have n2_ := Aside0.mk (hbox); have n3_ := kg HB hg; have n4_ := kg HB hg; clear HO2; clear HB; have HO2 := n0_; have HB := n1_; have BK6701 := n2_; have GW6701 := n3_; have GE6701 := n4_; clear n0_ n1_ n2_ n3_ n4_; clear hb hbox hg) | ((with_reducible refine gate_dst (N := 4) rfl ?_); refine kx 4 #[.bool a1_0, .int .i64 a1_1, .int .i64 a1_2] 23 ?_; intro gb6702 hg w33 hbox hb; have n0_ := Aside0.mk (Kd.V_below (Kd.V_elderB (by (with_reducible repeat (first | apply Kd.V_alloc | apply Kd.V_drewN | apply Kd.V_drew)); exact HO2.out) gb6702 (Nat.le_of_eq hg.symm)) hb); have n1_ := kb BK6701 hb; have n2_ := kh HB hb; have n3_ := Aside0.mk (hbox); have n4_ := kg HB hg; have n5_ := kg HB hg; have n6_ := kn BK6701 hg; have n7_ := km BK6701 hg; clear HO2; clear BK6701; clear HB; have HO2 := n0_; have BK6701 := n1_; have HB := n2_; have BK6702 := n3_; have GW6702 := n4_; have GE6702 := n5_; have NB6701_6702 := n6_; have NB6702_6701 := n7_; clear n0_ n1_ n2_ n3_ n4_ n5_ n6_ n7_; clear hb hbox hg) | ((with_reducible refine gate_dst (N := 6) rfl ?_); refine kx 6 #[.bool false, .int .i64 0, .int .i64 0] 23 ?_; intro gb6703 hg w34 hbox hb; have n0_ := Aside0.mk (Kd.V_below (Kd.V_elderB (by (with_reducible repeat (first | apply Kd.V_alloc | apply Kd.V_drewN | apply Kd.V_drew)); exact HO2.out) gb6703 (Nat.le_of_eq hg.symm)) hb); have n1_ := kb BK6701 hb; have n2_ := kb BK6702 hb; have n3_ := kh HB hb; have n4_ := Aside0.mk (hbox); have n5_ := kg HB hg; have n6_ := kg HB hg; have n7_ := kn BK6701 hg; have n8_ := km BK6701 hg; have n9_ := kn BK6702 hg; have n10_ := km BK6702 hg; clear HO2; clear BK6701; clear BK6702; clear HB; have HO2 := n0_; have BK6701 := n1_; have BK6702 := n2_; have HB := n3_; have BK6703 := n4_; have GW6703 := n5_; have GE6703 := n6_; have NB6701_6703 := n7_; have NB6703_6701 := n8_; have NB6702_6703 := n9_; have NB6703_6702 := n10_; clear n0_ n1_ n2_ n3_ n4_ n5_ n6_ n7_ n8_ n9_ n10_; clear hb hbox hg; have hnb35 := NB6701_6702.out; have hnc35 := NB6702_6701.out; have hnb36 := NB6701_6703.out; have hnc36 := NB6703_6701.out; have ⟨hcz37_0, hcz37_1, hcz37_2, hfz37_0, hfz37_1, hfz37_2⟩ := kz3f BK6701) | (go_at_call 39; (with_reducible refine (flyballref17_Norm.calls a0_0 a0_1 a0_2 false t6705 t6706 _ A4.out).mono ?_); rintro e w38 ⟨rfl, hb⟩; have n0_ := Aside0.mk (Kd.V_below (by (with_reducible repeat (first | apply Kd.V_alloc | apply Kd.V_drewN | apply Kd.V_drew)); exact HO2.out) hb); have n1_ := kb BK6701 hb; have n2_ := kb BK6702 hb; have n3_ := kb BK6703 hb; have n4_ := kh HB hb; clear HO2; clear BK6701; clear BK6702; clear BK6703; clear HB; have HO2 := n0_; have BK6701 := n1_; have BK6702 := n2_; have BK6703 := n3_; have HB := n4_; clear n0_ n1_ n2_ n3_ n4_; (try clear hb); (try clear hb2); (try clear hk); (try clear hi)) | ((with_reducible refine gate_dst (N := 7) rfl ?_); refine kx 7 #[.bool false, .int .i64 0, .int .i64 0] 23 ?_; intro gb6707 hg w39 hbox hb; have n0_ := Aside0.mk (Kd.V_below (Kd.V_elderB (by (with_reducible repeat (first | apply Kd.V_alloc | apply Kd.V_drewN | apply Kd.V_drew)); exact HO2.out) gb6707 (Nat.le_of_eq hg.symm)) hb); have n1_ := kb BK6701 hb; have n2_ := kb BK6702 hb; have n3_ := kb BK6703 hb; have n4_ := kh HB hb; have n5_ := Aside0.mk (hbox); have n6_ := kg HB hg; have n7_ := kg HB hg; have n8_ := kn BK6701 hg; have n9_ := km BK6701 hg; have n10_ := kn BK6702 hg; have n11_ := km BK6702 hg; have n12_ := kn BK6703 hg; have n13_ := km BK6703 hg; clear HO2; clear BK6701; clear BK6702; clear BK6703; clear HB; have HO2 := n0_; have BK6701 := n1_; have BK6702 := n2_; have BK6703 := n3_; have HB := n4_; have BK6707 := n5_; have GW6707 := n6_; have GE6707 := n7_; have NB6701_6707 := n8_; have NB6707_6701 := n9_; have NB6702_6707 := n10_; have NB6707_6702 := n11_; have NB6703_6707 := n12_; have NB6707_6703 := n13_; clear n0_ n1_ n2_ n3_ n4_ n5_ n6_ n7_ n8_ n9_ n10_ n11_ n12_ n13_; clear hb hbox hg; have hnb40 := NB6707_6701.out; have hnc40 := NB6701_6707.out; have hnb41 := NB6707_6702.out; have hnc41 := NB6702_6707.out; have hnb42 := NB6707_6703.out; have hnc42 := NB6703_6707.out; have ⟨hcz43_0, hcz43_1, hcz43_2, hfz43_0, hfz43_1, hfz43_2⟩ := kz3f BK6707; have hnb44 := NB6702_6703.out; have hnc44 := NB6703_6702.out; have ⟨hcz45_0, hcz45_1, hcz45_2, hfz45_0, hfz45_1, hfz45_2⟩ := kz3f BK6702) | (go_at_call 39; (with_reducible refine (flyballref17_Norm.calls a1_0 a1_1 a1_2 t6708 t6709 t6710 _ A5.out).mono ?_); rintro e w46 ⟨rfl, hb⟩; have n0_ := Aside0.mk (Kd.V_below (by (with_reducible repeat (first | apply Kd.V_alloc | apply Kd.V_drewN | apply Kd.V_drew)); exact (Kd.V_mono (Kd.V_far (p := ⟨gb6707, 2, none⟩) (Kd.V_far (p := ⟨gb6707, 1, none⟩) (Kd.V_far (p := ⟨gb6707, 0, none⟩) (Kd.V_mono HO2.out (fun k_ hk => (⟨hk, hk.2⟩ : _ ∧ k_ ≠ gb6707))) (fun _ hk => hk.2) (.bool false)) (fun _ hk => hk.2) (.int .i64 t6705)) (fun _ hk => hk.2) (.int .i64 t6706)) (fun _ h_ => h_.1))) hb); have n1_ := kb BK6701 hb; have n2_ := kb BK6702 hb; have n3_ := kb BK6703 hb; have n4_ := kb (o' := .cells #[.bool false, .int .i64 t6705, .int .i64 t6706] 23 (0, 0)) BK6707 hb; have n5_ := kh HB hb; clear HO2; clear BK6701; clear BK6702; clear BK6703; clear BK6707; clear HB; have HO2 := n0_; have BK6701 := n1_; have BK6702 := n2_; have BK6703 := n3_; have BK6707 := n4_; have HB := n5_; clear n0_ n1_ n2_ n3_ n4_ n5_; (try clear hb); (try clear hb2); (try clear hk); (try clear hi)) | ((with_reducible refine gate_dst (N := 8) rfl ?_); refine kx 8 #[.bool false, .int .i64 0, .int .i64 0] 23 ?_; intro gb6711 hg w47 hbox hb; have n0_ := Aside0.mk (Kd.V_below (Kd.V_elderB (by (with_reducible repeat (first | apply Kd.V_alloc | apply Kd.V_drewN | apply Kd.V_drew)); exact HO2.out) gb6711 (Nat.le_of_eq hg.symm)) hb); have n1_ := kb BK6701 hb; have n2_ := kb BK6702 hb; have n3_ := kb BK6703 hb; have n4_ := kb BK6707 hb; have n5_ := kh HB hb; have n6_ := Aside0.mk (hbox); have n7_ := kg HB hg; have n8_ := kg HB hg; have n9_ := kn BK6701 hg; have n10_ := km BK6701 hg; have n11_ := kn BK6702 hg; have n12_ := km BK6702 hg; have n13_ := kn BK6703 hg; have n14_ := km BK6703 hg; have n15_ := kn BK6707 hg; have n16_ := km BK6707 hg; clear HO2; clear BK6701; clear BK6702; clear BK6703; clear BK6707; clear HB; have HO2 := n0_; have BK6701 := n1_; have BK6702 := n2_; have BK6703 := n3_; have BK6707 := n4_; have HB := n5_; have BK6711 := n6_; have GW6711 := n7_; have GE6711 := n8_; have NB6701_6711 := n9_; have NB6711_6701 := n10_; have NB6702_6711 := n11_; have NB6711_6702 := n12_; have NB6703_6711 := n13_; have NB6711_6703 := n14_; have NB6707_6711 := n15_; have NB6711_6707 := n16_; clear n0_ n1_ n2_ n3_ n4_ n5_ n6_ n7_ n8_ n9_ n10_ n11_ n12_ n13_ n14_ n15_ n16_; clear hb hbox hg; have hnb48 := NB6711_6701.out; have hnc48 := NB6701_6711.out; have hnb49 := NB6711_6702.out; have hnc49 := NB6702_6711.out; have hnb50 := NB6711_6703.out; have hnc50 := NB6703_6711.out; have hnb51 := NB6711_6707.out; have hnc51 := NB6707_6711.out; have ⟨hcz52_0, hcz52_1, hcz52_2, hfz52_0, hfz52_1, hfz52_2⟩ := kz3f BK6711; have ⟨hcz53_0, hcz53_1, hcz53_2, hfz53_0, hfz53_1, hfz53_2⟩ := kz3f BK6707) | (go_at_call 44; (with_reducible refine (flyballref17_Join.calls false t6705 t6706 t6708 t6709 t6710 t6712 t6713 t6714 _ A30.out).mono ?_); rintro e w54 ⟨rfl, hb⟩; have n0_ := Aside0.mk (Kd.V_below (by (with_reducible repeat (first | apply Kd.V_alloc | apply Kd.V_drewN | apply Kd.V_drew)); exact (Kd.V_mono (Kd.V_far (p := ⟨gb6711, 2, none⟩) (Kd.V_far (p := ⟨gb6711, 1, none⟩) (Kd.V_far (p := ⟨gb6711, 0, none⟩) (Kd.V_mono HO2.out (fun k_ hk => (⟨hk, hk.2⟩ : _ ∧ k_ ≠ gb6711))) (fun _ hk => hk.2) (.bool t6708)) (fun _ hk => hk.2) (.int .i64 t6709)) (fun _ hk => hk.2) (.int .i64 t6710)) (fun _ h_ => h_.1))) hb); have n1_ := kb BK6701 hb; have n2_ := kb BK6702 hb; have n3_ := kb BK6703 hb; have n4_ := kb BK6707 hb; have n5_ := kb (o' := .cells #[.bool t6708, .int .i64 t6709, .int .i64 t6710] 23 (0, 0)) BK6711 hb; have n6_ := kh HB hb; clear HO2; clear BK6701; clear BK6702; clear BK6703; clear BK6707; clear BK6711; clear HB; have HO2 := n0_; have BK6701 := n1_; have BK6702 := n2_; have BK6703 := n3_; have BK6707 := n4_; have BK6711 := n5_; have HB := n6_; clear n0_ n1_ n2_ n3_ n4_ n5_ n6_; (try clear hb); (try clear hb2); (try clear hk); (try clear hi)) | ((with_reducible refine gate_dst (N := 9) rfl ?_); refine kx 9 #[.bool false, .int .i64 0, .int .i64 0] 23 ?_; intro gb6715 hg w55 hbox hb; have n0_ := Aside0.mk (Kd.V_below (Kd.V_elderB (by (with_reducible repeat (first | apply Kd.V_alloc | apply Kd.V_drewN | apply Kd.V_drew)); exact HO2.out) gb6715 (Nat.le_of_eq hg.symm)) hb); have n1_ := kb BK6701 hb; have n2_ := kb BK6702 hb; have n3_ := kb BK6703 hb; have n4_ := kb BK6707 hb; have n5_ := kb BK6711 hb; have n6_ := kh HB hb; have n7_ := Aside0.mk (hbox); have n8_ := kg HB hg; have n9_ := kg HB hg; have n10_ := kn BK6701 hg; have n11_ := km BK6701 hg; have n12_ := kn BK6702 hg; have n13_ := km BK6702 hg; have n14_ := kn BK6703 hg; have n15_ := km BK6703 hg; have n16_ := kn BK6707 hg; have n17_ := km BK6707 hg; have n18_ := kn BK6711 hg; have n19_ := km BK6711 hg; clear HO2; clear BK6701; clear BK6702; clear BK6703; clear BK6707; clear BK6711; clear HB; have HO2 := n0_; have BK6701 := n1_; have BK6702 := n2_; have BK6703 := n3_; have BK6707 := n4_; have BK6711 := n5_; have HB := n6_; have BK6715 := n7_; have GW6715 := n8_; have GE6715 := n9_; have NB6701_6715 := n10_; have NB6715_6701 := n11_; have NB6702_6715 := n12_; have NB6715_6702 := n13_; have NB6703_6715 := n14_; have NB6715_6703 := n15_; have NB6707_6715 := n16_; have NB6715_6707 := n17_; have NB6711_6715 := n18_; have NB6715_6711 := n19_; clear n0_ n1_ n2_ n3_ n4_ n5_ n6_ n7_ n8_ n9_ n10_ n11_ n12_ n13_ n14_ n15_ n16_ n17_ n18_ n19_; clear hb hbox hg; have hnb56 := NB6715_6701.out; have hnc56 := NB6701_6715.out; have hnb57 := NB6715_6702.out; have hnc57 := NB6702_6715.out; have hnb58 := NB6715_6703.out; have hnc58 := NB6703_6715.out; have hnb59 := NB6715_6707.out; have hnc59 := NB6707_6715.out; have hnb60 := NB6715_6711.out; have hnc60 := NB6711_6715.out; have ⟨hcz61_0, hcz61_1, hcz61_2, hfz61_0, hfz61_1, hfz61_2⟩ := kz3f BK6715; have ⟨hcz62_0, hcz62_1, hcz62_2, hfz62_0, hfz62_1, hfz62_2⟩ := kz3f BK6707)); go_upto_if 28 with (first | ((with_reducible refine gate_dst (N := 3) rfl ?_); refine kx 3 #[.bool a0_0, .int .i64 a0_1, .int .i64 a0_2] 23 ?_; intro gb6701 hg w32 hbox hb; have n0_ := Aside0.mk (Kd.V_below (Kd.V_elderB (by (with_reducible repeat (first | apply Kd.V_alloc | apply Kd.V_drewN | apply Kd.V_drew)); exact HO2.out) gb6701 (Nat.le_of_eq hg.symm)) hb); have n1_ := kh HB hb; have n2_ := Aside0.mk (hbox); have n3_ := kg HB hg; have n4_ := kg HB hg; clear HO2; clear HB; have HO2 := n0_; have HB := n1_; have BK6701 := n2_; have GW6701 := n3_; have GE6701 := n4_; clear n0_ n1_ n2_ n3_ n4_; clear hb hbox hg) | ((with_reducible refine gate_dst (N := 4) rfl ?_); refine kx 4 #[.bool a1_0, .int .i64 a1_1, .int .i64 a1_2] 23 ?_; intro gb6702 hg w33 hbox hb; have n0_ := Aside0.mk (Kd.V_below (Kd.V_elderB (by (with_reducible repeat (first | apply Kd.V_alloc | apply Kd.V_drewN | apply Kd.V_drew)); exact HO2.out) gb6702 (Nat.le_of_eq hg.symm)) hb); have n1_ := kb BK6701 hb; have n2_ := kh HB hb; have n3_ := Aside0.mk (hbox); have n4_ := kg HB hg; have n5_ := kg HB hg; have n6_ := kn BK6701 hg; have n7_ := km BK6701 hg; clear HO2; clear BK6701; clear HB; have HO2 := n0_; have BK6701 := n1_; have HB := n2_; have BK6702 := n3_; have GW6702 := n4_; have GE6702 := n5_; have NB6701_6702 := n6_; have NB6702_6701 := n7_; clear n0_ n1_ n2_ n3_ n4_ n5_ n6_ n7_; clear hb hbox hg) | ((with_reducible refine gate_dst (N := 6) rfl ?_); refine kx 6 #[.bool false, .int .i64 0, .int .i64 0] 23 ?_; intro gb6703 hg w34 hbox hb; have n0_ := Aside0.mk (Kd.V_below (Kd.V_elderB (by (with_reducible repeat (first | apply Kd.V_alloc | apply Kd.V_drewN | apply Kd.V_drew)); exact HO2.out) gb6703 (Nat.le_of_eq hg.symm)) hb); have n1_ := kb BK6701 hb; have n2_ := kb BK6702 hb; have n3_ := kh HB hb; have n4_ := Aside0.mk (hbox); have n5_ := kg HB hg; have n6_ := kg HB hg; have n7_ := kn BK6701 hg; have n8_ := km BK6701 hg; have n9_ := kn BK6702 hg; have n10_ := km BK6702 hg; clear HO2; clear BK6701; clear BK6702; clear HB; have HO2 := n0_; have BK6701 := n1_; have BK6702 := n2_; have HB := n3_; have BK6703 := n4_; have GW6703 := n5_; have GE6703 := n6_; have NB6701_6703 := n7_; have NB6703_6701 := n8_; have NB6702_6703 := n9_; have NB6703_6702 := n10_; clear n0_ n1_ n2_ n3_ n4_ n5_ n6_ n7_ n8_ n9_ n10_; clear hb hbox hg; have hnb35 := NB6701_6702.out; have hnc35 := NB6702_6701.out; have hnb36 := NB6701_6703.out; have hnc36 := NB6703_6701.out; have ⟨hcz37_0, hcz37_1, hcz37_2, hfz37_0, hfz37_1, hfz37_2⟩ := kz3f BK6701) | (go_at_call 39; (with_reducible refine (flyballref17_Norm.calls a0_0 a0_1 a0_2 false t6705 t6706 _ A4.out).mono ?_); rintro e w38 ⟨rfl, hb⟩; have n0_ := Aside0.mk (Kd.V_below (by (with_reducible repeat (first | apply Kd.V_alloc | apply Kd.V_drewN | apply Kd.V_drew)); exact HO2.out) hb); have n1_ := kb BK6701 hb; have n2_ := kb BK6702 hb; have n3_ := kb BK6703 hb; have n4_ := kh HB hb; clear HO2; clear BK6701; clear BK6702; clear BK6703; clear HB; have HO2 := n0_; have BK6701 := n1_; have BK6702 := n2_; have BK6703 := n3_; have HB := n4_; clear n0_ n1_ n2_ n3_ n4_; (try clear hb); (try clear hb2); (try clear hk); (try clear hi)) | ((with_reducible refine gate_dst (N := 7) rfl ?_); refine kx 7 #[.bool false, .int .i64 0, .int .i64 0] 23 ?_; intro gb6707 hg w39 hbox hb; have n0_ := Aside0.mk (Kd.V_below (Kd.V_elderB (by (with_reducible repeat (first | apply Kd.V_alloc | apply Kd.V_drewN | apply Kd.V_drew)); exact HO2.out) gb6707 (Nat.le_of_eq hg.symm)) hb); have n1_ := kb BK6701 hb; have n2_ := kb BK6702 hb; have n3_ := kb BK6703 hb; have n4_ := kh HB hb; have n5_ := Aside0.mk (hbox); have n6_ := kg HB hg; have n7_ := kg HB hg; have n8_ := kn BK6701 hg; have n9_ := km BK6701 hg; have n10_ := kn BK6702 hg; have n11_ := km BK6702 hg; have n12_ := kn BK6703 hg; have n13_ := km BK6703 hg; clear HO2; clear BK6701; clear BK6702; clear BK6703; clear HB; have HO2 := n0_; have BK6701 := n1_; have BK6702 := n2_; have BK6703 := n3_; have HB := n4_; have BK6707 := n5_; have GW6707 := n6_; have GE6707 := n7_; have NB6701_6707 := n8_; have NB6707_6701 := n9_; have NB6702_6707 := n10_; have NB6707_6702 := n11_; have NB6703_6707 := n12_; have NB6707_6703 := n13_; clear n0_ n1_ n2_ n3_ n4_ n5_ n6_ n7_ n8_ n9_ n10_ n11_ n12_ n13_; clear hb hbox hg; have hnb40 := NB6707_6701.out; have hnc40 := NB6701_6707.out; have hnb41 := NB6707_6702.out; have hnc41 := NB6702_6707.out; have hnb42 := NB6707_6703.out; have hnc42 := NB6703_6707.out; have ⟨hcz43_0, hcz43_1, hcz43_2, hfz43_0, hfz43_1, hfz43_2⟩ := kz3f BK6707; have hnb44 := NB6702_6703.out; have hnc44 := NB6703_6702.out; have ⟨hcz45_0, hcz45_1, hcz45_2, hfz45_0, hfz45_1, hfz45_2⟩ := kz3f BK6702) | (go_at_call 39; (with_reducible refine (flyballref17_Norm.calls a1_0 a1_1 a1_2 t6708 t6709 t6710 _ A5.out).mono ?_); rintro e w46 ⟨rfl, hb⟩; have n0_ := Aside0.mk (Kd.V_below (by (with_reducible repeat (first | apply Kd.V_alloc | apply Kd.V_drewN | apply Kd.V_drew)); exact (Kd.V_mono (Kd.V_far (p := ⟨gb6707, 2, none⟩) (Kd.V_far (p := ⟨gb6707, 1, none⟩) (Kd.V_far (p := ⟨gb6707, 0, none⟩) (Kd.V_mono HO2.out (fun k_ hk => (⟨hk, hk.2⟩ : _ ∧ k_ ≠ gb6707))) (fun _ hk => hk.2) (.bool false)) (fun _ hk => hk.2) (.int .i64 t6705)) (fun _ hk => hk.2) (.int .i64 t6706)) (fun _ h_ => h_.1))) hb); have n1_ := kb BK6701 hb; have n2_ := kb BK6702 hb; have n3_ := kb BK6703 hb; have n4_ := kb (o' := .cells #[.bool false, .int .i64 t6705, .int .i64 t6706] 23 (0, 0)) BK6707 hb; have n5_ := kh HB hb; clear HO2; clear BK6701; clear BK6702; clear BK6703; clear BK6707; clear HB; have HO2 := n0_; have BK6701 := n1_; have BK6702 := n2_; have BK6703 := n3_; have BK6707 := n4_; have HB := n5_; clear n0_ n1_ n2_ n3_ n4_ n5_; (try clear hb); (try clear hb2); (try clear hk); (try clear hi)) | ((with_reducible refine gate_dst (N := 8) rfl ?_); refine kx 8 #[.bool false, .int .i64 0, .int .i64 0] 23 ?_; intro gb6711 hg w47 hbox hb; have n0_ := Aside0.mk (Kd.V_below (Kd.V_elderB (by (with_reducible repeat (first | apply Kd.V_alloc | apply Kd.V_drewN | apply Kd.V_drew)); exact HO2.out) gb6711 (Nat.le_of_eq hg.symm)) hb); have n1_ := kb BK6701 hb; have n2_ := kb BK6702 hb; have n3_ := kb BK6703 hb; have n4_ := kb BK6707 hb; have n5_ := kh HB hb; have n6_ := Aside0.mk (hbox); have n7_ := kg HB hg; have n8_ := kg HB hg; have n9_ := kn BK6701 hg; have n10_ := km BK6701 hg; have n11_ := kn BK6702 hg; have n12_ := km BK6702 hg; have n13_ := kn BK6703 hg; have n14_ := km BK6703 hg; have n15_ := kn BK6707 hg; have n16_ := km BK6707 hg; clear HO2; clear BK6701; clear BK6702; clear BK6703; clear BK6707; clear HB; have HO2 := n0_; have BK6701 := n1_; have BK6702 := n2_; have BK6703 := n3_; have BK6707 := n4_; have HB := n5_; have BK6711 := n6_; have GW6711 := n7_; have GE6711 := n8_; have NB6701_6711 := n9_; have NB6711_6701 := n10_; have NB6702_6711 := n11_; have NB6711_6702 := n12_; have NB6703_6711 := n13_; have NB6711_6703 := n14_; have NB6707_6711 := n15_; have NB6711_6707 := n16_; clear n0_ n1_ n2_ n3_ n4_ n5_ n6_ n7_ n8_ n9_ n10_ n11_ n12_ n13_ n14_ n15_ n16_; clear hb hbox hg; have hnb48 := NB6711_6701.out; have hnc48 := NB6701_6711.out; have hnb49 := NB6711_6702.out; have hnc49 := NB6702_6711.out; have hnb50 := NB6711_6703.out; have hnc50 := NB6703_6711.out; have hnb51 := NB6711_6707.out; have hnc51 := NB6707_6711.out; have ⟨hcz52_0, hcz52_1, hcz52_2, hfz52_0, hfz52_1, hfz52_2⟩ := kz3f BK6711; have ⟨hcz53_0, hcz53_1, hcz53_2, hfz53_0, hfz53_1, hfz53_2⟩ := kz3f BK6707) | (go_at_call 44; (with_reducible refine (flyballref17_Join.calls false t6705 t6706 t6708 t6709 t6710 t6712 t6713 t6714 _ A30.out).mono ?_); rintro e w54 ⟨rfl, hb⟩; have n0_ := Aside0.mk (Kd.V_below (by (with_reducible repeat (first | apply Kd.V_alloc | apply Kd.V_drewN | apply Kd.V_drew)); exact (Kd.V_mono (Kd.V_far (p := ⟨gb6711, 2, none⟩) (Kd.V_far (p := ⟨gb6711, 1, none⟩) (Kd.V_far (p := ⟨gb6711, 0, none⟩) (Kd.V_mono HO2.out (fun k_ hk => (⟨hk, hk.2⟩ : _ ∧ k_ ≠ gb6711))) (fun _ hk => hk.2) (.bool t6708)) (fun _ hk => hk.2) (.int .i64 t6709)) (fun _ hk => hk.2) (.int .i64 t6710)) (fun _ h_ => h_.1))) hb); have n1_ := kb BK6701 hb; have n2_ := kb BK6702 hb; have n3_ := kb BK6703 hb; have n4_ := kb BK6707 hb; have n5_ := kb (o' := .cells #[.bool t6708, .int .i64 t6709, .int .i64 t6710] 23 (0, 0)) BK6711 hb; have n6_ := kh HB hb; clear HO2; clear BK6701; clear BK6702; clear BK6703; clear BK6707; clear BK6711; clear HB; have HO2 := n0_; have BK6701 := n1_; have BK6702 := n2_; have BK6703 := n3_; have BK6707 := n4_; have BK6711 := n5_; have HB := n6_; clear n0_ n1_ n2_ n3_ n4_ n5_ n6_; (try clear hb); (try clear hb2); (try clear hk); (try clear hi)) | ((with_reducible refine gate_dst (N := 9) rfl ?_); refine kx 9 #[.bool false, .int .i64 0, .int .i64 0] 23 ?_; intro gb6715 hg w55 hbox hb; have n0_ := Aside0.mk (Kd.V_below (Kd.V_elderB (by (with_reducible repeat (first | apply Kd.V_alloc | apply Kd.V_drewN | apply Kd.V_drew)); exact HO2.out) gb6715 (Nat.le_of_eq hg.symm)) hb); have n1_ := kb BK6701 hb; have n2_ := kb BK6702 hb; have n3_ := kb BK6703 hb; have n4_ := kb BK6707 hb; have n5_ := kb BK6711 hb; have n6_ := kh HB hb; have n7_ := Aside0.mk (hbox); have n8_ := kg HB hg; have n9_ := kg HB hg; have n10_ := kn BK6701 hg; have n11_ := km BK6701 hg; have n12_ := kn BK6702 hg; have n13_ := km BK6702 hg; have n14_ := kn BK6703 hg; have n15_ := km BK6703 hg; have n16_ := kn BK6707 hg; have n17_ := km BK6707 hg; have n18_ := kn BK6711 hg; have n19_ := km BK6711 hg; clear HO2; clear BK6701; clear BK6702; clear BK6703; clear BK6707; clear BK6711; clear HB; have HO2 := n0_; have BK6701 := n1_; have BK6702 := n2_; have BK6703 := n3_; have BK6707 := n4_; have BK6711 := n5_; have HB := n6_; have BK6715 := n7_; have GW6715 := n8_; have GE6715 := n9_; have NB6701_6715 := n10_; have NB6715_6701 := n11_; have NB6702_6715 := n12_; have NB6715_6702 := n13_; have NB6703_6715 := n14_; have NB6715_6703 := n15_; have NB6707_6715 := n16_; have NB6715_6707 := n17_; have NB6711_6715 := n18_; have NB6715_6711 := n19_; clear n0_ n1_ n2_ n3_ n4_ n5_ n6_ n7_ n8_ n9_ n10_ n11_ n12_ n13_ n14_ n15_ n16_ n17_ n18_ n19_; clear hb hbox hg; have hnb56 := NB6715_6701.out; have hnc56 := NB6701_6715.out; have hnb57 := NB6715_6702.out; have hnc57 := NB6702_6715.out; have hnb58 := NB6715_6703.out; have hnc58 := NB6703_6715.out; have hnb59 := NB6715_6707.out; have hnc59 := NB6707_6715.out; have hnb60 := NB6715_6711.out; have hnc60 := NB6711_6715.out; have ⟨hcz61_0, hcz61_1, hcz61_2, hfz61_0, hfz61_1, hfz61_2⟩ := kz3f BK6715; have ⟨hcz62_0, hcz62_1, hcz62_2, hfz62_0, hfz62_1, hfz62_2⟩ := kz3f BK6707)))
    (try simp only [Act.put, List.setIfInBounds_toArray, List.set_cons_zero, List.set_cons_succ])
    go_cut [] (fun wc => ∃ (kq : Nat) (x6716001_30 : Int), Aside0 (flyballref17_Widen.j1 kq l2 false t6705 t6706 t6712 x6716001_30 t6714 = some (r1, r2, r3)) ∧ Aside0 (kq ≤ k) ∧ Aside0 (Kd.V (Kd.int .i64) 2 wc w.heap.size (fun k_ => (P2_ k_ ∨ w.heap.size ≤ k_) ∧ k_ ≠ gb6701 ∧ k_ ≠ gb6702 ∧ k_ ≠ gb6703 ∧ k_ ≠ gb6707 ∧ k_ ≠ gb6711 ∧ k_ ≠ gb6715) (.slice A2 l2.length c2) l2) ∧ Aside0 (wc.heap[gb6701]? = some (.cells #[.bool a0_0, .int .i64 a0_1, .int .i64 a0_2] 23 (0, 0))) ∧ Aside0 (wc.heap[gb6702]? = some (.cells #[.bool a1_0, .int .i64 a1_1, .int .i64 a1_2] 23 (0, 0))) ∧ Aside0 (wc.heap[gb6703]? = some (.cells #[.bool false, .int .i64 0, .int .i64 0] 23 (0, 0))) ∧ Aside0 (wc.heap[gb6707]? = some (.cells #[.bool false, .int .i64 t6705, .int .i64 t6706] 23 (0, 0))) ∧ Aside0 (wc.heap[gb6711]? = some (.cells #[.bool t6708, .int .i64 t6709, .int .i64 t6710] 23 (0, 0))) ∧ Aside0 (wc.heap[gb6715]? = some (.cells #[.bool t6712, .int .i64 x6716001_30, .int .i64 t6714] 23 (0, 0))) ∧ Aside0 (Below w.heap.size w wc))
    case first =>
      have H := HC31.out
      clear HC31
      by_cases c63 : t6713 < t6705
      · rw [if_pos c63] at H
        have c63b0 : decide (t6713 < t6705) = true := decide_eq_true c63
        clear c63
        (first | rw [c63b0] | (simp only [i64_w, i32_w]; rw [c63b0]) | skip)
        have H' := Aside0.mk H
        clear H
        go_wp2
        repeat (go_quiet (fail); try go_wp2)
        go_loopg [10, 11] k (fun kq v10 v11 w' => ∃ (x10_1 : Int) (x11_1 : Int), v10 = .int .i64 x10_1 ∧ v11 = .int .i64 x11_1 ∧ Aside0 (flyballref17_Widen.l0 kq l2 x10_1 x11_1 false t6705 t6706 t6712 t6713 t6714 = some (r1, r2, r3)) ∧ Aside0 (kq ≤ k) ∧ Aside0 (Kd.V (Kd.int .i64) 2 w' w.heap.size (fun k_ => (P2_ k_ ∨ w.heap.size ≤ k_) ∧ k_ ≠ gb6701 ∧ k_ ≠ gb6702 ∧ k_ ≠ gb6703 ∧ k_ ≠ gb6707 ∧ k_ ≠ gb6711 ∧ k_ ≠ gb6715) (.slice A2 l2.length c2) l2) ∧ Aside0 (w'.heap[gb6701]? = some (.cells #[.bool a0_0, .int .i64 a0_1, .int .i64 a0_2] 23 (0, 0))) ∧ Aside0 (w'.heap[gb6702]? = some (.cells #[.bool a1_0, .int .i64 a1_1, .int .i64 a1_2] 23 (0, 0))) ∧ Aside0 (w'.heap[gb6703]? = some (.cells #[.bool false, .int .i64 0, .int .i64 0] 23 (0, 0))) ∧ Aside0 (w'.heap[gb6707]? = some (.cells #[.bool false, .int .i64 t6705, .int .i64 t6706] 23 (0, 0))) ∧ Aside0 (w'.heap[gb6711]? = some (.cells #[.bool t6708, .int .i64 t6709, .int .i64 t6710] 23 (0, 0))) ∧ Aside0 (w'.heap[gb6715]? = some (.cells #[.bool t6712, .int .i64 t6713, .int .i64 t6714] 23 (0, 0))) ∧ Aside0 (Below w.heap.size w w'))
        case atStart => exact ⟨((-1099511627776)), (0), (by first | rfl | (simp; done) | (simp [*]; done)), (by first | rfl | (simp; done) | (simp [*]; done)), H', ⟨Nat.le_refl _⟩, ⟨by (with_reducible repeat (first | apply Kd.V_alloc | apply Kd.V_drewN | apply Kd.V_drew)); exact Kd.V_mono (Kd.V_far (p := ⟨gb6715, 2, none⟩) (Kd.V_far (p := ⟨gb6715, 1, none⟩) (Kd.V_far (p := ⟨gb6715, 0, none⟩) (Kd.V_mono HO2.out (fun k_ hk => (⟨hk, hk.2⟩ : _ ∧ k_ ≠ gb6715))) (fun _ hk => hk.2) (.bool t6712)) (fun _ hk => hk.2) (.int .i64 t6713)) (fun _ hk => hk.2) (.int .i64 t6714)) (fun _ hk => ⟨hk.1.1.1.1.1.1.1, ⟨hk.1.1.1.1.1.1.2, ⟨hk.1.1.1.1.1.2, ⟨hk.1.1.1.1.2, ⟨hk.1.1.1.2, ⟨hk.1.1.2, hk.1.2⟩⟩⟩⟩⟩⟩)⟩, ⟨pk BK6701⟩, ⟨pk BK6702⟩, ⟨pk BK6703⟩, ⟨pk BK6707⟩, ⟨pk BK6711⟩, ⟨pK BK6715⟩, ⟨pl HB⟩⟩
        case round =>
          clear H'
          try clear c1
          try clear c2
          try clear p2
          try clear c3
          try clear c4
          try clear c5
          try clear c6
          try clear c10
          try clear c11
          try clear c15
          try clear c16
          try clear c17
          try clear c19
          try clear c23
          try clear c24
          try clear c25
          try clear c26
          try clear c35
          try clear c36
          try clear c40
          try clear c41
          try clear c42
          try clear c44
          try clear c48
          try clear c49
          try clear c50
          try clear c51
          try clear c56
          try clear c57
          try clear c58
          try clear c59
          try clear c60
          try clear c63
          try clear c63b0
          try clear hcz12_0
          try clear hcz12_1
          try clear hcz12_2
          try clear hcz18_0
          try clear hcz18_1
          try clear hcz18_2
          try clear hcz20_0
          try clear hcz20_1
          try clear hcz20_2
          try clear hcz27_0
          try clear hcz27_1
          try clear hcz27_2
          try clear hcz28_0
          try clear hcz28_1
          try clear hcz28_2
          try clear hcz29_0
          try clear hcz29_1
          try clear hcz29_2
          try clear hcz37_0
          try clear hcz37_1
          try clear hcz37_2
          try clear hcz43_0
          try clear hcz43_1
          try clear hcz43_2
          try clear hcz45_0
          try clear hcz45_1
          try clear hcz45_2
          try clear hcz52_0
          try clear hcz52_1
          try clear hcz52_2
          try clear hcz53_0
          try clear hcz53_1
          try clear hcz53_2
          try clear hcz61_0
          try clear hcz61_1
          try clear hcz61_2
          try clear hcz62_0
          try clear hcz62_1
          try clear hcz62_2
          try clear hfz12_0
          try clear hfz12_1
          try clear hfz12_2
          try clear hfz18_0
          try clear hfz18_1
          try clear hfz18_2
          try clear hfz20_0
          try clear hfz20_1
          try clear hfz20_2
          try clear hfz27_0
          try clear hfz27_1
          try clear hfz27_2
          try clear hfz28_0
          try clear hfz28_1
          try clear hfz28_2
          try clear hfz29_0
          try clear hfz29_1
          try clear hfz29_2
          try clear hfz37_0
          try clear hfz37_1
          try clear hfz37_2
          try clear hfz43_0
          try clear hfz43_1
          try clear hfz43_2
          try clear hfz45_0
          try clear hfz45_1
          try clear hfz45_2
          try clear hfz52_0
          try clear hfz52_1
          try clear hfz52_2
          try clear hfz53_0
          try clear hfz53_1
          try clear hfz53_2
          try clear hfz61_0
          try clear hfz61_1
          try clear hfz61_2
          try clear hfz62_0
          try clear hfz62_1
          try clear hfz62_2
          obtain ⟨x10_1, x11_1, rfl, rfl, HA, HK1, HO_2, BK6701, BK6702, BK6703, BK6707, BK6711, BK6715, HB⟩ := hrel
          cases gk with
          | zero => exact absurd HA.out (by simp [flyballref17_Widen.l0])
          | succ k1 =>
            have H := HA.out
            clear HA
            simp only [flyballref17_Widen.l0] at H
            by_cases c64 : x11_1 < (l2.length : Int)
            · rw [if_pos c64] at H
              have c64b0 : decide (x11_1 < (l2.length : Int)) = true := decide_eq_true c64
              clear c64
              by_cases c65 : 0 ≤ x11_1
              · rw [if_pos c65] at H
                have c65b0 : decide (0 ≤ x11_1) = true := decide_eq_true c65
                clear c65
                by_cases c66 : (rd l2 x11_1) ≤ t6713
                · rw [if_pos c66] at H
                  have c66b0 : decide ((rd l2 x11_1) ≤ t6713) = true := decide_eq_true c66
                  clear c66
                  obtain ⟨ji67, hji67⟩ : ∃ j_ : Int, (mx x10_1 (rd l2 x11_1)) = j_ := ⟨_, rfl⟩
                  replace H : (flyballref17_Widen.l0 k1 l2 ji67 (wrap64 (x11_1 + 1)) false t6705 t6706 t6712 t6713 t6714) = some (r1, r2, r3) := by first | (rw [hji67] at H; exact H) | (simp only [hji67] at H ⊢; exact H)
                  have hji67_ : (if x10_1 < (rd l2 x11_1) then (rd l2 x11_1) else x10_1) = ji67 := hji67
                  have H' := Aside0.mk H
                  clear H
                  have p6716 : 0 ≤ (x11_1 : Int) := of_decide_eq_true (by first | (with_reducible assumption) | assumption)
                  have q6716 : x11_1 < (l2.length : Int) := of_decide_eq_true (by first | (with_reducible assumption) | assumption)
                  obtain ⟨ad6716, e6716, hx6716_0⟩ := Kd.at_int (Kd.V_reads' HO_2.out).2.2 x11_1 p6716 q6716
                  cases e6716
                  replace p6716 := eq_true p6716
                  replace q6716 := eq_true q6716
                  have hnb68 := NB6715_6701.out
                  have hnc68 := NB6701_6715.out
                  have hnb69 := NB6715_6702.out
                  have hnc69 := NB6702_6715.out
                  have hnb70 := NB6715_6703.out
                  have hnc70 := NB6703_6715.out
                  have hnb71 := NB6715_6707.out
                  have hnc71 := NB6707_6715.out
                  have hnb72 := NB6715_6711.out
                  have hnc72 := NB6711_6715.out
                  have hcz73_0 : wr.cell? ⟨gb6715, 0, none⟩ = some (.bool t6712) := bc BK6715 0
                  have hcz73_1 : wr.cell? ⟨gb6715, 1, none⟩ = some (.int .i64 t6713) := bc BK6715 1
                  have hcz73_2 : wr.cell? ⟨gb6715, 2, none⟩ = some (.int .i64 t6714) := bc BK6715 2
                  have hfz73_0 := blk_frozen BK6715.out 0
                  have hfz73_1 := blk_frozen BK6715.out 1
                  have hfz73_2 := blk_frozen BK6715.out 2
                  have p6717 : 0 ≤ (x11_1 : Int) := of_decide_eq_true (by first | (with_reducible assumption) | assumption)
                  have q6717 : x11_1 < (l2.length : Int) := of_decide_eq_true (by first | (with_reducible assumption) | assumption)
                  obtain ⟨ad6717, e6717, hx6717_0⟩ := Kd.at_int (Kd.V_reads' HO_2.out).2.2 x11_1 p6717 q6717
                  obtain rfl : ad6716 = ad6717 := (by injection e6717)
                  replace p6717 := eq_true p6717
                  replace q6717 := eq_true q6717
                  go_wp2
                  repeat (go_quiet (fail); try go_wp2)
                  go_roundg k1
                  case measure => have := HK1.out; omega
                  case rel => exact ⟨(ji67), (wrap64 (x11_1 + 1)), (by first | rfl | (simp; done) | (simp only [← hji67] <;> (first | rfl | simp)) | (simp [*]; done)), (by first | rfl | (simp; done) | (simp [*]; done)), H', ⟨by have := HK1.out; omega⟩, ⟨by (with_reducible repeat (first | apply Kd.V_alloc | apply Kd.V_drewN | apply Kd.V_drew)); exact HO_2.out⟩, ⟨pk BK6701⟩, ⟨pk BK6702⟩, ⟨pk BK6703⟩, ⟨pk BK6707⟩, ⟨pk BK6711⟩, ⟨pk BK6715⟩, ⟨pl HB⟩⟩
                · rw [if_neg c66] at H
                  have c66b0 : decide ((rd l2 x11_1) ≤ t6713) = false := decide_eq_false c66
                  clear c66
                  have H' := Aside0.mk H
                  clear H
                  have p6716 : 0 ≤ (x11_1 : Int) := of_decide_eq_true (by first | (with_reducible assumption) | assumption)
                  have q6716 : x11_1 < (l2.length : Int) := of_decide_eq_true (by first | (with_reducible assumption) | assumption)
                  obtain ⟨ad6716, e6716, hx6716_0⟩ := Kd.at_int (Kd.V_reads' HO_2.out).2.2 x11_1 p6716 q6716
                  cases e6716
                  replace p6716 := eq_true p6716
                  replace q6716 := eq_true q6716
                  have hnb74 := NB6715_6701.out
                  have hnc74 := NB6701_6715.out
                  have hnb75 := NB6715_6702.out
                  have hnc75 := NB6702_6715.out
                  have hnb76 := NB6715_6703.out
                  have hnc76 := NB6703_6715.out
                  have hnb77 := NB6715_6707.out
                  have hnc77 := NB6707_6715.out
                  have hnb78 := NB6715_6711.out
                  have hnc78 := NB6711_6715.out
                  have hcz79_0 : wr.cell? ⟨gb6715, 0, none⟩ = some (.bool t6712) := bc BK6715 0
                  have hcz79_1 : wr.cell? ⟨gb6715, 1, none⟩ = some (.int .i64 t6713) := bc BK6715 1
                  have hcz79_2 : wr.cell? ⟨gb6715, 2, none⟩ = some (.int .i64 t6714) := bc BK6715 2
                  have hfz79_0 := blk_frozen BK6715.out 0
                  have hfz79_1 := blk_frozen BK6715.out 1
                  have hfz79_2 := blk_frozen BK6715.out 2
                  go_wp2
                  repeat (go_quiet (fail); try go_wp2)
                  go_roundg k1
                  case measure => have := HK1.out; omega
                  case rel => exact ⟨(x10_1), (wrap64 (x11_1 + 1)), (by first | rfl | (simp; done) | (simp [*]; done)), (by first | rfl | (simp; done) | (simp [*]; done)), H', ⟨by have := HK1.out; omega⟩, ⟨by (with_reducible repeat (first | apply Kd.V_alloc | apply Kd.V_drewN | apply Kd.V_drew)); exact HO_2.out⟩, ⟨pk BK6701⟩, ⟨pk BK6702⟩, ⟨pk BK6703⟩, ⟨pk BK6707⟩, ⟨pk BK6711⟩, ⟨pk BK6715⟩, ⟨pl HB⟩⟩
              · rw [if_neg c65] at H
                exact absurd H (by simp)
            · rw [if_neg c64] at H
              have c64b0 : decide (x11_1 < (l2.length : Int)) = false := decide_eq_false c64
              clear c64
              have H' := Aside0.mk H
              clear H
              have hnb80 := NB6715_6701.out
              have hnc80 := NB6701_6715.out
              have hnb81 := NB6715_6702.out
              have hnc81 := NB6702_6715.out
              have hnb82 := NB6715_6703.out
              have hnc82 := NB6703_6715.out
              have hnb83 := NB6715_6707.out
              have hnc83 := NB6707_6715.out
              have hnb84 := NB6715_6711.out
              have hnc84 := NB6711_6715.out
              have hcz85_0 : wr.cell? ⟨gb6715, 0, none⟩ = some (.bool t6712) := bc BK6715 0
              have hcz85_1 : wr.cell? ⟨gb6715, 1, none⟩ = some (.int .i64 t6713) := bc BK6715 1
              have hcz85_2 : wr.cell? ⟨gb6715, 2, none⟩ = some (.int .i64 t6714) := bc BK6715 2
              have hfz85_0 := blk_frozen BK6715.out 0
              have hfz85_1 := blk_frozen BK6715.out 1
              have hfz85_2 := blk_frozen BK6715.out 2
              go_wp2
              repeat (go_quiet (fail); try go_wp2)
              go_meet
              case rel => exact ⟨_, (x10_1), H', ⟨by have := HK1.out; first | omega | exact Nat.le_refl _⟩, ⟨by (with_reducible repeat (first | apply Kd.V_alloc | apply Kd.V_drewN | apply Kd.V_drew)); exact Kd.V_mono (Kd.V_far (p := ⟨gb6715, 1, none⟩) (Kd.V_mono HO_2.out (fun k_ hk => (⟨hk, hk.2.2.2.2.2.2⟩ : _ ∧ k_ ≠ gb6715))) (fun _ hk => hk.2) (.int .i64 x10_1)) (fun _ hk => ⟨hk.1.1, ⟨hk.1.2.1, ⟨hk.1.2.2.1, ⟨hk.1.2.2.2.1, ⟨hk.1.2.2.2.2.1, ⟨hk.1.2.2.2.2.2.1, hk.1.2.2.2.2.2.2⟩⟩⟩⟩⟩⟩)⟩, ⟨pk BK6701⟩, ⟨pk BK6702⟩, ⟨pk BK6703⟩, ⟨pk BK6707⟩, ⟨pk BK6711⟩, ⟨pK BK6715⟩, ⟨pl HB⟩⟩
      · rw [if_neg c63] at H
        have c63b0 : decide (t6713 < t6705) = false := decide_eq_false c63
        clear c63
        (first | rw [c63b0] | (simp only [i64_w, i32_w]; rw [c63b0]) | skip)
        have H' := Aside0.mk H
        clear H
        go_wp2
        repeat (go_quiet (fail); try go_wp2)
        go_meet
        case rel => exact ⟨_, (t6713), H', ⟨by first | omega | exact Nat.le_refl _⟩, ⟨by (with_reducible repeat (first | apply Kd.V_alloc | apply Kd.V_drewN | apply Kd.V_drew)); exact Kd.V_mono (Kd.V_far (p := ⟨gb6715, 2, none⟩) (Kd.V_far (p := ⟨gb6715, 1, none⟩) (Kd.V_far (p := ⟨gb6715, 0, none⟩) (Kd.V_mono HO2.out (fun k_ hk => (⟨hk, hk.2⟩ : _ ∧ k_ ≠ gb6715))) (fun _ hk => hk.2) (.bool t6712)) (fun _ hk => hk.2) (.int .i64 t6713)) (fun _ hk => hk.2) (.int .i64 t6714)) (fun _ hk => ⟨hk.1.1.1.1.1.1.1, ⟨hk.1.1.1.1.1.1.2, ⟨hk.1.1.1.1.1.2, ⟨hk.1.1.1.1.2, ⟨hk.1.1.1.2, ⟨hk.1.1.2, hk.1.2⟩⟩⟩⟩⟩⟩)⟩, ⟨pk BK6701⟩, ⟨pk BK6702⟩, ⟨pk BK6703⟩, ⟨pk BK6707⟩, ⟨pk BK6711⟩, ⟨pK BK6715⟩, ⟨pl HB⟩⟩
    case rest =>
      clear HC31
      try clear c1
      try clear c2
      try clear p2
      try clear c3
      try clear c4
      try clear c5
      try clear c6
      try clear p6
      try clear q6
      try clear hx6
      try clear c7
      try clear c8
      try clear c10
      try clear c11
      try clear c15
      try clear c16
      try clear c17
      try clear c19
      try clear c23
      try clear c24
      try clear c25
      try clear c26
      try clear c35
      try clear c36
      try clear c40
      try clear c41
      try clear c42
      try clear c44
      try clear c48
      try clear c49
      try clear c50
      try clear c51
      try clear c56
      try clear c57
      try clear c58
      try clear c59
      try clear c60
      try clear c63
      try clear c63b0
      try clear c64
      try clear c64b0
      try clear p64
      try clear c65
      try clear c65b0
      try clear c66
      try clear c66b0
      try clear p67
      try clear q67
      try clear hx67
      try clear c68
      try clear c69
      try clear c70
      try clear c71
      try clear c72
      try clear c74
      try clear c75
      try clear c76
      try clear c77
      try clear c78
      try clear c80
      try clear c81
      try clear c82
      try clear c83
      try clear c84
      try clear hcz12_0
      try clear hcz12_1
      try clear hcz12_2
      try clear hcz18_0
      try clear hcz18_1
      try clear hcz18_2
      try clear hcz20_0
      try clear hcz20_1
      try clear hcz20_2
      try clear hcz27_0
      try clear hcz27_1
      try clear hcz27_2
      try clear hcz28_0
      try clear hcz28_1
      try clear hcz28_2
      try clear hcz29_0
      try clear hcz29_1
      try clear hcz29_2
      try clear hcz37_0
      try clear hcz37_1
      try clear hcz37_2
      try clear hcz43_0
      try clear hcz43_1
      try clear hcz43_2
      try clear hcz45_0
      try clear hcz45_1
      try clear hcz45_2
      try clear hcz52_0
      try clear hcz52_1
      try clear hcz52_2
      try clear hcz53_0
      try clear hcz53_1
      try clear hcz53_2
      try clear hcz61_0
      try clear hcz61_1
      try clear hcz61_2
      try clear hcz62_0
      try clear hcz62_1
      try clear hcz62_2
      try clear hcz73_0
      try clear hcz73_1
      try clear hcz73_2
      try clear hcz79_0
      try clear hcz79_1
      try clear hcz79_2
      try clear hcz85_0
      try clear hcz85_1
      try clear hcz85_2
      try clear hfz12_0
      try clear hfz12_1
      try clear hfz12_2
      try clear hfz18_0
      try clear hfz18_1
      try clear hfz18_2
      try clear hfz20_0
      try clear hfz20_1
      try clear hfz20_2
      try clear hfz27_0
      try clear hfz27_1
      try clear hfz27_2
      try clear hfz28_0
      try clear hfz28_1
      try clear hfz28_2
      try clear hfz29_0
      try clear hfz29_1
      try clear hfz29_2
      try clear hfz37_0
      try clear hfz37_1
      try clear hfz37_2
      try clear hfz43_0
      try clear hfz43_1
      try clear hfz43_2
      try clear hfz45_0
      try clear hfz45_1
      try clear hfz45_2
      try clear hfz52_0
      try clear hfz52_1
      try clear hfz52_2
      try clear hfz53_0
      try clear hfz53_1
      try clear hfz53_2
      try clear hfz61_0
      try clear hfz61_1
      try clear hfz61_2
      try clear hfz62_0
      try clear hfz62_1
      try clear hfz62_2
      try clear hfz73_0
      try clear hfz73_1
      try clear hfz73_2
      try clear hfz79_0
      try clear hfz79_1
      try clear hfz79_2
      try clear hfz85_0
      try clear hfz85_1
      try clear hfz85_2
      try clear hx6716_0
      try clear hx6717_0
      try clear p2
      try clear p6716
      try clear p6717
      try clear q6716
      try clear q6717
      obtain ⟨kq, x6716001_30, HA, HJ30, HO_2, BK6701, BK6702, BK6703, BK6707, BK6711, BK6715, HB⟩ := hcut
      cases kq with
      | zero => exact absurd HA.out (by simp [flyballref17_Widen.j1])
      | succ kj30 =>
        have H := HA.out
        clear HA
        simp only [flyballref17_Widen.j1] at H
        by_cases c86 : t6714 > t6706
        · rw [if_pos c86] at H
          have c86b0 : decide (t6706 < t6714) = true := decide_eq_true c86
          clear c86
          have H' := Aside0.mk H
          clear H
          have hnb87 := NB6715_6701.out
          have hnc87 := NB6701_6715.out
          have hnb88 := NB6715_6702.out
          have hnc88 := NB6702_6715.out
          have hnb89 := NB6715_6703.out
          have hnc89 := NB6703_6715.out
          have hnb90 := NB6715_6707.out
          have hnc90 := NB6707_6715.out
          have hnb91 := NB6715_6711.out
          have hnc91 := NB6711_6715.out
          have hcz92_0 : wc.cell? ⟨gb6715, 0, none⟩ = some (.bool t6712) := bc BK6715 0
          have hcz92_1 : wc.cell? ⟨gb6715, 1, none⟩ = some (.int .i64 x6716001_30) := bc BK6715 1
          have hcz92_2 : wc.cell? ⟨gb6715, 2, none⟩ = some (.int .i64 t6714) := bc BK6715 2
          have hfz92_0 := blk_frozen BK6715.out 0
          have hfz92_1 := blk_frozen BK6715.out 1
          have hfz92_2 := blk_frozen BK6715.out 2
          have hnb93 := NB6707_6701.out
          have hnc93 := NB6701_6707.out
          have hnb94 := NB6707_6702.out
          have hnc94 := NB6702_6707.out
          have hnb95 := NB6707_6703.out
          have hnc95 := NB6703_6707.out
          have hnb96 := NB6707_6711.out
          have hnc96 := NB6711_6707.out
          have hcz97_0 : wc.cell? ⟨gb6707, 0, none⟩ = some (.bool false) := bc BK6707 0
          have hcz97_1 : wc.cell? ⟨gb6707, 1, none⟩ = some (.int .i64 t6705) := bc BK6707 1
          have hcz97_2 : wc.cell? ⟨gb6707, 2, none⟩ = some (.int .i64 t6706) := bc BK6707 2
          have hfz97_0 := blk_frozen BK6707.out 0
          have hfz97_1 := blk_frozen BK6707.out 1
          have hfz97_2 := blk_frozen BK6707.out 2
          go_wp2
          repeat (go_quiet (fail); try go_wp2)
          go_loopg [12, 13] kj30 (fun kq v12 v13 w' => ∃ (x12_2 : Int) (x13_2 : Int), v12 = .int .i64 x12_2 ∧ v13 = .int .i64 x13_2 ∧ Aside0 (flyballref17_Widen.l1 kq l2 x12_2 x13_2 t6712 x6716001_30 t6714 = some (r1, r2, r3)) ∧ Aside0 (kq ≤ kj30) ∧ Aside0 (Kd.V (Kd.int .i64) 2 w' w.heap.size (fun k_ => (P2_ k_ ∨ w.heap.size ≤ k_) ∧ k_ ≠ gb6701 ∧ k_ ≠ gb6702 ∧ k_ ≠ gb6703 ∧ k_ ≠ gb6707 ∧ k_ ≠ gb6711 ∧ k_ ≠ gb6715) (.slice A2 l2.length c2) l2) ∧ Aside0 (w'.heap[gb6701]? = some (.cells #[.bool a0_0, .int .i64 a0_1, .int .i64 a0_2] 23 (0, 0))) ∧ Aside0 (w'.heap[gb6702]? = some (.cells #[.bool a1_0, .int .i64 a1_1, .int .i64 a1_2] 23 (0, 0))) ∧ Aside0 (w'.heap[gb6703]? = some (.cells #[.bool false, .int .i64 0, .int .i64 0] 23 (0, 0))) ∧ Aside0 (w'.heap[gb6707]? = some (.cells #[.bool false, .int .i64 t6705, .int .i64 t6706] 23 (0, 0))) ∧ Aside0 (w'.heap[gb6711]? = some (.cells #[.bool t6708, .int .i64 t6709, .int .i64 t6710] 23 (0, 0))) ∧ Aside0 (w'.heap[gb6715]? = some (.cells #[.bool t6712, .int .i64 x6716001_30, .int .i64 t6714] 23 (0, 0))) ∧ Aside0 (Below w.heap.size w w'))
          case atStart => exact ⟨(1099511627776), (0), (by first | rfl | (simp; done) | (simp [*]; done)), (by first | rfl | (simp; done) | (simp [*]; done)), H', ⟨Nat.le_refl _⟩, ⟨by (with_reducible repeat (first | apply Kd.V_alloc | apply Kd.V_drewN | apply Kd.V_drew)); exact HO_2.out⟩, ⟨pk BK6701⟩, ⟨pk BK6702⟩, ⟨pk BK6703⟩, ⟨pk BK6707⟩, ⟨pk BK6711⟩, ⟨pk BK6715⟩, ⟨pl HB⟩⟩
          case round =>
            clear H'
            try clear c1
            try clear c2
            try clear p2
            try clear c3
            try clear c4
            try clear c5
            try clear c6
            try clear p6
            try clear q6
            try clear hx6
            try clear c7
            try clear c8
            try clear c9
            try clear c10
            try clear c11
            try clear c15
            try clear c16
            try clear c17
            try clear c19
            try clear c23
            try clear c24
            try clear c25
            try clear c26
            try clear c35
            try clear c36
            try clear c40
            try clear c41
            try clear c42
            try clear c44
            try clear c48
            try clear c49
            try clear c50
            try clear c51
            try clear c56
            try clear c57
            try clear c58
            try clear c59
            try clear c60
            try clear c63
            try clear c63b0
            try clear c64
            try clear c64b0
            try clear p64
            try clear c65
            try clear c65b0
            try clear c66
            try clear c66b0
            try clear p67
            try clear q67
            try clear hx67
            try clear c68
            try clear c69
            try clear c70
            try clear c71
            try clear c72
            try clear c74
            try clear c75
            try clear c76
            try clear c77
            try clear c78
            try clear c80
            try clear c81
            try clear c82
            try clear c83
            try clear c84
            try clear c86
            try clear c86b0
            try clear c87
            try clear c88
            try clear c89
            try clear c90
            try clear c91
            try clear c93
            try clear c94
            try clear c95
            try clear c96
            try clear hcz12_0
            try clear hcz12_1
            try clear hcz12_2
            try clear hcz18_0
            try clear hcz18_1
            try clear hcz18_2
            try clear hcz20_0
            try clear hcz20_1
            try clear hcz20_2
            try clear hcz27_0
            try clear hcz27_1
            try clear hcz27_2
            try clear hcz28_0
            try clear hcz28_1
            try clear hcz28_2
            try clear hcz29_0
            try clear hcz29_1
            try clear hcz29_2
            try clear hcz37_0
            try clear hcz37_1
            try clear hcz37_2
            try clear hcz43_0
            try clear hcz43_1
            try clear hcz43_2
            try clear hcz45_0
            try clear hcz45_1
            try clear hcz45_2
            try clear hcz52_0
            try clear hcz52_1
            try clear hcz52_2
            try clear hcz53_0
            try clear hcz53_1
            try clear hcz53_2
            try clear hcz61_0
            try clear hcz61_1
            try clear hcz61_2
            try clear hcz62_0
            try clear hcz62_1
            try clear hcz62_2
            try clear hcz73_0
            try clear hcz73_1
            try clear hcz73_2
            try clear hcz79_0
            try clear hcz79_1
            try clear hcz79_2
            try clear hcz85_0
            try clear hcz85_1
            try clear hcz85_2
            try clear hcz92_0
            try clear hcz92_1
            try clear hcz92_2
            try clear hcz97_0
            try clear hcz97_1
            try clear hcz97_2
            try clear hfz12_0
            try clear hfz12_1
            try clear hfz12_2
            try clear hfz18_0
            try clear hfz18_1
            try clear hfz18_2
            try clear hfz20_0
            try clear hfz20_1
            try clear hfz20_2
            try clear hfz27_0
            try clear hfz27_1
            try clear hfz27_2
            try clear hfz28_0
            try clear hfz28_1
            try clear hfz28_2
            try clear hfz29_0
            try clear hfz29_1
            try clear hfz29_2
            try clear hfz37_0
            try clear hfz37_1
            try clear hfz37_2
            try clear hfz43_0
            try clear hfz43_1
            try clear hfz43_2
            try clear hfz45_0
            try clear hfz45_1
            try clear hfz45_2
            try clear hfz52_0
            try clear hfz52_1
            try clear hfz52_2
            try clear hfz53_0
            try clear hfz53_1
            try clear hfz53_2
            try clear hfz61_0
            try clear hfz61_1
            try clear hfz61_2
            try clear hfz62_0
            try clear hfz62_1
            try clear hfz62_2
            try clear hfz73_0
            try clear hfz73_1
            try clear hfz73_2
            try clear hfz79_0
            try clear hfz79_1
            try clear hfz79_2
            try clear hfz85_0
            try clear hfz85_1
            try clear hfz85_2
            try clear hfz92_0
            try clear hfz92_1
            try clear hfz92_2
            try clear hfz97_0
            try clear hfz97_1
            try clear hfz97_2
            try clear hx6716_0
            try clear hx6717_0
            try clear p2
            try clear p6
            try clear p64
            try clear p67
            try clear p6716
            try clear p6717
            try clear q6
            try clear q67
            try clear q6716
            try clear q6717
            obtain ⟨x12_2, x13_2, rfl, rfl, HA, HK2, HO_2, BK6701, BK6702, BK6703, BK6707, BK6711, BK6715, HB⟩ := hrel
            cases gk with
            | zero => exact absurd HA.out (by simp [flyballref17_Widen.l1])
            | succ k2 =>
              have H := HA.out
              clear HA
              simp only [flyballref17_Widen.l1] at H
              by_cases c98 : x13_2 < (l2.length : Int)
              · rw [if_pos c98] at H
                have c98b0 : decide (x13_2 < (l2.length : Int)) = true := decide_eq_true c98
                clear c98
                by_cases c99 : 0 ≤ x13_2
                · rw [if_pos c99] at H
                  have c99b0 : decide (0 ≤ x13_2) = true := decide_eq_true c99
                  clear c99
                  by_cases c100 : (rd l2 x13_2) ≥ t6714
                  · rw [if_pos c100] at H
                    have c100b0 : decide (t6714 ≤ (rd l2 x13_2)) = true := decide_eq_true c100
                    clear c100
                    obtain ⟨ji101, hji101⟩ : ∃ j_ : Int, (mn x12_2 (rd l2 x13_2)) = j_ := ⟨_, rfl⟩
                    replace H : (flyballref17_Widen.l1 k2 l2 ji101 (wrap64 (x13_2 + 1)) t6712 x6716001_30 t6714) = some (r1, r2, r3) := by first | (rw [hji101] at H; exact H) | (simp only [hji101] at H ⊢; exact H)
                    have hji101_ : (if (rd l2 x13_2) < x12_2 then (rd l2 x13_2) else x12_2) = ji101 := hji101
                    have H' := Aside0.mk H
                    clear H
                    have p6718 : 0 ≤ (x13_2 : Int) := of_decide_eq_true (by first | (with_reducible assumption) | assumption)
                    have q6718 : x13_2 < (l2.length : Int) := of_decide_eq_true (by first | (with_reducible assumption) | assumption)
                    obtain ⟨ad6718, e6718, hx6718_0⟩ := Kd.at_int (Kd.V_reads' HO_2.out).2.2 x13_2 p6718 q6718
                    cases e6718
                    replace p6718 := eq_true p6718
                    replace q6718 := eq_true q6718
                    have hnb102 := NB6715_6701.out
                    have hnc102 := NB6701_6715.out
                    have hnb103 := NB6715_6702.out
                    have hnc103 := NB6702_6715.out
                    have hnb104 := NB6715_6703.out
                    have hnc104 := NB6703_6715.out
                    have hnb105 := NB6715_6707.out
                    have hnc105 := NB6707_6715.out
                    have hnb106 := NB6715_6711.out
                    have hnc106 := NB6711_6715.out
                    have hcz107_0 : wr.cell? ⟨gb6715, 0, none⟩ = some (.bool t6712) := bc BK6715 0
                    have hcz107_1 : wr.cell? ⟨gb6715, 1, none⟩ = some (.int .i64 x6716001_30) := bc BK6715 1
                    have hcz107_2 : wr.cell? ⟨gb6715, 2, none⟩ = some (.int .i64 t6714) := bc BK6715 2
                    have hfz107_0 := blk_frozen BK6715.out 0
                    have hfz107_1 := blk_frozen BK6715.out 1
                    have hfz107_2 := blk_frozen BK6715.out 2
                    have p6719 : 0 ≤ (x13_2 : Int) := of_decide_eq_true (by first | (with_reducible assumption) | assumption)
                    have q6719 : x13_2 < (l2.length : Int) := of_decide_eq_true (by first | (with_reducible assumption) | assumption)
                    obtain ⟨ad6719, e6719, hx6719_0⟩ := Kd.at_int (Kd.V_reads' HO_2.out).2.2 x13_2 p6719 q6719
                    obtain rfl : ad6718 = ad6719 := (by injection e6719)
                    replace p6719 := eq_true p6719
                    replace q6719 := eq_true q6719
                    go_wp2
                    repeat (go_quiet (fail); try go_wp2)
                    go_roundg k2
                    case measure => have := HJ30.out; have := HK2.out; omega
                    case rel => exact ⟨(ji101), (wrap64 (x13_2 + 1)), (by first | rfl | (simp; done) | (simp only [← hji101] <;> (first | rfl | simp)) | (simp [*]; done)), (by first | rfl | (simp; done) | (simp [*]; done)), H', ⟨by have := HJ30.out; have := HK2.out; omega⟩, ⟨by (with_reducible repeat (first | apply Kd.V_alloc | apply Kd.V_drewN | apply Kd.V_drew)); exact HO_2.out⟩, ⟨pk BK6701⟩, ⟨pk BK6702⟩, ⟨pk BK6703⟩, ⟨pk BK6707⟩, ⟨pk BK6711⟩, ⟨pk BK6715⟩, ⟨pl HB⟩⟩
                  · rw [if_neg c100] at H
                    have c100b0 : decide (t6714 ≤ (rd l2 x13_2)) = false := decide_eq_false c100
                    clear c100
                    have H' := Aside0.mk H
                    clear H
                    have p6718 : 0 ≤ (x13_2 : Int) := of_decide_eq_true (by first | (with_reducible assumption) | assumption)
                    have q6718 : x13_2 < (l2.length : Int) := of_decide_eq_true (by first | (with_reducible assumption) | assumption)
                    obtain ⟨ad6718, e6718, hx6718_0⟩ := Kd.at_int (Kd.V_reads' HO_2.out).2.2 x13_2 p6718 q6718
                    cases e6718
                    replace p6718 := eq_true p6718
                    replace q6718 := eq_true q6718
                    have hnb108 := NB6715_6701.out
                    have hnc108 := NB6701_6715.out
                    have hnb109 := NB6715_6702.out
                    have hnc109 := NB6702_6715.out
                    have hnb110 := NB6715_6703.out
                    have hnc110 := NB6703_6715.out
                    have hnb111 := NB6715_6707.out
                    have hnc111 := NB6707_6715.out
                    have hnb112 := NB6715_6711.out
                    have hnc112 := NB6711_6715.out
                    have hcz113_0 : wr.cell? ⟨gb6715, 0, none⟩ = some (.bool t6712) := bc BK6715 0
                    have hcz113_1 : wr.cell? ⟨gb6715, 1, none⟩ = some (.int .i64 x6716001_30) := bc BK6715 1
                    have hcz113_2 : wr.cell? ⟨gb6715, 2, none⟩ = some (.int .i64 t6714) := bc BK6715 2
                    have hfz113_0 := blk_frozen BK6715.out 0
                    have hfz113_1 := blk_frozen BK6715.out 1
                    have hfz113_2 := blk_frozen BK6715.out 2
                    go_wp2
                    repeat (go_quiet (fail); try go_wp2)
                    go_roundg k2
                    case measure => have := HJ30.out; have := HK2.out; omega
                    case rel => exact ⟨(x12_2), (wrap64 (x13_2 + 1)), (by first | rfl | (simp; done) | (simp [*]; done)), (by first | rfl | (simp; done) | (simp [*]; done)), H', ⟨by have := HJ30.out; have := HK2.out; omega⟩, ⟨by (with_reducible repeat (first | apply Kd.V_alloc | apply Kd.V_drewN | apply Kd.V_drew)); exact HO_2.out⟩, ⟨pk BK6701⟩, ⟨pk BK6702⟩, ⟨pk BK6703⟩, ⟨pk BK6707⟩, ⟨pk BK6711⟩, ⟨pk BK6715⟩, ⟨pl HB⟩⟩
                · rw [if_neg c99] at H
                  exact absurd H (by simp)
              · rw [if_neg c98] at H
                have c98b0 : decide (x13_2 < (l2.length : Int)) = false := decide_eq_false c98
                clear c98
                obtain ⟨⟨t6720, t6721, t6722⟩, A1140, H⟩ := Option.bind_eq_some_iff.mp H
                have A114 := Aside0.mk A1140
                clear A1140
                (try dsimp only at H)
                simp only [Option.some.injEq, Prod.mk.injEq] at H
                obtain ⟨rfl, rfl, rfl⟩ := H
                have hnb115 := NB6715_6701.out
                have hnc115 := NB6701_6715.out
                have hnb116 := NB6715_6702.out
                have hnc116 := NB6702_6715.out
                have hnb117 := NB6715_6703.out
                have hnc117 := NB6703_6715.out
                have hnb118 := NB6715_6707.out
                have hnc118 := NB6707_6715.out
                have hnb119 := NB6715_6711.out
                have hnc119 := NB6711_6715.out
                have hcz120_0 : wr.cell? ⟨gb6715, 0, none⟩ = some (.bool t6712) := bc BK6715 0
                have hcz120_1 : wr.cell? ⟨gb6715, 1, none⟩ = some (.int .i64 x6716001_30) := bc BK6715 1
                have hcz120_2 : wr.cell? ⟨gb6715, 2, none⟩ = some (.int .i64 t6714) := bc BK6715 2
                have hfz120_0 := blk_frozen BK6715.out 0
                have hfz120_1 := blk_frozen BK6715.out 1
                have hfz120_2 := blk_frozen BK6715.out 2
                go_wp2_with (first | (go_at_call 39; (with_reducible refine (flyballref17_Norm.calls t6712 x6716001_30 x12_2 t6720 t6721 t6722 _ A114.out).mono ?_); rintro e w121 ⟨rfl, hb⟩; have n0_ := Aside0.mk (Kd.V_below (by (with_reducible repeat (first | apply Kd.V_alloc | apply Kd.V_drewN | apply Kd.V_drew)); exact (Kd.V_mono (Kd.V_far (p := ⟨gb6715, 2, none⟩) (Kd.V_mono HO_2.out (fun k_ hk => (⟨hk, hk.2.2.2.2.2.2⟩ : _ ∧ k_ ≠ gb6715))) (fun _ hk => hk.2) (.int .i64 x12_2)) (fun _ h_ => h_.1))) hb); have n1_ := kb BK6701 hb; have n2_ := kb BK6702 hb; have n3_ := kb BK6703 hb; have n4_ := kb BK6707 hb; have n5_ := kb BK6711 hb; have n6_ := kb (o' := .cells #[.bool t6712, .int .i64 x6716001_30, .int .i64 x12_2] 23 (0, 0)) BK6715 hb; have n7_ := kh HB hb; clear HO_2; clear BK6701; clear BK6702; clear BK6703; clear BK6707; clear BK6711; clear BK6715; clear HB; have HO_2 := n0_; have BK6701 := n1_; have BK6702 := n2_; have BK6703 := n3_; have BK6707 := n4_; have BK6711 := n5_; have BK6715 := n6_; have HB := n7_; clear n0_ n1_ n2_ n3_ n4_ n5_ n6_ n7_; (try clear hb); (try clear hb2); (try clear hk); (try clear hi); have hnb122 := NB6703_6701.out; have hnc122 := NB6701_6703.out; have hnb123 := NB6703_6702.out; have hnc123 := NB6702_6703.out; have hnb124 := NB6703_6707.out; have hnc124 := NB6707_6703.out; have hnb125 := NB6703_6711.out; have hnc125 := NB6711_6703.out; have ⟨hcz126_0, hcz126_1, hcz126_2, hfz126_0, hfz126_1, hfz126_2⟩ := kz3f BK6703))
                repeat (go_quiet (first | (go_at_call 39; (with_reducible refine (flyballref17_Norm.calls t6712 x6716001_30 x12_2 t6720 t6721 t6722 _ A114.out).mono ?_); rintro e w121 ⟨rfl, hb⟩; have n0_ := Aside0.mk (Kd.V_below (by (with_reducible repeat (first | apply Kd.V_alloc | apply Kd.V_drewN | apply Kd.V_drew)); exact (Kd.V_mono (Kd.V_far (p := ⟨gb6715, 2, none⟩) (Kd.V_mono HO_2.out (fun k_ hk => (⟨hk, hk.2.2.2.2.2.2⟩ : _ ∧ k_ ≠ gb6715))) (fun _ hk => hk.2) (.int .i64 x12_2)) (fun _ h_ => h_.1))) hb); have n1_ := kb BK6701 hb; have n2_ := kb BK6702 hb; have n3_ := kb BK6703 hb; have n4_ := kb BK6707 hb; have n5_ := kb BK6711 hb; have n6_ := kb (o' := .cells #[.bool t6712, .int .i64 x6716001_30, .int .i64 x12_2] 23 (0, 0)) BK6715 hb; have n7_ := kh HB hb; clear HO_2; clear BK6701; clear BK6702; clear BK6703; clear BK6707; clear BK6711; clear BK6715; clear HB; have HO_2 := n0_; have BK6701 := n1_; have BK6702 := n2_; have BK6703 := n3_; have BK6707 := n4_; have BK6711 := n5_; have BK6715 := n6_; have HB := n7_; clear n0_ n1_ n2_ n3_ n4_ n5_ n6_ n7_; (try clear hb); (try clear hb2); (try clear hk); (try clear hi); have hnb122 := NB6703_6701.out; have hnc122 := NB6701_6703.out; have hnb123 := NB6703_6702.out; have hnc123 := NB6702_6703.out; have hnb124 := NB6703_6707.out; have hnc124 := NB6707_6703.out; have hnb125 := NB6703_6711.out; have hnc125 := NB6711_6703.out; have ⟨hcz126_0, hcz126_1, hcz126_2, hfz126_0, hfz126_1, hfz126_2⟩ := kz3f BK6703)); try go_wp2_with (first | (go_at_call 39; (with_reducible refine (flyballref17_Norm.calls t6712 x6716001_30 x12_2 t6720 t6721 t6722 _ A114.out).mono ?_); rintro e w121 ⟨rfl, hb⟩; have n0_ := Aside0.mk (Kd.V_below (by (with_reducible repeat (first | apply Kd.V_alloc | apply Kd.V_drewN | apply Kd.V_drew)); exact (Kd.V_mono (Kd.V_far (p := ⟨gb6715, 2, none⟩) (Kd.V_mono HO_2.out (fun k_ hk => (⟨hk, hk.2.2.2.2.2.2⟩ : _ ∧ k_ ≠ gb6715))) (fun _ hk => hk.2) (.int .i64 x12_2)) (fun _ h_ => h_.1))) hb); have n1_ := kb BK6701 hb; have n2_ := kb BK6702 hb; have n3_ := kb BK6703 hb; have n4_ := kb BK6707 hb; have n5_ := kb BK6711 hb; have n6_ := kb (o' := .cells #[.bool t6712, .int .i64 x6716001_30, .int .i64 x12_2] 23 (0, 0)) BK6715 hb; have n7_ := kh HB hb; clear HO_2; clear BK6701; clear BK6702; clear BK6703; clear BK6707; clear BK6711; clear BK6715; clear HB; have HO_2 := n0_; have BK6701 := n1_; have BK6702 := n2_; have BK6703 := n3_; have BK6707 := n4_; have BK6711 := n5_; have BK6715 := n6_; have HB := n7_; clear n0_ n1_ n2_ n3_ n4_ n5_ n6_ n7_; (try clear hb); (try clear hb2); (try clear hk); (try clear hi); have hnb122 := NB6703_6701.out; have hnc122 := NB6701_6703.out; have hnb123 := NB6703_6702.out; have hnc123 := NB6702_6703.out; have hnb124 := NB6703_6707.out; have hnc124 := NB6707_6703.out; have hnb125 := NB6703_6711.out; have hnc125 := NB6711_6703.out; have ⟨hcz126_0, hcz126_1, hcz126_2, hfz126_0, hfz126_1, hfz126_2⟩ := kz3f BK6703)))
                refine bodyPost_ret (results_cell_row rfl _ _ gb6703 23 #[.bool t6720, .int .i64 t6721, .int .i64 t6722] (0, 0) _ rfl (pK BK6703) Try.underlying23 rfl (by kernel_rfl)) rfl ?_
                exact ⟨pe, pl HB⟩
        · rw [if_neg c86] at H
          have c86b0 : decide (t6706 < t6714) = false := decide_eq_false c86
          clear c86
          obtain ⟨⟨t6723, t6724, t6725⟩, A1270, H⟩ := Option.bind_eq_some_iff.mp H
          have A127 := Aside0.mk A1270
          clear A1270
          (try dsimp only at H)
          simp only [Option.some.injEq, Prod.mk.injEq] at H
          obtain ⟨rfl, rfl, rfl⟩ := H
          have hnb128 := NB6715_6701.out
          have hnc128 := NB6701_6715.out
          have hnb129 := NB6715_6702.out
          have hnc129 := NB6702_6715.out
          have hnb130 := NB6715_6703.out
          have hnc130 := NB6703_6715.out
          have hnb131 := NB6715_6707.out
          have hnc131 := NB6707_6715.out
          have hnb132 := NB6715_6711.out
          have hnc132 := NB6711_6715.out
          have hcz133_0 : wc.cell? ⟨gb6715, 0, none⟩ = some (.bool t6712) := bc BK6715 0
          have hcz133_1 : wc.cell? ⟨gb6715, 1, none⟩ = some (.int .i64 x6716001_30) := bc BK6715 1
          have hcz133_2 : wc.cell? ⟨gb6715, 2, none⟩ = some (.int .i64 t6714) := bc BK6715 2
          have hfz133_0 := blk_frozen BK6715.out 0
          have hfz133_1 := blk_frozen BK6715.out 1
          have hfz133_2 := blk_frozen BK6715.out 2
          have hnb134 := NB6707_6701.out
          have hnc134 := NB6701_6707.out
          have hnb135 := NB6707_6702.out
          have hnc135 := NB6702_6707.out
          have hnb136 := NB6707_6703.out
          have hnc136 := NB6703_6707.out
          have hnb137 := NB6707_6711.out
          have hnc137 := NB6711_6707.out
          have hcz138_0 : wc.cell? ⟨gb6707, 0, none⟩ = some (.bool false) := bc BK6707 0
          have hcz138_1 : wc.cell? ⟨gb6707, 1, none⟩ = some (.int .i64 t6705) := bc BK6707 1
          have hcz138_2 : wc.cell? ⟨gb6707, 2, none⟩ = some (.int .i64 t6706) := bc BK6707 2
          have hfz138_0 := blk_frozen BK6707.out 0
          have hfz138_1 := blk_frozen BK6707.out 1
          have hfz138_2 := blk_frozen BK6707.out 2
          go_wp2_with (first | (go_at_call 39; (with_reducible refine (flyballref17_Norm.calls t6712 x6716001_30 t6714 t6723 t6724 t6725 _ A127.out).mono ?_); rintro e w139 ⟨rfl, hb⟩; have n0_ := Aside0.mk (Kd.V_below (by (with_reducible repeat (first | apply Kd.V_alloc | apply Kd.V_drewN | apply Kd.V_drew)); exact HO_2.out) hb); have n1_ := kb BK6701 hb; have n2_ := kb BK6702 hb; have n3_ := kb BK6703 hb; have n4_ := kb BK6707 hb; have n5_ := kb BK6711 hb; have n6_ := kb BK6715 hb; have n7_ := kh HB hb; clear HO_2; clear BK6701; clear BK6702; clear BK6703; clear BK6707; clear BK6711; clear BK6715; clear HB; have HO_2 := n0_; have BK6701 := n1_; have BK6702 := n2_; have BK6703 := n3_; have BK6707 := n4_; have BK6711 := n5_; have BK6715 := n6_; have HB := n7_; clear n0_ n1_ n2_ n3_ n4_ n5_ n6_ n7_; (try clear hb); (try clear hb2); (try clear hk); (try clear hi); have hnb140 := NB6703_6701.out; have hnc140 := NB6701_6703.out; have hnb141 := NB6703_6702.out; have hnc141 := NB6702_6703.out; have hnb142 := NB6703_6711.out; have hnc142 := NB6711_6703.out; have ⟨hcz143_0, hcz143_1, hcz143_2, hfz143_0, hfz143_1, hfz143_2⟩ := kz3f BK6703))
          repeat (go_quiet (first | (go_at_call 39; (with_reducible refine (flyballref17_Norm.calls t6712 x6716001_30 t6714 t6723 t6724 t6725 _ A127.out).mono ?_); rintro e w139 ⟨rfl, hb⟩; have n0_ := Aside0.mk (Kd.V_below (by (with_reducible repeat (first | apply Kd.V_alloc | apply Kd.V_drewN | apply Kd.V_drew)); exact HO_2.out) hb); have n1_ := kb BK6701 hb; have n2_ := kb BK6702 hb; have n3_ := kb BK6703 hb; have n4_ := kb BK6707 hb; have n5_ := kb BK6711 hb; have n6_ := kb BK6715 hb; have n7_ := kh HB hb; clear HO_2; clear BK6701; clear BK6702; clear BK6703; clear BK6707; clear BK6711; clear BK6715; clear HB; have HO_2 := n0_; have BK6701 := n1_; have BK6702 := n2_; have BK6703 := n3_; have BK6707 := n4_; have BK6711 := n5_; have BK6715 := n6_; have HB := n7_; clear n0_ n1_ n2_ n3_ n4_ n5_ n6_ n7_; (try clear hb); (try clear hb2); (try clear hk); (try clear hi); have hnb140 := NB6703_6701.out; have hnc140 := NB6701_6703.out; have hnb141 := NB6703_6702.out; have hnc141 := NB6702_6703.out; have hnb142 := NB6703_6711.out; have hnc142 := NB6711_6703.out; have ⟨hcz143_0, hcz143_1, hcz143_2, hfz143_0, hfz143_1, hfz143_2⟩ := kz3f BK6703)); try go_wp2_with (first | (go_at_call 39; (with_reducible refine (flyballref17_Norm.calls t6712 x6716001_30 t6714 t6723 t6724 t6725 _ A127.out).mono ?_); rintro e w139 ⟨rfl, hb⟩; have n0_ := Aside0.mk (Kd.V_below (by (with_reducible repeat (first | apply Kd.V_alloc | apply Kd.V_drewN | apply Kd.V_drew)); exact HO_2.out) hb); have n1_ := kb BK6701 hb; have n2_ := kb BK6702 hb; have n3_ := kb BK6703 hb; have n4_ := kb BK6707 hb; have n5_ := kb BK6711 hb; have n6_ := kb BK6715 hb; have n7_ := kh HB hb; clear HO_2; clear BK6701; clear BK6702; clear BK6703; clear BK6707; clear BK6711; clear BK6715; clear HB; have HO_2 := n0_; have BK6701 := n1_; have BK6702 := n2_; have BK6703 := n3_; have BK6707 := n4_; have BK6711 := n5_; have BK6715 := n6_; have HB := n7_; clear n0_ n1_ n2_ n3_ n4_ n5_ n6_ n7_; (try clear hb); (try clear hb2); (try clear hk); (try clear hi); have hnb140 := NB6703_6701.out; have hnc140 := NB6701_6703.out; have hnb141 := NB6703_6702.out; have hnc141 := NB6702_6703.out; have hnb142 := NB6703_6711.out; have hnc142 := NB6711_6703.out; have ⟨hcz143_0, hcz143_1, hcz143_2, hfz143_0, hfz143_1, hfz143_2⟩ := kz3f BK6703)))
          refine bodyPost_ret (results_cell_row rfl _ _ gb6703 23 #[.bool t6723, .int .i64 t6724, .int .i64 t6725] (0, 0) _ rfl (pK BK6703) Try.underlying23 rfl (by kernel_rfl)) rfl ?_
          exact ⟨pe, pl HB⟩
end Go.Proofs.Ytinmgnlofininaa.PAll
end
