/- Functions of the print, turned to this claim. -/
import Derived.Test.YtdchdapllehppaaZDW
import Derived.Test.YtdchdapllehppaaZDx0
import Derived.Test.YtdchdapllehppaaZDx1
import Derived.Test.YtdchdapllehppaaZDx2
import Derived.Test.YtdchdapllehppaaZDx5
import Derived.Test.YtdchdapllehppaaZDx9
import Derived.Test.YtdchdapllehppaaZDx12
import Derived.Test.YtdchdapllehppaaZDx13
import Derived.Test.YtdchdapllehppaaZDx14
import Derived.Test.YtdchdapllehppaaZDx15
section
namespace Go.Proofs.Ytdchdapllehppaa.PAll
open Go.RowKit Go.Proofs.YtdchdapllehppaaW.PrintWords Go.Proofs.YtdchdapllehppaaW.PrintLast Go.Proofs.YtdchdapllehppaaW.PrintMore
attribute [local go_sem] max2_int min2_int max_two min_two max_three min_three max_four min_four   -- for this text's walks alone
set_option linter.unusedVariables false
set_option linter.unusedSimpArgs false
attribute [local go_sem high] eqA24 eqA26
/-! ### flyballlaw01_WideDivides: function 3 -/
def flyballlaw01_WideDivides.j0 : Nat → Bool → Int → Int → Int → Int → Int → Int → Int → Int → Int → Int → Option (Bool)
  | 0, _, _, _, _, _, _, _, _, _, _, _ => none
  | k + 1, x9, x5503000, x5503001, x5503002, x5504000, x5504001, x5515000, x5515001, x5515002, x5516000, x5516001 => if (x5504000 == 0 && (x5504001 == 0)) = true then (if x9 = true then (if (x5515000 == 0 && (x5515001 == 0 && (x5515002 == 0))) = true then (some (x5516000 == 0 && (x5516001 == 0))) else (none)) else (none)) else ((flyballlaw01_of3.f k x5503000 x5503001 x5503002).bind fun t5539 => ((flyballlaw01_of.f k x5504000 x5504001).bind fun t5542 => ((flyballref01_Div.f k t5539 t5542).bind fun bt5545 => ((flyballlaw01_is3.f k x5515000 x5515001 x5515002 bt5545.1).bind fun t5551 => ((flyballlaw01_is.f k x5516000 x5516001 bt5545.2).bind fun t5552 => (if x9 = true then (if t5551 = true then (some t5552) else (none)) else (none)))))))
def flyballlaw01_WideDivides.f (k : Nat) (a0_0 : Int) (a0_1 : Int) (a1 : Int) (a2_0 : Int) (a2_1 : Int) (a2_2 : Int) (a3_0 : Int) (a3_1 : Int) : Option (Bool) := (flyballlaw01_works.f k).bind fun t5504 => (if t5504 = true then ((wide_U128_Div.f k a0_0 a0_1 a1).bind fun bt5505 => ((wide_U192_Div.f k a2_0 a2_1 a2_2 a3_0 a3_1).bind fun bt5509 => (if a1 = 0 then (if (!(bt5505.1 == 0) || (!(bt5505.2.1 == 0))) = true then (some false) else (if bt5505.2.2 = 0 then (flyballlaw01_WideDivides.j0 k t5504 a2_0 a2_1 a2_2 a3_0 a3_1 bt5509.1 bt5509.2.1 bt5509.2.2.1 bt5509.2.2.2.1 bt5509.2.2.2.2) else (some false))) else ((flyballlaw01_of.f k a0_0 a0_1).bind fun t5516 => ((flyballref01_Of.f k (([a1] : List Int))).bind fun t5522 => ((flyballref01_Div.f k t5516 t5522).bind fun bt5525 => ((flyballlaw01_is.f k bt5505.1 bt5505.2.1 bt5525.1).bind fun t5531 => (if t5531 = true then ((flyballref01_Of.f k (([bt5505.2.2] : List Int))).bind fun t5535 => ((flyballref01_Cmp.f k t5535 bt5525.2).bind fun t5538 => (if t5538 = 0 then (flyballlaw01_WideDivides.j0 k t5504 a2_0 a2_1 a2_2 a3_0 a3_1 bt5509.1 bt5509.2.1 bt5509.2.2.1 bt5509.2.2.2.1 bt5509.2.2.2.2) else (some false)))) else (some false))))))))) else (some false))
theorem flyballlaw01_WideDivides.mono_l : ∀ k, (∀ y0 y1 y2 y3 y4 y5 y6 y7 y8 y9 y10, LeO (flyballlaw01_WideDivides.j0 k y0 y1 y2 y3 y4 y5 y6 y7 y8 y9 y10) (flyballlaw01_WideDivides.j0 (k + 1) y0 y1 y2 y3 y4 y5 y6 y7 y8 y9 y10))
  | 0 => fun _ _ _ _ _ _ _ _ _ _ _ r h => by simp [flyballlaw01_WideDivides.j0] at h
  | k + 1 => by
    have ih0 := flyballlaw01_WideDivides.mono_l k
    · intro y0 y1 y2 y3 y4 y5 y6 y7 y8 y9 y10
      unfold flyballlaw01_WideDivides.j0
      repeat' first
      | (with_reducible exact ih0 _ _ _ _ _ _ _ _ _ _ _)
      | (with_reducible exact flyballlaw01_is.mono _ _ _ _)
      | (with_reducible exact flyballlaw01_is3.mono _ _ _ _ _)
      | (with_reducible exact flyballlaw01_of.mono _ _ _)
      | (with_reducible exact flyballlaw01_of3.mono _ _ _ _)
      | (with_reducible exact flyballlaw01_works.mono _)
      | (with_reducible exact flyballref01_Cmp.mono _ _ _)
      | (with_reducible exact flyballref01_Div.mono _ _ _)
      | (with_reducible exact flyballref01_Of.mono _ _)
      | (with_reducible exact wide_U128_Div.mono _ _ _ _)
      | (with_reducible exact wide_U192_Div.mono _ _ _ _ _ _)
      | (with_reducible exact LeO.refl _)
      | (with_reducible exact LeO.none _)
      | (with_reducible refine LeO.ite ?_ ?_)
      | (with_reducible refine LeO.bind ?_ (fun _ => ?_))
      | exact ih0 _ _ _ _ _ _ _ _ _ _ _
      | exact flyballlaw01_is.mono _ _ _ _
      | exact flyballlaw01_is3.mono _ _ _ _ _
      | exact flyballlaw01_of.mono _ _ _
      | exact flyballlaw01_of3.mono _ _ _ _
      | exact flyballlaw01_works.mono _
      | exact flyballref01_Cmp.mono _ _ _
      | exact flyballref01_Div.mono _ _ _
      | exact flyballref01_Of.mono _ _
      | exact wide_U128_Div.mono _ _ _ _
      | exact wide_U192_Div.mono _ _ _ _ _ _
      | exact LeO.none _
      | refine LeO.ite ?_ ?_
      | refine LeO.bind ?_ (fun _ => ?_)
theorem flyballlaw01_WideDivides.mono : ∀ a0 a1 a2 a3 a4 a5 a6 a7 k, LeO (flyballlaw01_WideDivides.f k a0 a1 a2 a3 a4 a5 a6 a7) (flyballlaw01_WideDivides.f (k + 1) a0 a1 a2 a3 a4 a5 a6 a7) := by
  intro a0 a1 a2 a3 a4 a5 a6 a7 k
  have ih0 := flyballlaw01_WideDivides.mono_l k
  unfold flyballlaw01_WideDivides.f
  repeat' first
      | (with_reducible exact ih0 _ _ _ _ _ _ _ _ _ _ _)
      | (with_reducible exact flyballlaw01_is.mono _ _ _ _)
      | (with_reducible exact flyballlaw01_is3.mono _ _ _ _ _)
      | (with_reducible exact flyballlaw01_of.mono _ _ _)
      | (with_reducible exact flyballlaw01_of3.mono _ _ _ _)
      | (with_reducible exact flyballlaw01_works.mono _)
      | (with_reducible exact flyballref01_Cmp.mono _ _ _)
      | (with_reducible exact flyballref01_Div.mono _ _ _)
      | (with_reducible exact flyballref01_Of.mono _ _)
      | (with_reducible exact wide_U128_Div.mono _ _ _ _)
      | (with_reducible exact wide_U192_Div.mono _ _ _ _ _ _)
      | (with_reducible exact LeO.refl _)
      | (with_reducible exact LeO.none _)
      | (with_reducible refine LeO.ite ?_ ?_)
      | (with_reducible refine LeO.bind ?_ (fun _ => ?_))
      | exact ih0 _ _ _ _ _ _ _ _ _ _ _
      | exact flyballlaw01_is.mono _ _ _ _
      | exact flyballlaw01_is3.mono _ _ _ _ _
      | exact flyballlaw01_of.mono _ _ _
      | exact flyballlaw01_of3.mono _ _ _ _
      | exact flyballlaw01_works.mono _
      | exact flyballref01_Cmp.mono _ _ _
      | exact flyballref01_Div.mono _ _ _
      | exact flyballref01_Of.mono _ _
      | exact wide_U128_Div.mono _ _ _ _
      | exact wide_U192_Div.mono _ _ _ _ _ _
      | exact LeO.none _
      | refine LeO.ite ?_ ?_
      | refine LeO.bind ?_ (fun _ => ?_)
def flyballlaw01_WideDivides.T15 : Bool × List (List Nat × List Nat) := (true, [([], []), ([0], [0]), ([], []), ([2, 1], [2]), ([1, 3, 3], [1, 3]), ([4], [4]), ([5], [5]), ([5], [5]), ([6, 4, 0, 1, 2, 3, 4, 5, 6], [6]), ([7, 8, 0, 1, 2, 3, 4, 5, 6, 7, 8], [7])])
def flyballlaw01_WideDivides.B15 : List Nat := [0, 1, 0, 7, 15, 31, 63, 63, 127, 511]
theorem flyballlaw01_WideDivides.tab15 : rtab .any (opsOf Try.f3 15) = flyballlaw01_WideDivides.T15 := by kernel_rfl
theorem flyballlaw01_WideDivides.bits15 : waitsOk flyballlaw01_WideDivides.T15.2 flyballlaw01_WideDivides.B15 = true := by kernel_rfl
set_option maxHeartbeats 8000000 in
set_option maxRecDepth 100000 in
theorem flyballlaw01_WideDivides.calls (k : Nat) (a0_0 : Int) (a0_1 : Int) (a1 : Int) (a2_0 : Int) (a2_1 : Int) (a2_2 : Int) (a3_0 : Int) (a3_1 : Int) (r : Bool) (w : World) (h : flyballlaw01_WideDivides.f k a0_0 a0_1 a1 a2_0 a2_1 a2_2 a3_0 a3_1 = some r) :
    Calls Try.prog 3 #[.agg #[.int .u64 a0_0, .int .u64 a0_1], .int .u64 a1, .agg #[.int .u64 a2_0, .int .u64 a2_1, .int .u64 a2_2], .agg #[.int .u64 a3_0, .int .u64 a3_1]] w fun e w' => e = .returned (.bool r) ∧ Below w.heap.size w w' := by
  have hu24 := Try.underlying24
  have hu26 := Try.underlying26
  have HB := Aside0.mk (Below.refl w.heap.size w)
  have H := h
  clear h
  unfold flyballlaw01_WideDivides.f at H
  obtain ⟨t5504, A50, H⟩ := Option.bind_eq_some_iff.mp H
  have A5 := Aside0.mk A50
  clear A50
  (try dsimp only at H)
  by_cases c6 : t5504 = true
  · subst c6
    rw [if_pos rfl] at H
    obtain ⟨⟨t5505, t5506, t5507⟩, A70, H⟩ := Option.bind_eq_some_iff.mp H
    have A7 := Aside0.mk A70
    clear A70
    (try dsimp only at H)
    obtain ⟨⟨t5509, t5510, t5511, t5512, t5513⟩, A80, H⟩ := Option.bind_eq_some_iff.mp H
    have A8 := Aside0.mk A80
    clear A80
    (try dsimp only at H)
    have HC9 := Aside0.mk H
    clear H
    go_enter Try.func3, Try.ntmps3
    go_upto_if 37 with (first | ((with_reducible refine gate_dst (N := 4) rfl ?_); (try (refine gate_guard (by rfl) ?_; dsimp only)); refine kx 4 #[.int .u64 a0_0, .int .u64 a0_1] 24 ?_; intro gb5501 hg w10 hbox hb; have BK5501 := Aside0.mk (hbox); have GW5501 := kg HB hg; have GE5501 := kg HB hg; replace HB := kh HB hb; clear hb hbox hg) | ((with_reducible refine gate_dst (N := 6) rfl ?_); (try (refine gate_guard (by rfl) ?_; dsimp only)); refine kx 6 #[.int .u64 a2_0, .int .u64 a2_1, .int .u64 a2_2] 26 ?_; intro gb5502 hg w11 hbox hb; have BK5502 := Aside0.mk (hbox); have GW5502 := kg HB hg; have GE5502 := kg HB hg; have NB5501_5502 := kn BK5501 hg; have NB5502_5501 := km BK5501 hg; replace BK5501 := kb BK5501 hb; replace HB := kh HB hb; clear hb hbox hg) | ((with_reducible refine gate_dst (N := 7) rfl ?_); (try (refine gate_guard (by rfl) ?_; dsimp only)); refine kx 7 #[.int .u64 a3_0, .int .u64 a3_1] 24 ?_; intro gb5503 hg w12 hbox hb; have BK5503 := Aside0.mk (hbox); have GW5503 := kg HB hg; have GE5503 := kg HB hg; have NB5501_5503 := kn BK5501 hg; have NB5503_5501 := km BK5501 hg; have NB5502_5503 := kn BK5502 hg; have NB5503_5502 := km BK5502 hg; replace BK5501 := kb BK5501 hb; replace BK5502 := kb BK5502 hb; replace HB := kh HB hb; clear hb hbox hg) | ((with_reducible refine gate_callee (f := 11) rfl ?_); refine kc (some 21) Try.func11 #[] (flyballlaw01_works.calls k  true _ A5.out) ?_; intro w13 hb; replace BK5501 := kb BK5501 hb; replace BK5502 := kb BK5502 hb; replace BK5503 := kb BK5503 hb; replace HB := kh HB hb; (try clear hb); (try clear hb2); (try clear hk); (try clear hi); have hnb14 := NB5501_5502.out; have hnc14 := NB5502_5501.out; have hnb15 := NB5501_5503.out; have hnc15 := NB5503_5501.out; have hcz16_0 : w13.cell? ⟨gb5501, 0, none⟩ = some (.int .u64 a0_0) := bc BK5501 0; have hcz16_1 : w13.cell? ⟨gb5501, 1, none⟩ = some (.int .u64 a0_1) := bc BK5501 1; have hfz16_0 := blk_frozen BK5501.out 0; have hfz16_1 := blk_frozen BK5501.out 1) | ((with_reducible refine gate_callee (f := 12) rfl ?_); refine kc (some 27) Try.func12 #[.agg #[.int .u64 a0_0, .int .u64 a0_1], .int .u64 a1] (wide_U128_Div.calls k a0_0 a0_1 a1 t5505 t5506 t5507 _ A7.out) ?_; intro w17 hb; replace BK5501 := kb BK5501 hb; replace BK5502 := kb BK5502 hb; replace BK5503 := kb BK5503 hb; replace HB := kh HB hb; (try clear hb); (try clear hb2); (try clear hk); (try clear hi)) | ((with_reducible refine gate_dst (N := 10) rfl ?_); (try (refine gate_guard (by rfl) ?_; dsimp only)); refine kx 10 #[.int .u64 0, .int .u64 0] 24 ?_; intro gb5508 hg w18 hbox hb; have BK5508 := Aside0.mk (hbox); have GW5508 := kg HB hg; have GE5508 := kg HB hg; have NB5501_5508 := kn BK5501 hg; have NB5508_5501 := km BK5501 hg; have NB5502_5508 := kn BK5502 hg; have NB5508_5502 := km BK5502 hg; have NB5503_5508 := kn BK5503 hg; have NB5508_5503 := km BK5503 hg; replace BK5501 := kb BK5501 hb; replace BK5502 := kb BK5502 hb; replace BK5503 := kb BK5503 hb; replace HB := kh HB hb; clear hb hbox hg; have hnb19 := NB5508_5501.out; have hnc19 := NB5501_5508.out; have hnb20 := NB5508_5502.out; have hnc20 := NB5502_5508.out; have hnb21 := NB5508_5503.out; have hnc21 := NB5503_5508.out; have hcz22_0 : w18.cell? ⟨gb5508, 0, none⟩ = some (.int .u64 0) := bc BK5508 0; have hcz22_1 : w18.cell? ⟨gb5508, 1, none⟩ = some (.int .u64 0) := bc BK5508 1; have hfz22_0 := blk_frozen BK5508.out 0; have hfz22_1 := blk_frozen BK5508.out 1; have hnb23 := NB5502_5503.out; have hnc23 := NB5503_5502.out; have ⟨hcz24_0, hcz24_1, hcz24_2, hfz24_0, hfz24_1, hfz24_2⟩ := kz3f BK5502; have hcz25_0 : w18.cell? ⟨gb5503, 0, none⟩ = some (.int .u64 a3_0) := bc BK5503 0; have hcz25_1 : w18.cell? ⟨gb5503, 1, none⟩ = some (.int .u64 a3_1) := bc BK5503 1; have hfz25_0 := blk_frozen BK5503.out 0; have hfz25_1 := blk_frozen BK5503.out 1) | ((with_reducible refine gate_callee (f := 13) rfl ?_); refine kc (some 33) Try.func13 #[.agg #[.int .u64 a2_0, .int .u64 a2_1, .int .u64 a2_2], .agg #[.int .u64 a3_0, .int .u64 a3_1]] (wide_U192_Div.calls k a2_0 a2_1 a2_2 a3_0 a3_1 t5509 t5510 t5511 t5512 t5513 _ A8.out) ?_; intro w26 hb; replace BK5501 := kb BK5501 hb; replace BK5502 := kb BK5502 hb; replace BK5503 := kb BK5503 hb; replace BK5508 := kb (o' := .cells #[.int .u64 t5505, .int .u64 t5506] 24 (0, 0)) BK5508 hb; replace HB := kh HB hb; (try clear hb); (try clear hb2); (try clear hk); (try clear hi)) | ((with_reducible refine gate_dst (N := 12) rfl ?_); (try (refine gate_guard (by rfl) ?_; dsimp only)); refine kx 12 #[.int .u64 0, .int .u64 0, .int .u64 0] 26 ?_; intro gb5514 hg w27 hbox hb; have BK5514 := Aside0.mk (hbox); have GW5514 := kg HB hg; have GE5514 := kg HB hg; have NB5501_5514 := kn BK5501 hg; have NB5514_5501 := km BK5501 hg; have NB5502_5514 := kn BK5502 hg; have NB5514_5502 := km BK5502 hg; have NB5503_5514 := kn BK5503 hg; have NB5514_5503 := km BK5503 hg; have NB5508_5514 := kn BK5508 hg; have NB5514_5508 := km BK5508 hg; replace BK5501 := kb BK5501 hb; replace BK5502 := kb BK5502 hb; replace BK5503 := kb BK5503 hb; replace BK5508 := kb BK5508 hb; replace HB := kh HB hb; clear hb hbox hg) | ((with_reducible refine gate_dst (N := 13) rfl ?_); (try (refine gate_guard (by rfl) ?_; dsimp only)); refine kx 13 #[.int .u64 0, .int .u64 0] 24 ?_; intro gb5515 hg w28 hbox hb; have BK5515 := Aside0.mk (hbox); have GW5515 := kg HB hg; have GE5515 := kg HB hg; have NB5501_5515 := kn BK5501 hg; have NB5515_5501 := km BK5501 hg; have NB5502_5515 := kn BK5502 hg; have NB5515_5502 := km BK5502 hg; have NB5503_5515 := kn BK5503 hg; have NB5515_5503 := km BK5503 hg; have NB5508_5515 := kn BK5508 hg; have NB5515_5508 := km BK5508 hg; have NB5514_5515 := kn BK5514 hg; have NB5515_5514 := km BK5514 hg; replace BK5501 := kb BK5501 hb; replace BK5502 := kb BK5502 hb; replace BK5503 := kb BK5503 hb; replace BK5508 := kb BK5508 hb; replace BK5514 := kb BK5514 hb; replace HB := kh HB hb; clear hb hbox hg; have hnb29 := NB5514_5501.out; have hnc29 := NB5501_5514.out; have hnb30 := NB5514_5502.out; have hnc30 := NB5502_5514.out; have hnb31 := NB5514_5503.out; have hnc31 := NB5503_5514.out; have hnb32 := NB5514_5508.out; have hnc32 := NB5508_5514.out; have hnb33 := NB5514_5515.out; have hnc33 := NB5515_5514.out; have ⟨hcz34_0, hcz34_1, hcz34_2, hfz34_0, hfz34_1, hfz34_2⟩ := kz3f BK5514; have hnb35 := NB5515_5501.out; have hnc35 := NB5501_5515.out; have hnb36 := NB5515_5502.out; have hnc36 := NB5502_5515.out; have hnb37 := NB5515_5503.out; have hnc37 := NB5503_5515.out; have hnb38 := NB5515_5508.out; have hnc38 := NB5508_5515.out; have hcz39_0 : w28.cell? ⟨gb5515, 0, none⟩ = some (.int .u64 0) := bc BK5515 0; have hcz39_1 : w28.cell? ⟨gb5515, 1, none⟩ = some (.int .u64 0) := bc BK5515 1; have hfz39_0 := blk_frozen BK5515.out 0; have hfz39_1 := blk_frozen BK5515.out 1))
    (try simp only [Act.put, List.setIfInBounds_toArray, List.set_cons_zero, List.set_cons_succ])
    go_cut [] (fun wc => ∃ (kq : Nat), Aside0 (flyballlaw01_WideDivides.j0 kq true a2_0 a2_1 a2_2 a3_0 a3_1 t5509 t5510 t5511 t5512 t5513 = some r) ∧ Aside0 (kq ≤ k) ∧ Aside0 (wc.heap[gb5501]? = some (.cells #[.int .u64 a0_0, .int .u64 a0_1] 24 (0, 0))) ∧ Aside0 (wc.heap[gb5502]? = some (.cells #[.int .u64 a2_0, .int .u64 a2_1, .int .u64 a2_2] 26 (0, 0))) ∧ Aside0 (wc.heap[gb5503]? = some (.cells #[.int .u64 a3_0, .int .u64 a3_1] 24 (0, 0))) ∧ Aside0 (wc.heap[gb5508]? = some (.cells #[.int .u64 t5505, .int .u64 t5506] 24 (0, 0))) ∧ Aside0 (wc.heap[gb5514]? = some (.cells #[.int .u64 t5509, .int .u64 t5510, .int .u64 t5511] 26 (0, 0))) ∧ Aside0 (wc.heap[gb5515]? = some (.cells #[.int .u64 t5512, .int .u64 t5513] 24 (0, 0))) ∧ Aside0 (Below w.heap.size w wc))
    case first =>
      have H := HC9.out
      clear HC9
      by_cases c40 : a1 = 0
      · rw [if_pos c40] at H
        have c40b0 : (a1 == 0) = true := beq_iff_eq.mpr c40
        have c40b1 : (a1 != 0) = false := bne_eq_false_iff_eq.mpr c40
        clear c40
        (first | rw [c40b0] | (simp only [i64_w, i32_w]; rw [c40b0]) | skip)
        by_cases c41 : (!(t5505 == 0) || (!(t5506 == 0))) = true
        · rw [if_pos c41] at H
          have c41b0 : (!(t5505 == 0) || (!(t5506 == 0))) = true := c41
          clear c41
          obtain rfl := Option.some.inj H
          have hnb42 := NB5508_5501.out
          have hnc42 := NB5501_5508.out
          have hnb43 := NB5508_5502.out
          have hnc43 := NB5502_5508.out
          have hnb44 := NB5508_5503.out
          have hnc44 := NB5503_5508.out
          have hnb45 := NB5508_5514.out
          have hnc45 := NB5514_5508.out
          have hnb46 := NB5508_5515.out
          have hnc46 := NB5515_5508.out
          have hcz47_0 : w28.cell? ⟨gb5508, 0, none⟩ = some (.int .u64 t5505) := bc BK5508 0
          have hcz47_1 : w28.cell? ⟨gb5508, 1, none⟩ = some (.int .u64 t5506) := bc BK5508 1
          have hfz47_0 := blk_frozen BK5508.out 0
          have hfz47_1 := blk_frozen BK5508.out 1
          go_wp2
          go_ret
          exact ⟨pe, pl HB⟩
        · rw [if_neg c41] at H
          have c41b0 : (!(t5505 == 0) || (!(t5506 == 0))) = false := by simpa using c41
          clear c41
          by_cases c48 : t5507 = 0
          · rw [if_pos c48] at H
            have c48b0 : (t5507 == 0) = true := beq_iff_eq.mpr c48
            have c48b1 : (t5507 != 0) = false := bne_eq_false_iff_eq.mpr c48
            clear c48
            have H' := Aside0.mk H
            clear H
            have hnb49 := NB5508_5501.out
            have hnc49 := NB5501_5508.out
            have hnb50 := NB5508_5502.out
            have hnc50 := NB5502_5508.out
            have hnb51 := NB5508_5503.out
            have hnc51 := NB5503_5508.out
            have hnb52 := NB5508_5514.out
            have hnc52 := NB5514_5508.out
            have hnb53 := NB5508_5515.out
            have hnc53 := NB5515_5508.out
            have hcz54_0 : w28.cell? ⟨gb5508, 0, none⟩ = some (.int .u64 t5505) := bc BK5508 0
            have hcz54_1 : w28.cell? ⟨gb5508, 1, none⟩ = some (.int .u64 t5506) := bc BK5508 1
            have hfz54_0 := blk_frozen BK5508.out 0
            have hfz54_1 := blk_frozen BK5508.out 1
            go_wp2
            go_meet
            case rel => exact ⟨_, H', ⟨by first | omega | exact Nat.le_refl _⟩, ⟨pk BK5501⟩, ⟨pk BK5502⟩, ⟨pk BK5503⟩, ⟨pk BK5508⟩, ⟨pK BK5514⟩, ⟨pK BK5515⟩, ⟨pl HB⟩⟩
          · rw [if_neg c48] at H
            have c48b0 : (t5507 == 0) = false := beq_eq_false_iff_ne.mpr c48
            have c48b1 : (t5507 != 0) = true := bne_iff_ne.mpr c48
            obtain rfl := Option.some.inj H
            have hnb55 := NB5508_5501.out
            have hnc55 := NB5501_5508.out
            have hnb56 := NB5508_5502.out
            have hnc56 := NB5502_5508.out
            have hnb57 := NB5508_5503.out
            have hnc57 := NB5503_5508.out
            have hnb58 := NB5508_5514.out
            have hnc58 := NB5514_5508.out
            have hnb59 := NB5508_5515.out
            have hnc59 := NB5515_5508.out
            have hcz60_0 : w28.cell? ⟨gb5508, 0, none⟩ = some (.int .u64 t5505) := bc BK5508 0
            have hcz60_1 : w28.cell? ⟨gb5508, 1, none⟩ = some (.int .u64 t5506) := bc BK5508 1
            have hfz60_0 := blk_frozen BK5508.out 0
            have hfz60_1 := blk_frozen BK5508.out 1
            go_wp2
            go_ret
            exact ⟨pe, pl HB⟩
      · rw [if_neg c40] at H
        have c40b0 : (a1 == 0) = false := beq_eq_false_iff_ne.mpr c40
        have c40b1 : (a1 != 0) = true := bne_iff_ne.mpr c40
        (first | rw [c40b0] | (simp only [i64_w, i32_w]; rw [c40b0]) | skip)
        obtain ⟨t5516, A610, H⟩ := Option.bind_eq_some_iff.mp H
        have A61 := Aside0.mk A610
        clear A610
        (try dsimp only at H)
        obtain ⟨y5519, hy5519⟩ : ∃ y_ : List Int, y_ = (([a1] : List Int)) := ⟨_, rfl⟩
        replace H : ((flyballref01_Of.f k y5519).bind fun t5522 => ((flyballref01_Div.f k t5516 t5522).bind fun bt5525 => ((flyballlaw01_is.f k t5505 t5506 bt5525.1).bind fun t5531 => (if t5531 = true then ((flyballref01_Of.f k (([t5507] : List Int))).bind fun t5535 => ((flyballref01_Cmp.f k t5535 bt5525.2).bind fun t5538 => (if t5538 = 0 then (flyballlaw01_WideDivides.j0 k true a2_0 a2_1 a2_2 a3_0 a3_1 t5509 t5510 t5511 t5512 t5513) else (some false)))) else (some false))))) = some r := by first | (rw [hy5519]; with_reducible exact H) | (have H2_ := (Option.bind_some _ _).symm.trans H; rw [hy5519]; with_reducible exact H2_) | (have H2_ := (Option.bind_some _ _).symm.trans H; with_reducible exact H2_) | with_reducible exact H | (rw [hy5519]; exact H) | exact H
        have Ny5519 := Aside0.mk hy5519
        clear hy5519
        obtain ⟨t5522, A620, H⟩ := Option.bind_eq_some_iff.mp H
        have A62 := Aside0.mk A620
        clear A620
        (try dsimp only at H)
        obtain ⟨⟨t5525, t5526⟩, A630, H⟩ := Option.bind_eq_some_iff.mp H
        have A63 := Aside0.mk A630
        clear A630
        (try dsimp only at H)
        obtain ⟨t5531, A640, H⟩ := Option.bind_eq_some_iff.mp H
        have A64 := Aside0.mk A640
        clear A640
        (try dsimp only at H)
        by_cases c65 : t5531 = true
        · subst c65
          rw [if_pos rfl] at H
          obtain ⟨y5532, hy5532⟩ : ∃ y_ : List Int, y_ = (([t5507] : List Int)) := ⟨_, rfl⟩
          replace H : ((flyballref01_Of.f k y5532).bind fun t5535 => ((flyballref01_Cmp.f k t5535 t5526).bind fun t5538 => (if t5538 = 0 then (flyballlaw01_WideDivides.j0 k true a2_0 a2_1 a2_2 a3_0 a3_1 t5509 t5510 t5511 t5512 t5513) else (some false)))) = some r := by first | (rw [hy5532]; with_reducible exact H) | (have H2_ := (Option.bind_some _ _).symm.trans H; rw [hy5532]; with_reducible exact H2_) | (have H2_ := (Option.bind_some _ _).symm.trans H; with_reducible exact H2_) | with_reducible exact H | (rw [hy5532]; exact H) | exact H
          have Ny5532 := Aside0.mk hy5532
          clear hy5532
          obtain ⟨t5535, A660, H⟩ := Option.bind_eq_some_iff.mp H
          have A66 := Aside0.mk A660
          clear A660
          (try dsimp only at H)
          obtain ⟨t5538, A670, H⟩ := Option.bind_eq_some_iff.mp H
          have A67 := Aside0.mk A670
          clear A670
          (try dsimp only at H)
          by_cases c68 : t5538 = 0
          · rw [if_pos c68] at H
            have c68b0 : (t5538 == 0) = true := beq_iff_eq.mpr c68
            have c68b1 : (t5538 != 0) = false := bne_eq_false_iff_eq.mpr c68
            clear c68
            have H' := Aside0.mk H
            clear H
            have hnb69 := NB5501_5502.out
            have hnc69 := NB5502_5501.out
            have hnb70 := NB5501_5503.out
            have hnc70 := NB5503_5501.out
            have hnb71 := NB5501_5508.out
            have hnc71 := NB5508_5501.out
            have hnb72 := NB5501_5514.out
            have hnc72 := NB5514_5501.out
            have hnb73 := NB5501_5515.out
            have hnc73 := NB5515_5501.out
            have hcz74_0 : w28.cell? ⟨gb5501, 0, none⟩ = some (.int .u64 a0_0) := bc BK5501 0
            have hcz74_1 : w28.cell? ⟨gb5501, 1, none⟩ = some (.int .u64 a0_1) := bc BK5501 1
            have hfz74_0 := blk_frozen BK5501.out 0
            have hfz74_1 := blk_frozen BK5501.out 1
            go_wp2_with (first | ((with_reducible refine gate_callee (f := 15) rfl ?_); refine goesL_ (some 47) rfl rfl Try.func15 (by kernel_rfl) rfl #[.agg #[.int .u64 a0_0, .int .u64 a0_1]] rfl pa ?_; (with_reducible refine (flyballlaw01_of.calls k a0_0 a0_1 t5516 _ A61.out).mono ?_); rintro e w75 ⟨v5517, rfl, ho0, hb⟩; refine ⟨_, rfl, ?_⟩; have HO5518 := Aside0.mk (Kd.R_lower ho0 (below_size (pl HB))); replace BK5501 := kb BK5501 hb; replace BK5502 := kb BK5502 hb; replace BK5503 := kb BK5503 hb; replace BK5508 := kb BK5508 hb; replace BK5514 := kb (o' := .cells #[.int .u64 t5509, .int .u64 t5510, .int .u64 t5511] 26 (0, 0)) BK5514 hb; replace BK5515 := kb (o' := .cells #[.int .u64 t5512, .int .u64 t5513] 24 (0, 0)) BK5515 hb; replace HB := kh HB hb; (try clear hb); (try clear hb2); (try clear hk); (try clear hi); (try clear ho0)) | ((with_reducible refine gate_dst (N := 49) rfl ?_); (try (refine gate_guard (by rfl) ?_; dsimp only)); refine Kd.R_lit (Kd.int .u64) _ 22 ?hg (N := 49) ?hd (xs := ([a1] : List Int)) (inner := [.int .u64 a1]) (ok := fun _ => True) (okp := fun _ => True) ?hr ?hp (fun _ hk => hk) trivial (Below.refl _ _) (Nat.le_refl _) (by simp) ?_; (case hd => rfl); (case hg => rfl); (case hr => first | (go_simp; done) | (go_simp; rfl)); (case hp => exact (Reps.one (show Kd.M (Kd.int .u64) _ _ _ a1 [.int .u64 a1] from rfl) (Reps.none _ _))); intro v5520 w76 ho77 hb hg_ hnew_; clear hg_ hnew_; (first | rw [← Ny5519.out] at ho77 | (simp only [Int.reduceToNat] at ho77; rw [← Ny5519.out] at ho77)); have n0_ := Aside0.mk (Kd.R_below (by (with_reducible repeat (first | apply Kd.R_alloc | apply Kd.R_drewN | apply Kd.R_drew)); exact HO5518.out) hb); have n1_ := Aside0.mk (Kd.R_lower ho77 (below_size (pl HB))); have n2_ := kb BK5501 hb; have n3_ := kb BK5502 hb; have n4_ := kb BK5503 hb; have n5_ := kb BK5508 hb; have n6_ := kb BK5514 hb; have n7_ := kb BK5515 hb; have n8_ := kh HB hb; clear HO5518; clear BK5501; clear BK5502; clear BK5503; clear BK5508; clear BK5514; clear BK5515; clear HB; have HO5518 := n0_; have HO5521 := n1_; have BK5501 := n2_; have BK5502 := n3_; have BK5503 := n4_; have BK5508 := n5_; have BK5514 := n6_; have BK5515 := n7_; have HB := n8_; clear n0_ n1_ n2_ n3_ n4_ n5_ n6_ n7_ n8_; clear hb ho77; obtain ⟨Ao78, co78, eo78⟩ := Kd.R_slice HO5521.out; subst eo78) | ((with_reducible refine gate_callee (f := 16) rfl ?_); refine goesL_ (some 50) rfl rfl Try.func16 (by kernel_rfl) rfl #[.slice Ao78 y5519.length co78] rfl pa ?_; (with_reducible refine (flyballref01_Of.calls k _ _ y5519 t5522 _ ?side1 ?side2 A62.out).mono ?_); (case side1 => repeat (first | exact (Kd.R_reads' HO5521.out).2.2 | (with_reducible refine Kd.C_alloc ?_ _) | (with_reducible refine Kd.C_drewN ?_ _) | (with_reducible refine Kd.C_drew ?_))); (case side2 => exact (Kd.R_reads' HO5521.out).2.1); rintro e w79 ⟨v5523, rfl, ho0, hb⟩; refine ⟨_, rfl, ?_⟩; have n0_ := Aside0.mk (Kd.R_elder' (by (with_reducible repeat (first | apply Kd.R_alloc | apply Kd.R_drewN | apply Kd.R_drew)); exact HO5518.out) (Kd.R_base ho0) hb); have n1_ := Aside0.mk (Kd.R_below (by (with_reducible repeat (first | apply Kd.R_alloc | apply Kd.R_drewN | apply Kd.R_drew)); exact HO5521.out) hb); have n2_ := Aside0.mk (Kd.R_lower (Kd.R_new' ho0 (Kd.R_lt (by (with_reducible repeat (first | apply Kd.R_alloc | apply Kd.R_drewN | apply Kd.R_drew)); exact HO5518.out))) (below_size (pl HB))); have n3_ := kb BK5501 hb; have n4_ := kb BK5502 hb; have n5_ := kb BK5503 hb; have n6_ := kb BK5508 hb; have n7_ := kb BK5514 hb; have n8_ := kb BK5515 hb; have n9_ := kh HB hb; clear HO5518; clear HO5521; clear BK5501; clear BK5502; clear BK5503; clear BK5508; clear BK5514; clear BK5515; clear HB; have HO5518 := n0_; have HO5521 := n1_; have HO5524 := n2_; have BK5501 := n3_; have BK5502 := n4_; have BK5503 := n5_; have BK5508 := n6_; have BK5514 := n7_; have BK5515 := n8_; have HB := n9_; clear n0_ n1_ n2_ n3_ n4_ n5_ n6_ n7_ n8_ n9_; (try clear hb); (try clear hb2); (try clear hk); (try clear hi); (try clear ho0); obtain ⟨Ao80, co80, eo80⟩ := Kd.R_slice HO5518.out; subst eo80; obtain ⟨Ao81, co81, eo81⟩ := Kd.R_slice HO5524.out; subst eo81) | ((with_reducible refine gate_callee (f := 14) rfl ?_); refine goesL_ (some 51) rfl rfl Try.func14 (by kernel_rfl) rfl #[.slice Ao80 t5516.length co80, .slice Ao81 t5522.length co81] rfl pa ?_; (with_reducible refine (flyballref01_Div.calls k _ _ t5516 _ _ t5522 t5525 t5526 _ ?side1 ?side2 ?side3 ?side4 A63.out).mono ?_); (case side1 => repeat (first | exact (Kd.R_reads' HO5518.out).2.2 | (with_reducible refine Kd.C_alloc ?_ _) | (with_reducible refine Kd.C_drewN ?_ _) | (with_reducible refine Kd.C_drew ?_))); (case side2 => exact (Kd.R_reads' HO5518.out).2.1); (case side3 => repeat (first | exact (Kd.R_reads' HO5524.out).2.2 | (with_reducible refine Kd.C_alloc ?_ _) | (with_reducible refine Kd.C_drewN ?_ _) | (with_reducible refine Kd.C_drew ?_))); (case side4 => exact (Kd.R_reads' HO5524.out).2.1); rintro e w82 ⟨v5527, v5529, rfl, ho0, ho1, hb⟩; refine ⟨_, rfl, ?_⟩; have n0_ := Aside0.mk (Kd.R_mono (Kd.R_told (Kd.R_told (Kd.R_old (by (with_reducible repeat (first | apply Kd.R_alloc | apply Kd.R_drewN | apply Kd.R_drew)); exact HO5518.out) hb) (Kd.R_base ho0)) (Kd.R_base ho1)) (fun _ h_ => h_.1)); have n1_ := Aside0.mk (Kd.R_below (by (with_reducible repeat (first | apply Kd.R_alloc | apply Kd.R_drewN | apply Kd.R_drew)); exact HO5521.out) hb); have n2_ := Aside0.mk (Kd.R_mono (Kd.R_told (Kd.R_told (Kd.R_old (by (with_reducible repeat (first | apply Kd.R_alloc | apply Kd.R_drewN | apply Kd.R_drew)); exact HO5524.out) hb) (Kd.R_base ho0)) (Kd.R_base ho1)) (fun _ h_ => h_.1)); have n3_ := Aside0.mk (Kd.R_lower (Kd.R_new' (Kd.R_new' ho0 (Kd.R_lt (by (with_reducible repeat (first | apply Kd.R_alloc | apply Kd.R_drewN | apply Kd.R_drew)); exact HO5518.out))) (Kd.R_lt (by (with_reducible repeat (first | apply Kd.R_alloc | apply Kd.R_drewN | apply Kd.R_drew)); exact HO5524.out))) (below_size (pl HB))); have n4_ := Aside0.mk (Kd.R_lower (Kd.R_new' (Kd.R_new' ho1 (Kd.R_lt (by (with_reducible repeat (first | apply Kd.R_alloc | apply Kd.R_drewN | apply Kd.R_drew)); exact HO5518.out))) (Kd.R_lt (by (with_reducible repeat (first | apply Kd.R_alloc | apply Kd.R_drewN | apply Kd.R_drew)); exact HO5524.out))) (below_size (pl HB))); have n5_ := kb BK5501 hb; have n6_ := kb BK5502 hb; have n7_ := kb BK5503 hb; have n8_ := kb BK5508 hb; have n9_ := kb BK5514 hb; have n10_ := kb BK5515 hb; have n11_ := kh HB hb; clear HO5518; clear HO5521; clear HO5524; clear BK5501; clear BK5502; clear BK5503; clear BK5508; clear BK5514; clear BK5515; clear HB; have HO5518 := n0_; have HO5521 := n1_; have HO5524 := n2_; have HO5528 := n3_; have HO5530 := n4_; have BK5501 := n5_; have BK5502 := n6_; have BK5503 := n7_; have BK5508 := n8_; have BK5514 := n9_; have BK5515 := n10_; have HB := n11_; clear n0_ n1_ n2_ n3_ n4_ n5_ n6_ n7_ n8_ n9_ n10_ n11_; (try clear hb); (try clear hb2); (try clear hk); (try clear hi); (try clear ho0); (try clear ho1); have hnb83 := NB5508_5502.out; have hnc83 := NB5502_5508.out; have hnb84 := NB5508_5503.out; have hnc84 := NB5503_5508.out; have hnb85 := NB5508_5514.out; have hnc85 := NB5514_5508.out; have hnb86 := NB5508_5515.out; have hnc86 := NB5515_5508.out; have hcz87_0 : w82.cell? ⟨gb5508, 0, none⟩ = some (.int .u64 t5505) := bc BK5508 0; have hcz87_1 : w82.cell? ⟨gb5508, 1, none⟩ = some (.int .u64 t5506) := bc BK5508 1; have hfz87_0 := blk_frozen BK5508.out 0; have hfz87_1 := blk_frozen BK5508.out 1; obtain ⟨Ao88, co88, eo88⟩ := Kd.R_slice HO5528.out; subst eo88) | ((with_reducible refine gate_callee (f := 17) rfl ?_); refine goesL_ (some 56) rfl rfl Try.func17 (by kernel_rfl) rfl #[.agg #[.int .u64 t5505, .int .u64 t5506], .slice Ao88 t5525.length co88] rfl pa ?_; (with_reducible refine (flyballlaw01_is.calls k t5505 t5506 _ _ t5525 true _ ?side1 ?side2 A64.out).mono ?_); (case side1 => repeat (first | exact (Kd.R_reads' HO5528.out).2.2 | (with_reducible refine Kd.C_alloc ?_ _) | (with_reducible refine Kd.C_drewN ?_ _) | (with_reducible refine Kd.C_drew ?_))); (case side2 => exact (Kd.R_reads' HO5528.out).2.1); rintro e w89 ⟨rfl, hb⟩; refine ⟨_, rfl, ?_⟩; have n0_ := Aside0.mk (Kd.R_below (by (with_reducible repeat (first | apply Kd.R_alloc | apply Kd.R_drewN | apply Kd.R_drew)); exact HO5518.out) hb); have n1_ := Aside0.mk (Kd.R_below (by (with_reducible repeat (first | apply Kd.R_alloc | apply Kd.R_drewN | apply Kd.R_drew)); exact HO5521.out) hb); have n2_ := Aside0.mk (Kd.R_below (by (with_reducible repeat (first | apply Kd.R_alloc | apply Kd.R_drewN | apply Kd.R_drew)); exact HO5524.out) hb); have n3_ := Aside0.mk (Kd.R_below (by (with_reducible repeat (first | apply Kd.R_alloc | apply Kd.R_drewN | apply Kd.R_drew)); exact HO5528.out) hb); have n4_ := Aside0.mk (Kd.R_below (by (with_reducible repeat (first | apply Kd.R_alloc | apply Kd.R_drewN | apply Kd.R_drew)); exact HO5530.out) hb); have n5_ := kb BK5501 hb; have n6_ := kb BK5502 hb; have n7_ := kb BK5503 hb; have n8_ := kb BK5508 hb; have n9_ := kb BK5514 hb; have n10_ := kb BK5515 hb; have n11_ := kh HB hb; clear HO5518; clear HO5521; clear HO5524; clear HO5528; clear HO5530; clear BK5501; clear BK5502; clear BK5503; clear BK5508; clear BK5514; clear BK5515; clear HB; have HO5518 := n0_; have HO5521 := n1_; have HO5524 := n2_; have HO5528 := n3_; have HO5530 := n4_; have BK5501 := n5_; have BK5502 := n6_; have BK5503 := n7_; have BK5508 := n8_; have BK5514 := n9_; have BK5515 := n10_; have HB := n11_; clear n0_ n1_ n2_ n3_ n4_ n5_ n6_ n7_ n8_ n9_ n10_ n11_; (try clear hb); (try clear hb2); (try clear hk); (try clear hi)) | ((with_reducible refine gate_dst (N := 61) rfl ?_); (try (refine gate_guard (by rfl) ?_; dsimp only)); refine Kd.R_lit (Kd.int .u64) _ 22 ?hg (N := 61) ?hd (xs := ([t5507] : List Int)) (inner := [.int .u64 t5507]) (ok := fun _ => True) (okp := fun _ => True) ?hr ?hp (fun _ hk => hk) trivial (Below.refl _ _) (Nat.le_refl _) (by simp) ?_; (case hd => rfl); (case hg => rfl); (case hr => first | (go_simp; done) | (go_simp; rfl)); (case hp => exact (Reps.one (show Kd.M (Kd.int .u64) _ _ _ t5507 [.int .u64 t5507] from rfl) (Reps.none _ _))); intro v5533 w90 ho91 hb hg_ hnew_; clear hg_ hnew_; (first | rw [← Ny5532.out] at ho91 | (simp only [Int.reduceToNat] at ho91; rw [← Ny5532.out] at ho91)); have n0_ := Aside0.mk (Kd.R_below (by (with_reducible repeat (first | apply Kd.R_alloc | apply Kd.R_drewN | apply Kd.R_drew)); exact HO5518.out) hb); have n1_ := Aside0.mk (Kd.R_elder' (by (with_reducible repeat (first | apply Kd.R_alloc | apply Kd.R_drewN | apply Kd.R_drew)); exact HO5521.out) (Kd.R_base ho91) hb); have n2_ := Aside0.mk (Kd.R_below (by (with_reducible repeat (first | apply Kd.R_alloc | apply Kd.R_drewN | apply Kd.R_drew)); exact HO5524.out) hb); have n3_ := Aside0.mk (Kd.R_below (by (with_reducible repeat (first | apply Kd.R_alloc | apply Kd.R_drewN | apply Kd.R_drew)); exact HO5528.out) hb); have n4_ := Aside0.mk (Kd.R_below (by (with_reducible repeat (first | apply Kd.R_alloc | apply Kd.R_drewN | apply Kd.R_drew)); exact HO5530.out) hb); have n5_ := Aside0.mk (Kd.R_lower (Kd.R_new' ho91 (Kd.R_lt (by (with_reducible repeat (first | apply Kd.R_alloc | apply Kd.R_drewN | apply Kd.R_drew)); exact HO5521.out))) (below_size (pl HB))); have n6_ := kb BK5501 hb; have n7_ := kb BK5502 hb; have n8_ := kb BK5503 hb; have n9_ := kb BK5508 hb; have n10_ := kb BK5514 hb; have n11_ := kb BK5515 hb; have n12_ := kh HB hb; clear HO5518; clear HO5521; clear HO5524; clear HO5528; clear HO5530; clear BK5501; clear BK5502; clear BK5503; clear BK5508; clear BK5514; clear BK5515; clear HB; have HO5518 := n0_; have HO5521 := n1_; have HO5524 := n2_; have HO5528 := n3_; have HO5530 := n4_; have HO5534 := n5_; have BK5501 := n6_; have BK5502 := n7_; have BK5503 := n8_; have BK5508 := n9_; have BK5514 := n10_; have BK5515 := n11_; have HB := n12_; clear n0_ n1_ n2_ n3_ n4_ n5_ n6_ n7_ n8_ n9_ n10_ n11_ n12_; clear hb ho91; obtain ⟨Ao92, co92, eo92⟩ := Kd.R_slice HO5534.out; subst eo92) | (go_at_call 16; (with_reducible refine (flyballref01_Of.calls k _ _ y5532 t5535 _ ?side1 ?side2 A66.out).mono ?_); (case side1 => repeat (first | exact (Kd.R_reads' HO5534.out).2.2 | (with_reducible refine Kd.C_alloc ?_ _) | (with_reducible refine Kd.C_drewN ?_ _) | (with_reducible refine Kd.C_drew ?_))); (case side2 => exact (Kd.R_reads' HO5534.out).2.1); rintro e w93 ⟨v5536, rfl, ho0, hb⟩; have n0_ := Aside0.mk (Kd.R_elder' (by (with_reducible repeat (first | apply Kd.R_alloc | apply Kd.R_drewN | apply Kd.R_drew)); exact HO5518.out) (Kd.R_base ho0) hb); have n1_ := Aside0.mk (Kd.R_below (by (with_reducible repeat (first | apply Kd.R_alloc | apply Kd.R_drewN | apply Kd.R_drew)); exact HO5521.out) hb); have n2_ := Aside0.mk (Kd.R_elder' (by (with_reducible repeat (first | apply Kd.R_alloc | apply Kd.R_drewN | apply Kd.R_drew)); exact HO5524.out) (Kd.R_base ho0) hb); have n3_ := Aside0.mk (Kd.R_elder' (by (with_reducible repeat (first | apply Kd.R_alloc | apply Kd.R_drewN | apply Kd.R_drew)); exact HO5528.out) (Kd.R_base ho0) hb); have n4_ := Aside0.mk (Kd.R_elder' (by (with_reducible repeat (first | apply Kd.R_alloc | apply Kd.R_drewN | apply Kd.R_drew)); exact HO5530.out) (Kd.R_base ho0) hb); have n5_ := Aside0.mk (Kd.R_below (by (with_reducible repeat (first | apply Kd.R_alloc | apply Kd.R_drewN | apply Kd.R_drew)); exact HO5534.out) hb); have n6_ := Aside0.mk (Kd.R_lower (Kd.R_new' (Kd.R_new' (Kd.R_new' (Kd.R_new' ho0 (Kd.R_lt (by (with_reducible repeat (first | apply Kd.R_alloc | apply Kd.R_drewN | apply Kd.R_drew)); exact HO5518.out))) (Kd.R_lt (by (with_reducible repeat (first | apply Kd.R_alloc | apply Kd.R_drewN | apply Kd.R_drew)); exact HO5524.out))) (Kd.R_lt (by (with_reducible repeat (first | apply Kd.R_alloc | apply Kd.R_drewN | apply Kd.R_drew)); exact HO5528.out))) (Kd.R_lt (by (with_reducible repeat (first | apply Kd.R_alloc | apply Kd.R_drewN | apply Kd.R_drew)); exact HO5530.out))) (below_size (pl HB))); have n7_ := kb BK5501 hb; have n8_ := kb BK5502 hb; have n9_ := kb BK5503 hb; have n10_ := kb BK5508 hb; have n11_ := kb BK5514 hb; have n12_ := kb BK5515 hb; have n13_ := kh HB hb; clear HO5518; clear HO5521; clear HO5524; clear HO5528; clear HO5530; clear HO5534; clear BK5501; clear BK5502; clear BK5503; clear BK5508; clear BK5514; clear BK5515; clear HB; have HO5518 := n0_; have HO5521 := n1_; have HO5524 := n2_; have HO5528 := n3_; have HO5530 := n4_; have HO5534 := n5_; have HO5537 := n6_; have BK5501 := n7_; have BK5502 := n8_; have BK5503 := n9_; have BK5508 := n10_; have BK5514 := n11_; have BK5515 := n12_; have HB := n13_; clear n0_ n1_ n2_ n3_ n4_ n5_ n6_ n7_ n8_ n9_ n10_ n11_ n12_ n13_; (try clear hb); (try clear hb2); (try clear hk); (try clear hi); (try clear ho0); obtain ⟨Ao94, co94, eo94⟩ := Kd.R_slice HO5537.out; subst eo94; obtain ⟨Ao95, co95, eo95⟩ := Kd.R_slice HO5530.out; subst eo95) | (go_at_call 18; (with_reducible refine (flyballref01_Cmp.calls k _ _ t5535 _ _ t5526 t5538 _ ?side1 ?side2 ?side3 ?side4 A67.out).mono ?_); (case side1 => repeat (first | exact (Kd.R_reads' HO5537.out).2.2 | (with_reducible refine Kd.C_alloc ?_ _) | (with_reducible refine Kd.C_drewN ?_ _) | (with_reducible refine Kd.C_drew ?_))); (case side2 => exact (Kd.R_reads' HO5537.out).2.1); (case side3 => repeat (first | exact (Kd.R_reads' HO5530.out).2.2 | (with_reducible refine Kd.C_alloc ?_ _) | (with_reducible refine Kd.C_drewN ?_ _) | (with_reducible refine Kd.C_drew ?_))); (case side4 => exact (Kd.R_reads' HO5530.out).2.1); rintro e w96 ⟨rfl, hb⟩; have n0_ := Aside0.mk (Kd.R_below (by (with_reducible repeat (first | apply Kd.R_alloc | apply Kd.R_drewN | apply Kd.R_drew)); exact HO5518.out) hb); have n1_ := Aside0.mk (Kd.R_below (by (with_reducible repeat (first | apply Kd.R_alloc | apply Kd.R_drewN | apply Kd.R_drew)); exact HO5521.out) hb); have n2_ := Aside0.mk (Kd.R_below (by (with_reducible repeat (first | apply Kd.R_alloc | apply Kd.R_drewN | apply Kd.R_drew)); exact HO5524.out) hb); have n3_ := Aside0.mk (Kd.R_below (by (with_reducible repeat (first | apply Kd.R_alloc | apply Kd.R_drewN | apply Kd.R_drew)); exact HO5528.out) hb); have n4_ := Aside0.mk (Kd.R_below (by (with_reducible repeat (first | apply Kd.R_alloc | apply Kd.R_drewN | apply Kd.R_drew)); exact HO5530.out) hb); have n5_ := Aside0.mk (Kd.R_below (by (with_reducible repeat (first | apply Kd.R_alloc | apply Kd.R_drewN | apply Kd.R_drew)); exact HO5534.out) hb); have n6_ := Aside0.mk (Kd.R_below (by (with_reducible repeat (first | apply Kd.R_alloc | apply Kd.R_drewN | apply Kd.R_drew)); exact HO5537.out) hb); have n7_ := kb BK5501 hb; have n8_ := kb BK5502 hb; have n9_ := kb BK5503 hb; have n10_ := kb BK5508 hb; have n11_ := kb BK5514 hb; have n12_ := kb BK5515 hb; have n13_ := kh HB hb; clear HO5518; clear HO5521; clear HO5524; clear HO5528; clear HO5530; clear HO5534; clear HO5537; clear BK5501; clear BK5502; clear BK5503; clear BK5508; clear BK5514; clear BK5515; clear HB; have HO5518 := n0_; have HO5521 := n1_; have HO5524 := n2_; have HO5528 := n3_; have HO5530 := n4_; have HO5534 := n5_; have HO5537 := n6_; have BK5501 := n7_; have BK5502 := n8_; have BK5503 := n9_; have BK5508 := n10_; have BK5514 := n11_; have BK5515 := n12_; have HB := n13_; clear n0_ n1_ n2_ n3_ n4_ n5_ n6_ n7_ n8_ n9_ n10_ n11_ n12_ n13_; (try clear hb); (try clear hb2); (try clear hk); (try clear hi)))
            go_meet
            case rel => exact ⟨_, H', ⟨by first | omega | exact Nat.le_refl _⟩, ⟨pk BK5501⟩, ⟨pk BK5502⟩, ⟨pk BK5503⟩, ⟨pk BK5508⟩, ⟨pk BK5514⟩, ⟨pk BK5515⟩, ⟨pl HB⟩⟩
          · rw [if_neg c68] at H
            have c68b0 : (t5538 == 0) = false := beq_eq_false_iff_ne.mpr c68
            have c68b1 : (t5538 != 0) = true := bne_iff_ne.mpr c68
            obtain rfl := Option.some.inj H
            have hnb97 := NB5501_5502.out
            have hnc97 := NB5502_5501.out
            have hnb98 := NB5501_5503.out
            have hnc98 := NB5503_5501.out
            have hnb99 := NB5501_5508.out
            have hnc99 := NB5508_5501.out
            have hnb100 := NB5501_5514.out
            have hnc100 := NB5514_5501.out
            have hnb101 := NB5501_5515.out
            have hnc101 := NB5515_5501.out
            have hcz102_0 : w28.cell? ⟨gb5501, 0, none⟩ = some (.int .u64 a0_0) := bc BK5501 0
            have hcz102_1 : w28.cell? ⟨gb5501, 1, none⟩ = some (.int .u64 a0_1) := bc BK5501 1
            have hfz102_0 := blk_frozen BK5501.out 0
            have hfz102_1 := blk_frozen BK5501.out 1
            go_wp2_with (first | ((with_reducible refine gate_callee (f := 15) rfl ?_); refine goesL_ (some 47) rfl rfl Try.func15 (by kernel_rfl) rfl #[.agg #[.int .u64 a0_0, .int .u64 a0_1]] rfl pa ?_; (with_reducible refine (flyballlaw01_of.calls k a0_0 a0_1 t5516 _ A61.out).mono ?_); rintro e w103 ⟨v5517, rfl, ho0, hb⟩; refine ⟨_, rfl, ?_⟩; have HO5518 := Aside0.mk (Kd.R_lower ho0 (below_size (pl HB))); replace BK5501 := kb BK5501 hb; replace BK5502 := kb BK5502 hb; replace BK5503 := kb BK5503 hb; replace BK5508 := kb BK5508 hb; replace BK5514 := kb (o' := .cells #[.int .u64 t5509, .int .u64 t5510, .int .u64 t5511] 26 (0, 0)) BK5514 hb; replace BK5515 := kb (o' := .cells #[.int .u64 t5512, .int .u64 t5513] 24 (0, 0)) BK5515 hb; replace HB := kh HB hb; (try clear hb); (try clear hb2); (try clear hk); (try clear hi); (try clear ho0)) | ((with_reducible refine gate_dst (N := 49) rfl ?_); (try (refine gate_guard (by rfl) ?_; dsimp only)); refine Kd.R_lit (Kd.int .u64) _ 22 ?hg (N := 49) ?hd (xs := ([a1] : List Int)) (inner := [.int .u64 a1]) (ok := fun _ => True) (okp := fun _ => True) ?hr ?hp (fun _ hk => hk) trivial (Below.refl _ _) (Nat.le_refl _) (by simp) ?_; (case hd => rfl); (case hg => rfl); (case hr => first | (go_simp; done) | (go_simp; rfl)); (case hp => exact (Reps.one (show Kd.M (Kd.int .u64) _ _ _ a1 [.int .u64 a1] from rfl) (Reps.none _ _))); intro v5520 w104 ho105 hb hg_ hnew_; clear hg_ hnew_; (first | rw [← Ny5519.out] at ho105 | (simp only [Int.reduceToNat] at ho105; rw [← Ny5519.out] at ho105)); have n0_ := Aside0.mk (Kd.R_below (by (with_reducible repeat (first | apply Kd.R_alloc | apply Kd.R_drewN | apply Kd.R_drew)); exact HO5518.out) hb); have n1_ := Aside0.mk (Kd.R_lower ho105 (below_size (pl HB))); have n2_ := kb BK5501 hb; have n3_ := kb BK5502 hb; have n4_ := kb BK5503 hb; have n5_ := kb BK5508 hb; have n6_ := kb BK5514 hb; have n7_ := kb BK5515 hb; have n8_ := kh HB hb; clear HO5518; clear BK5501; clear BK5502; clear BK5503; clear BK5508; clear BK5514; clear BK5515; clear HB; have HO5518 := n0_; have HO5521 := n1_; have BK5501 := n2_; have BK5502 := n3_; have BK5503 := n4_; have BK5508 := n5_; have BK5514 := n6_; have BK5515 := n7_; have HB := n8_; clear n0_ n1_ n2_ n3_ n4_ n5_ n6_ n7_ n8_; clear hb ho105; obtain ⟨Ao106, co106, eo106⟩ := Kd.R_slice HO5521.out; subst eo106) | ((with_reducible refine gate_callee (f := 16) rfl ?_); refine goesL_ (some 50) rfl rfl Try.func16 (by kernel_rfl) rfl #[.slice Ao106 y5519.length co106] rfl pa ?_; (with_reducible refine (flyballref01_Of.calls k _ _ y5519 t5522 _ ?side1 ?side2 A62.out).mono ?_); (case side1 => repeat (first | exact (Kd.R_reads' HO5521.out).2.2 | (with_reducible refine Kd.C_alloc ?_ _) | (with_reducible refine Kd.C_drewN ?_ _) | (with_reducible refine Kd.C_drew ?_))); (case side2 => exact (Kd.R_reads' HO5521.out).2.1); rintro e w107 ⟨v5523, rfl, ho0, hb⟩; refine ⟨_, rfl, ?_⟩; have n0_ := Aside0.mk (Kd.R_elder' (by (with_reducible repeat (first | apply Kd.R_alloc | apply Kd.R_drewN | apply Kd.R_drew)); exact HO5518.out) (Kd.R_base ho0) hb); have n1_ := Aside0.mk (Kd.R_below (by (with_reducible repeat (first | apply Kd.R_alloc | apply Kd.R_drewN | apply Kd.R_drew)); exact HO5521.out) hb); have n2_ := Aside0.mk (Kd.R_lower (Kd.R_new' ho0 (Kd.R_lt (by (with_reducible repeat (first | apply Kd.R_alloc | apply Kd.R_drewN | apply Kd.R_drew)); exact HO5518.out))) (below_size (pl HB))); have n3_ := kb BK5501 hb; have n4_ := kb BK5502 hb; have n5_ := kb BK5503 hb; have n6_ := kb BK5508 hb; have n7_ := kb BK5514 hb; have n8_ := kb BK5515 hb; have n9_ := kh HB hb; clear HO5518; clear HO5521; clear BK5501; clear BK5502; clear BK5503; clear BK5508; clear BK5514; clear BK5515; clear HB; have HO5518 := n0_; have HO5521 := n1_; have HO5524 := n2_; have BK5501 := n3_; have BK5502 := n4_; have BK5503 := n5_; have BK5508 := n6_; have BK5514 := n7_; have BK5515 := n8_; have HB := n9_; clear n0_ n1_ n2_ n3_ n4_ n5_ n6_ n7_ n8_ n9_; (try clear hb); (try clear hb2); (try clear hk); (try clear hi); (try clear ho0); obtain ⟨Ao108, co108, eo108⟩ := Kd.R_slice HO5518.out; subst eo108; obtain ⟨Ao109, co109, eo109⟩ := Kd.R_slice HO5524.out; subst eo109) | ((with_reducible refine gate_callee (f := 14) rfl ?_); refine goesL_ (some 51) rfl rfl Try.func14 (by kernel_rfl) rfl #[.slice Ao108 t5516.length co108, .slice Ao109 t5522.length co109] rfl pa ?_; (with_reducible refine (flyballref01_Div.calls k _ _ t5516 _ _ t5522 t5525 t5526 _ ?side1 ?side2 ?side3 ?side4 A63.out).mono ?_); (case side1 => repeat (first | exact (Kd.R_reads' HO5518.out).2.2 | (with_reducible refine Kd.C_alloc ?_ _) | (with_reducible refine Kd.C_drewN ?_ _) | (with_reducible refine Kd.C_drew ?_))); (case side2 => exact (Kd.R_reads' HO5518.out).2.1); (case side3 => repeat (first | exact (Kd.R_reads' HO5524.out).2.2 | (with_reducible refine Kd.C_alloc ?_ _) | (with_reducible refine Kd.C_drewN ?_ _) | (with_reducible refine Kd.C_drew ?_))); (case side4 => exact (Kd.R_reads' HO5524.out).2.1); rintro e w110 ⟨v5527, v5529, rfl, ho0, ho1, hb⟩; refine ⟨_, rfl, ?_⟩; have n0_ := Aside0.mk (Kd.R_mono (Kd.R_told (Kd.R_told (Kd.R_old (by (with_reducible repeat (first | apply Kd.R_alloc | apply Kd.R_drewN | apply Kd.R_drew)); exact HO5518.out) hb) (Kd.R_base ho0)) (Kd.R_base ho1)) (fun _ h_ => h_.1)); have n1_ := Aside0.mk (Kd.R_below (by (with_reducible repeat (first | apply Kd.R_alloc | apply Kd.R_drewN | apply Kd.R_drew)); exact HO5521.out) hb); have n2_ := Aside0.mk (Kd.R_mono (Kd.R_told (Kd.R_told (Kd.R_old (by (with_reducible repeat (first | apply Kd.R_alloc | apply Kd.R_drewN | apply Kd.R_drew)); exact HO5524.out) hb) (Kd.R_base ho0)) (Kd.R_base ho1)) (fun _ h_ => h_.1)); have n3_ := Aside0.mk (Kd.R_lower (Kd.R_new' (Kd.R_new' ho0 (Kd.R_lt (by (with_reducible repeat (first | apply Kd.R_alloc | apply Kd.R_drewN | apply Kd.R_drew)); exact HO5518.out))) (Kd.R_lt (by (with_reducible repeat (first | apply Kd.R_alloc | apply Kd.R_drewN | apply Kd.R_drew)); exact HO5524.out))) (below_size (pl HB))); have n4_ := Aside0.mk (Kd.R_lower (Kd.R_new' (Kd.R_new' ho1 (Kd.R_lt (by (with_reducible repeat (first | apply Kd.R_alloc | apply Kd.R_drewN | apply Kd.R_drew)); exact HO5518.out))) (Kd.R_lt (by (with_reducible repeat (first | apply Kd.R_alloc | apply Kd.R_drewN | apply Kd.R_drew)); exact HO5524.out))) (below_size (pl HB))); have n5_ := kb BK5501 hb; have n6_ := kb BK5502 hb; have n7_ := kb BK5503 hb; have n8_ := kb BK5508 hb; have n9_ := kb BK5514 hb; have n10_ := kb BK5515 hb; have n11_ := kh HB hb; clear HO5518; clear HO5521; clear HO5524; clear BK5501; clear BK5502; clear BK5503; clear BK5508; clear BK5514; clear BK5515; clear HB; have HO5518 := n0_; have HO5521 := n1_; have HO5524 := n2_; have HO5528 := n3_; have HO5530 := n4_; have BK5501 := n5_; have BK5502 := n6_; have BK5503 := n7_; have BK5508 := n8_; have BK5514 := n9_; have BK5515 := n10_; have HB := n11_; clear n0_ n1_ n2_ n3_ n4_ n5_ n6_ n7_ n8_ n9_ n10_ n11_; (try clear hb); (try clear hb2); (try clear hk); (try clear hi); (try clear ho0); (try clear ho1); have hnb111 := NB5508_5502.out; have hnc111 := NB5502_5508.out; have hnb112 := NB5508_5503.out; have hnc112 := NB5503_5508.out; have hnb113 := NB5508_5514.out; have hnc113 := NB5514_5508.out; have hnb114 := NB5508_5515.out; have hnc114 := NB5515_5508.out; have hcz115_0 : w110.cell? ⟨gb5508, 0, none⟩ = some (.int .u64 t5505) := bc BK5508 0; have hcz115_1 : w110.cell? ⟨gb5508, 1, none⟩ = some (.int .u64 t5506) := bc BK5508 1; have hfz115_0 := blk_frozen BK5508.out 0; have hfz115_1 := blk_frozen BK5508.out 1; obtain ⟨Ao116, co116, eo116⟩ := Kd.R_slice HO5528.out; subst eo116) | ((with_reducible refine gate_callee (f := 17) rfl ?_); refine goesL_ (some 56) rfl rfl Try.func17 (by kernel_rfl) rfl #[.agg #[.int .u64 t5505, .int .u64 t5506], .slice Ao116 t5525.length co116] rfl pa ?_; (with_reducible refine (flyballlaw01_is.calls k t5505 t5506 _ _ t5525 true _ ?side1 ?side2 A64.out).mono ?_); (case side1 => repeat (first | exact (Kd.R_reads' HO5528.out).2.2 | (with_reducible refine Kd.C_alloc ?_ _) | (with_reducible refine Kd.C_drewN ?_ _) | (with_reducible refine Kd.C_drew ?_))); (case side2 => exact (Kd.R_reads' HO5528.out).2.1); rintro e w117 ⟨rfl, hb⟩; refine ⟨_, rfl, ?_⟩; have n0_ := Aside0.mk (Kd.R_below (by (with_reducible repeat (first | apply Kd.R_alloc | apply Kd.R_drewN | apply Kd.R_drew)); exact HO5518.out) hb); have n1_ := Aside0.mk (Kd.R_below (by (with_reducible repeat (first | apply Kd.R_alloc | apply Kd.R_drewN | apply Kd.R_drew)); exact HO5521.out) hb); have n2_ := Aside0.mk (Kd.R_below (by (with_reducible repeat (first | apply Kd.R_alloc | apply Kd.R_drewN | apply Kd.R_drew)); exact HO5524.out) hb); have n3_ := Aside0.mk (Kd.R_below (by (with_reducible repeat (first | apply Kd.R_alloc | apply Kd.R_drewN | apply Kd.R_drew)); exact HO5528.out) hb); have n4_ := Aside0.mk (Kd.R_below (by (with_reducible repeat (first | apply Kd.R_alloc | apply Kd.R_drewN | apply Kd.R_drew)); exact HO5530.out) hb); have n5_ := kb BK5501 hb; have n6_ := kb BK5502 hb; have n7_ := kb BK5503 hb; have n8_ := kb BK5508 hb; have n9_ := kb BK5514 hb; have n10_ := kb BK5515 hb; have n11_ := kh HB hb; clear HO5518; clear HO5521; clear HO5524; clear HO5528; clear HO5530; clear BK5501; clear BK5502; clear BK5503; clear BK5508; clear BK5514; clear BK5515; clear HB; have HO5518 := n0_; have HO5521 := n1_; have HO5524 := n2_; have HO5528 := n3_; have HO5530 := n4_; have BK5501 := n5_; have BK5502 := n6_; have BK5503 := n7_; have BK5508 := n8_; have BK5514 := n9_; have BK5515 := n10_; have HB := n11_; clear n0_ n1_ n2_ n3_ n4_ n5_ n6_ n7_ n8_ n9_ n10_ n11_; (try clear hb); (try clear hb2); (try clear hk); (try clear hi)) | ((with_reducible refine gate_dst (N := 61) rfl ?_); (try (refine gate_guard (by rfl) ?_; dsimp only)); refine Kd.R_lit (Kd.int .u64) _ 22 ?hg (N := 61) ?hd (xs := ([t5507] : List Int)) (inner := [.int .u64 t5507]) (ok := fun _ => True) (okp := fun _ => True) ?hr ?hp (fun _ hk => hk) trivial (Below.refl _ _) (Nat.le_refl _) (by simp) ?_; (case hd => rfl); (case hg => rfl); (case hr => first | (go_simp; done) | (go_simp; rfl)); (case hp => exact (Reps.one (show Kd.M (Kd.int .u64) _ _ _ t5507 [.int .u64 t5507] from rfl) (Reps.none _ _))); intro v5533 w118 ho119 hb hg_ hnew_; clear hg_ hnew_; (first | rw [← Ny5532.out] at ho119 | (simp only [Int.reduceToNat] at ho119; rw [← Ny5532.out] at ho119)); have n0_ := Aside0.mk (Kd.R_below (by (with_reducible repeat (first | apply Kd.R_alloc | apply Kd.R_drewN | apply Kd.R_drew)); exact HO5518.out) hb); have n1_ := Aside0.mk (Kd.R_elder' (by (with_reducible repeat (first | apply Kd.R_alloc | apply Kd.R_drewN | apply Kd.R_drew)); exact HO5521.out) (Kd.R_base ho119) hb); have n2_ := Aside0.mk (Kd.R_below (by (with_reducible repeat (first | apply Kd.R_alloc | apply Kd.R_drewN | apply Kd.R_drew)); exact HO5524.out) hb); have n3_ := Aside0.mk (Kd.R_below (by (with_reducible repeat (first | apply Kd.R_alloc | apply Kd.R_drewN | apply Kd.R_drew)); exact HO5528.out) hb); have n4_ := Aside0.mk (Kd.R_below (by (with_reducible repeat (first | apply Kd.R_alloc | apply Kd.R_drewN | apply Kd.R_drew)); exact HO5530.out) hb); have n5_ := Aside0.mk (Kd.R_lower (Kd.R_new' ho119 (Kd.R_lt (by (with_reducible repeat (first | apply Kd.R_alloc | apply Kd.R_drewN | apply Kd.R_drew)); exact HO5521.out))) (below_size (pl HB))); have n6_ := kb BK5501 hb; have n7_ := kb BK5502 hb; have n8_ := kb BK5503 hb; have n9_ := kb BK5508 hb; have n10_ := kb BK5514 hb; have n11_ := kb BK5515 hb; have n12_ := kh HB hb; clear HO5518; clear HO5521; clear HO5524; clear HO5528; clear HO5530; clear BK5501; clear BK5502; clear BK5503; clear BK5508; clear BK5514; clear BK5515; clear HB; have HO5518 := n0_; have HO5521 := n1_; have HO5524 := n2_; have HO5528 := n3_; have HO5530 := n4_; have HO5534 := n5_; have BK5501 := n6_; have BK5502 := n7_; have BK5503 := n8_; have BK5508 := n9_; have BK5514 := n10_; have BK5515 := n11_; have HB := n12_; clear n0_ n1_ n2_ n3_ n4_ n5_ n6_ n7_ n8_ n9_ n10_ n11_ n12_; clear hb ho119; obtain ⟨Ao120, co120, eo120⟩ := Kd.R_slice HO5534.out; subst eo120) | (go_at_call 16; (with_reducible refine (flyballref01_Of.calls k _ _ y5532 t5535 _ ?side1 ?side2 A66.out).mono ?_); (case side1 => repeat (first | exact (Kd.R_reads' HO5534.out).2.2 | (with_reducible refine Kd.C_alloc ?_ _) | (with_reducible refine Kd.C_drewN ?_ _) | (with_reducible refine Kd.C_drew ?_))); (case side2 => exact (Kd.R_reads' HO5534.out).2.1); rintro e w121 ⟨v5536, rfl, ho0, hb⟩; have n0_ := Aside0.mk (Kd.R_elder' (by (with_reducible repeat (first | apply Kd.R_alloc | apply Kd.R_drewN | apply Kd.R_drew)); exact HO5518.out) (Kd.R_base ho0) hb); have n1_ := Aside0.mk (Kd.R_below (by (with_reducible repeat (first | apply Kd.R_alloc | apply Kd.R_drewN | apply Kd.R_drew)); exact HO5521.out) hb); have n2_ := Aside0.mk (Kd.R_elder' (by (with_reducible repeat (first | apply Kd.R_alloc | apply Kd.R_drewN | apply Kd.R_drew)); exact HO5524.out) (Kd.R_base ho0) hb); have n3_ := Aside0.mk (Kd.R_elder' (by (with_reducible repeat (first | apply Kd.R_alloc | apply Kd.R_drewN | apply Kd.R_drew)); exact HO5528.out) (Kd.R_base ho0) hb); have n4_ := Aside0.mk (Kd.R_elder' (by (with_reducible repeat (first | apply Kd.R_alloc | apply Kd.R_drewN | apply Kd.R_drew)); exact HO5530.out) (Kd.R_base ho0) hb); have n5_ := Aside0.mk (Kd.R_below (by (with_reducible repeat (first | apply Kd.R_alloc | apply Kd.R_drewN | apply Kd.R_drew)); exact HO5534.out) hb); have n6_ := Aside0.mk (Kd.R_lower (Kd.R_new' (Kd.R_new' (Kd.R_new' (Kd.R_new' ho0 (Kd.R_lt (by (with_reducible repeat (first | apply Kd.R_alloc | apply Kd.R_drewN | apply Kd.R_drew)); exact HO5518.out))) (Kd.R_lt (by (with_reducible repeat (first | apply Kd.R_alloc | apply Kd.R_drewN | apply Kd.R_drew)); exact HO5524.out))) (Kd.R_lt (by (with_reducible repeat (first | apply Kd.R_alloc | apply Kd.R_drewN | apply Kd.R_drew)); exact HO5528.out))) (Kd.R_lt (by (with_reducible repeat (first | apply Kd.R_alloc | apply Kd.R_drewN | apply Kd.R_drew)); exact HO5530.out))) (below_size (pl HB))); have n7_ := kb BK5501 hb; have n8_ := kb BK5502 hb; have n9_ := kb BK5503 hb; have n10_ := kb BK5508 hb; have n11_ := kb BK5514 hb; have n12_ := kb BK5515 hb; have n13_ := kh HB hb; clear HO5518; clear HO5521; clear HO5524; clear HO5528; clear HO5530; clear HO5534; clear BK5501; clear BK5502; clear BK5503; clear BK5508; clear BK5514; clear BK5515; clear HB; have HO5518 := n0_; have HO5521 := n1_; have HO5524 := n2_; have HO5528 := n3_; have HO5530 := n4_; have HO5534 := n5_; have HO5537 := n6_; have BK5501 := n7_; have BK5502 := n8_; have BK5503 := n9_; have BK5508 := n10_; have BK5514 := n11_; have BK5515 := n12_; have HB := n13_; clear n0_ n1_ n2_ n3_ n4_ n5_ n6_ n7_ n8_ n9_ n10_ n11_ n12_ n13_; (try clear hb); (try clear hb2); (try clear hk); (try clear hi); (try clear ho0); obtain ⟨Ao122, co122, eo122⟩ := Kd.R_slice HO5537.out; subst eo122; obtain ⟨Ao123, co123, eo123⟩ := Kd.R_slice HO5530.out; subst eo123) | (go_at_call 18; (with_reducible refine (flyballref01_Cmp.calls k _ _ t5535 _ _ t5526 t5538 _ ?side1 ?side2 ?side3 ?side4 A67.out).mono ?_); (case side1 => repeat (first | exact (Kd.R_reads' HO5537.out).2.2 | (with_reducible refine Kd.C_alloc ?_ _) | (with_reducible refine Kd.C_drewN ?_ _) | (with_reducible refine Kd.C_drew ?_))); (case side2 => exact (Kd.R_reads' HO5537.out).2.1); (case side3 => repeat (first | exact (Kd.R_reads' HO5530.out).2.2 | (with_reducible refine Kd.C_alloc ?_ _) | (with_reducible refine Kd.C_drewN ?_ _) | (with_reducible refine Kd.C_drew ?_))); (case side4 => exact (Kd.R_reads' HO5530.out).2.1); rintro e w124 ⟨rfl, hb⟩; have n0_ := Aside0.mk (Kd.R_below (by (with_reducible repeat (first | apply Kd.R_alloc | apply Kd.R_drewN | apply Kd.R_drew)); exact HO5518.out) hb); have n1_ := Aside0.mk (Kd.R_below (by (with_reducible repeat (first | apply Kd.R_alloc | apply Kd.R_drewN | apply Kd.R_drew)); exact HO5521.out) hb); have n2_ := Aside0.mk (Kd.R_below (by (with_reducible repeat (first | apply Kd.R_alloc | apply Kd.R_drewN | apply Kd.R_drew)); exact HO5524.out) hb); have n3_ := Aside0.mk (Kd.R_below (by (with_reducible repeat (first | apply Kd.R_alloc | apply Kd.R_drewN | apply Kd.R_drew)); exact HO5528.out) hb); have n4_ := Aside0.mk (Kd.R_below (by (with_reducible repeat (first | apply Kd.R_alloc | apply Kd.R_drewN | apply Kd.R_drew)); exact HO5530.out) hb); have n5_ := Aside0.mk (Kd.R_below (by (with_reducible repeat (first | apply Kd.R_alloc | apply Kd.R_drewN | apply Kd.R_drew)); exact HO5534.out) hb); have n6_ := Aside0.mk (Kd.R_below (by (with_reducible repeat (first | apply Kd.R_alloc | apply Kd.R_drewN | apply Kd.R_drew)); exact HO5537.out) hb); have n7_ := kb BK5501 hb; have n8_ := kb BK5502 hb; have n9_ := kb BK5503 hb; have n10_ := kb BK5508 hb; have n11_ := kb BK5514 hb; have n12_ := kb BK5515 hb; have n13_ := kh HB hb; clear HO5518; clear HO5521; clear HO5524; clear HO5528; clear HO5530; clear HO5534; clear HO5537; clear BK5501; clear BK5502; clear BK5503; clear BK5508; clear BK5514; clear BK5515; clear HB; have HO5518 := n0_; have HO5521 := n1_; have HO5524 := n2_; have HO5528 := n3_; have HO5530 := n4_; have HO5534 := n5_; have HO5537 := n6_; have BK5501 := n7_; have BK5502 := n8_; have BK5503 := n9_; have BK5508 := n10_; have BK5514 := n11_; have BK5515 := n12_; have HB := n13_; clear n0_ n1_ n2_ n3_ n4_ n5_ n6_ n7_ n8_ n9_ n10_ n11_ n12_ n13_; (try clear hb); (try clear hb2); (try clear hk); (try clear hi)))
            go_ret
            exact ⟨pe, pl HB⟩
        · replace c65 := Bool.eq_false_iff.mpr c65
          subst c65
          rw [if_neg (show ¬ (false = true) by decide)] at H
          obtain rfl := Option.some.inj H
          have hnb125 := NB5501_5502.out
          have hnc125 := NB5502_5501.out
          have hnb126 := NB5501_5503.out
          have hnc126 := NB5503_5501.out
          have hnb127 := NB5501_5508.out
          have hnc127 := NB5508_5501.out
          have hnb128 := NB5501_5514.out
          have hnc128 := NB5514_5501.out
          have hnb129 := NB5501_5515.out
          have hnc129 := NB5515_5501.out
          have hcz130_0 : w28.cell? ⟨gb5501, 0, none⟩ = some (.int .u64 a0_0) := bc BK5501 0
          have hcz130_1 : w28.cell? ⟨gb5501, 1, none⟩ = some (.int .u64 a0_1) := bc BK5501 1
          have hfz130_0 := blk_frozen BK5501.out 0
          have hfz130_1 := blk_frozen BK5501.out 1
          go_wp2_with (first | ((with_reducible refine gate_callee (f := 15) rfl ?_); refine goesL_ (some 47) rfl rfl Try.func15 (by kernel_rfl) rfl #[.agg #[.int .u64 a0_0, .int .u64 a0_1]] rfl pa ?_; (with_reducible refine (flyballlaw01_of.calls k a0_0 a0_1 t5516 _ A61.out).mono ?_); rintro e w131 ⟨v5517, rfl, ho0, hb⟩; refine ⟨_, rfl, ?_⟩; have HO5518 := Aside0.mk (Kd.R_lower ho0 (below_size (pl HB))); replace BK5501 := kb BK5501 hb; replace BK5502 := kb BK5502 hb; replace BK5503 := kb BK5503 hb; replace BK5508 := kb BK5508 hb; replace BK5514 := kb (o' := .cells #[.int .u64 t5509, .int .u64 t5510, .int .u64 t5511] 26 (0, 0)) BK5514 hb; replace BK5515 := kb (o' := .cells #[.int .u64 t5512, .int .u64 t5513] 24 (0, 0)) BK5515 hb; replace HB := kh HB hb; (try clear hb); (try clear hb2); (try clear hk); (try clear hi); (try clear ho0)) | ((with_reducible refine gate_dst (N := 49) rfl ?_); (try (refine gate_guard (by rfl) ?_; dsimp only)); refine Kd.R_lit (Kd.int .u64) _ 22 ?hg (N := 49) ?hd (xs := ([a1] : List Int)) (inner := [.int .u64 a1]) (ok := fun _ => True) (okp := fun _ => True) ?hr ?hp (fun _ hk => hk) trivial (Below.refl _ _) (Nat.le_refl _) (by simp) ?_; (case hd => rfl); (case hg => rfl); (case hr => first | (go_simp; done) | (go_simp; rfl)); (case hp => exact (Reps.one (show Kd.M (Kd.int .u64) _ _ _ a1 [.int .u64 a1] from rfl) (Reps.none _ _))); intro v5520 w132 ho133 hb hg_ hnew_; clear hg_ hnew_; (first | rw [← Ny5519.out] at ho133 | (simp only [Int.reduceToNat] at ho133; rw [← Ny5519.out] at ho133)); have n0_ := Aside0.mk (Kd.R_below (by (with_reducible repeat (first | apply Kd.R_alloc | apply Kd.R_drewN | apply Kd.R_drew)); exact HO5518.out) hb); have n1_ := Aside0.mk (Kd.R_lower ho133 (below_size (pl HB))); have n2_ := kb BK5501 hb; have n3_ := kb BK5502 hb; have n4_ := kb BK5503 hb; have n5_ := kb BK5508 hb; have n6_ := kb BK5514 hb; have n7_ := kb BK5515 hb; have n8_ := kh HB hb; clear HO5518; clear BK5501; clear BK5502; clear BK5503; clear BK5508; clear BK5514; clear BK5515; clear HB; have HO5518 := n0_; have HO5521 := n1_; have BK5501 := n2_; have BK5502 := n3_; have BK5503 := n4_; have BK5508 := n5_; have BK5514 := n6_; have BK5515 := n7_; have HB := n8_; clear n0_ n1_ n2_ n3_ n4_ n5_ n6_ n7_ n8_; clear hb ho133; obtain ⟨Ao134, co134, eo134⟩ := Kd.R_slice HO5521.out; subst eo134) | ((with_reducible refine gate_callee (f := 16) rfl ?_); refine goesL_ (some 50) rfl rfl Try.func16 (by kernel_rfl) rfl #[.slice Ao134 y5519.length co134] rfl pa ?_; (with_reducible refine (flyballref01_Of.calls k _ _ y5519 t5522 _ ?side1 ?side2 A62.out).mono ?_); (case side1 => repeat (first | exact (Kd.R_reads' HO5521.out).2.2 | (with_reducible refine Kd.C_alloc ?_ _) | (with_reducible refine Kd.C_drewN ?_ _) | (with_reducible refine Kd.C_drew ?_))); (case side2 => exact (Kd.R_reads' HO5521.out).2.1); rintro e w135 ⟨v5523, rfl, ho0, hb⟩; refine ⟨_, rfl, ?_⟩; have n0_ := Aside0.mk (Kd.R_elder' (by (with_reducible repeat (first | apply Kd.R_alloc | apply Kd.R_drewN | apply Kd.R_drew)); exact HO5518.out) (Kd.R_base ho0) hb); have n1_ := Aside0.mk (Kd.R_below (by (with_reducible repeat (first | apply Kd.R_alloc | apply Kd.R_drewN | apply Kd.R_drew)); exact HO5521.out) hb); have n2_ := Aside0.mk (Kd.R_lower (Kd.R_new' ho0 (Kd.R_lt (by (with_reducible repeat (first | apply Kd.R_alloc | apply Kd.R_drewN | apply Kd.R_drew)); exact HO5518.out))) (below_size (pl HB))); have n3_ := kb BK5501 hb; have n4_ := kb BK5502 hb; have n5_ := kb BK5503 hb; have n6_ := kb BK5508 hb; have n7_ := kb BK5514 hb; have n8_ := kb BK5515 hb; have n9_ := kh HB hb; clear HO5518; clear HO5521; clear BK5501; clear BK5502; clear BK5503; clear BK5508; clear BK5514; clear BK5515; clear HB; have HO5518 := n0_; have HO5521 := n1_; have HO5524 := n2_; have BK5501 := n3_; have BK5502 := n4_; have BK5503 := n5_; have BK5508 := n6_; have BK5514 := n7_; have BK5515 := n8_; have HB := n9_; clear n0_ n1_ n2_ n3_ n4_ n5_ n6_ n7_ n8_ n9_; (try clear hb); (try clear hb2); (try clear hk); (try clear hi); (try clear ho0); obtain ⟨Ao136, co136, eo136⟩ := Kd.R_slice HO5518.out; subst eo136; obtain ⟨Ao137, co137, eo137⟩ := Kd.R_slice HO5524.out; subst eo137) | ((with_reducible refine gate_callee (f := 14) rfl ?_); refine goesL_ (some 51) rfl rfl Try.func14 (by kernel_rfl) rfl #[.slice Ao136 t5516.length co136, .slice Ao137 t5522.length co137] rfl pa ?_; (with_reducible refine (flyballref01_Div.calls k _ _ t5516 _ _ t5522 t5525 t5526 _ ?side1 ?side2 ?side3 ?side4 A63.out).mono ?_); (case side1 => repeat (first | exact (Kd.R_reads' HO5518.out).2.2 | (with_reducible refine Kd.C_alloc ?_ _) | (with_reducible refine Kd.C_drewN ?_ _) | (with_reducible refine Kd.C_drew ?_))); (case side2 => exact (Kd.R_reads' HO5518.out).2.1); (case side3 => repeat (first | exact (Kd.R_reads' HO5524.out).2.2 | (with_reducible refine Kd.C_alloc ?_ _) | (with_reducible refine Kd.C_drewN ?_ _) | (with_reducible refine Kd.C_drew ?_))); (case side4 => exact (Kd.R_reads' HO5524.out).2.1); rintro e w138 ⟨v5527, v5529, rfl, ho0, ho1, hb⟩; refine ⟨_, rfl, ?_⟩; have n0_ := Aside0.mk (Kd.R_mono (Kd.R_told (Kd.R_told (Kd.R_old (by (with_reducible repeat (first | apply Kd.R_alloc | apply Kd.R_drewN | apply Kd.R_drew)); exact HO5518.out) hb) (Kd.R_base ho0)) (Kd.R_base ho1)) (fun _ h_ => h_.1)); have n1_ := Aside0.mk (Kd.R_below (by (with_reducible repeat (first | apply Kd.R_alloc | apply Kd.R_drewN | apply Kd.R_drew)); exact HO5521.out) hb); have n2_ := Aside0.mk (Kd.R_mono (Kd.R_told (Kd.R_told (Kd.R_old (by (with_reducible repeat (first | apply Kd.R_alloc | apply Kd.R_drewN | apply Kd.R_drew)); exact HO5524.out) hb) (Kd.R_base ho0)) (Kd.R_base ho1)) (fun _ h_ => h_.1)); have n3_ := Aside0.mk (Kd.R_lower (Kd.R_new' (Kd.R_new' ho0 (Kd.R_lt (by (with_reducible repeat (first | apply Kd.R_alloc | apply Kd.R_drewN | apply Kd.R_drew)); exact HO5518.out))) (Kd.R_lt (by (with_reducible repeat (first | apply Kd.R_alloc | apply Kd.R_drewN | apply Kd.R_drew)); exact HO5524.out))) (below_size (pl HB))); have n4_ := Aside0.mk (Kd.R_lower (Kd.R_new' (Kd.R_new' ho1 (Kd.R_lt (by (with_reducible repeat (first | apply Kd.R_alloc | apply Kd.R_drewN | apply Kd.R_drew)); exact HO5518.out))) (Kd.R_lt (by (with_reducible repeat (first | apply Kd.R_alloc | apply Kd.R_drewN | apply Kd.R_drew)); exact HO5524.out))) (below_size (pl HB))); have n5_ := kb BK5501 hb; have n6_ := kb BK5502 hb; have n7_ := kb BK5503 hb; have n8_ := kb BK5508 hb; have n9_ := kb BK5514 hb; have n10_ := kb BK5515 hb; have n11_ := kh HB hb; clear HO5518; clear HO5521; clear HO5524; clear BK5501; clear BK5502; clear BK5503; clear BK5508; clear BK5514; clear BK5515; clear HB; have HO5518 := n0_; have HO5521 := n1_; have HO5524 := n2_; have HO5528 := n3_; have HO5530 := n4_; have BK5501 := n5_; have BK5502 := n6_; have BK5503 := n7_; have BK5508 := n8_; have BK5514 := n9_; have BK5515 := n10_; have HB := n11_; clear n0_ n1_ n2_ n3_ n4_ n5_ n6_ n7_ n8_ n9_ n10_ n11_; (try clear hb); (try clear hb2); (try clear hk); (try clear hi); (try clear ho0); (try clear ho1); have hnb139 := NB5508_5502.out; have hnc139 := NB5502_5508.out; have hnb140 := NB5508_5503.out; have hnc140 := NB5503_5508.out; have hnb141 := NB5508_5514.out; have hnc141 := NB5514_5508.out; have hnb142 := NB5508_5515.out; have hnc142 := NB5515_5508.out; have hcz143_0 : w138.cell? ⟨gb5508, 0, none⟩ = some (.int .u64 t5505) := bc BK5508 0; have hcz143_1 : w138.cell? ⟨gb5508, 1, none⟩ = some (.int .u64 t5506) := bc BK5508 1; have hfz143_0 := blk_frozen BK5508.out 0; have hfz143_1 := blk_frozen BK5508.out 1; obtain ⟨Ao144, co144, eo144⟩ := Kd.R_slice HO5528.out; subst eo144) | ((with_reducible refine gate_callee (f := 17) rfl ?_); refine goesL_ (some 56) rfl rfl Try.func17 (by kernel_rfl) rfl #[.agg #[.int .u64 t5505, .int .u64 t5506], .slice Ao144 t5525.length co144] rfl pa ?_; (with_reducible refine (flyballlaw01_is.calls k t5505 t5506 _ _ t5525 false _ ?side1 ?side2 A64.out).mono ?_); (case side1 => repeat (first | exact (Kd.R_reads' HO5528.out).2.2 | (with_reducible refine Kd.C_alloc ?_ _) | (with_reducible refine Kd.C_drewN ?_ _) | (with_reducible refine Kd.C_drew ?_))); (case side2 => exact (Kd.R_reads' HO5528.out).2.1); rintro e w145 ⟨rfl, hb⟩; refine ⟨_, rfl, ?_⟩; have n0_ := Aside0.mk (Kd.R_below (by (with_reducible repeat (first | apply Kd.R_alloc | apply Kd.R_drewN | apply Kd.R_drew)); exact HO5518.out) hb); have n1_ := Aside0.mk (Kd.R_below (by (with_reducible repeat (first | apply Kd.R_alloc | apply Kd.R_drewN | apply Kd.R_drew)); exact HO5521.out) hb); have n2_ := Aside0.mk (Kd.R_below (by (with_reducible repeat (first | apply Kd.R_alloc | apply Kd.R_drewN | apply Kd.R_drew)); exact HO5524.out) hb); have n3_ := Aside0.mk (Kd.R_below (by (with_reducible repeat (first | apply Kd.R_alloc | apply Kd.R_drewN | apply Kd.R_drew)); exact HO5528.out) hb); have n4_ := Aside0.mk (Kd.R_below (by (with_reducible repeat (first | apply Kd.R_alloc | apply Kd.R_drewN | apply Kd.R_drew)); exact HO5530.out) hb); have n5_ := kb BK5501 hb; have n6_ := kb BK5502 hb; have n7_ := kb BK5503 hb; have n8_ := kb BK5508 hb; have n9_ := kb BK5514 hb; have n10_ := kb BK5515 hb; have n11_ := kh HB hb; clear HO5518; clear HO5521; clear HO5524; clear HO5528; clear HO5530; clear BK5501; clear BK5502; clear BK5503; clear BK5508; clear BK5514; clear BK5515; clear HB; have HO5518 := n0_; have HO5521 := n1_; have HO5524 := n2_; have HO5528 := n3_; have HO5530 := n4_; have BK5501 := n5_; have BK5502 := n6_; have BK5503 := n7_; have BK5508 := n8_; have BK5514 := n9_; have BK5515 := n10_; have HB := n11_; clear n0_ n1_ n2_ n3_ n4_ n5_ n6_ n7_ n8_ n9_ n10_ n11_; (try clear hb); (try clear hb2); (try clear hk); (try clear hi)))
          go_ret
          exact ⟨pe, pl HB⟩
    case rest =>
      clear HC9
      try clear c1
      try clear c2
      try clear p2
      try clear c3
      try clear c4
      try clear c5
      try clear c6
      try clear c7
      try clear c8
      try clear c9
      try clear c10
      try clear c11
      try clear c12
      try clear c13
      try clear c14
      try clear c15
      try clear c16
      try clear c17
      try clear c19
      try clear c20
      try clear c21
      try clear c23
      try clear c29
      try clear c30
      try clear c31
      try clear c32
      try clear c33
      try clear c35
      try clear c36
      try clear c37
      try clear c38
      try clear c40
      try clear c40b0
      try clear c40b1
      try clear c41
      try clear c41b0
      try clear c42
      try clear c43
      try clear c44
      try clear c45
      try clear c46
      try clear c48
      try clear c48b0
      try clear c48b1
      try clear c49
      try clear c50
      try clear c51
      try clear c52
      try clear c53
      try clear c55
      try clear c56
      try clear c57
      try clear c58
      try clear c59
      try clear c65
      try clear c68
      try clear c68b0
      try clear c68b1
      try clear c69
      try clear c70
      try clear c71
      try clear c72
      try clear c73
      try clear c83
      try clear c84
      try clear c85
      try clear c86
      try clear c97
      try clear c98
      try clear c99
      try clear c100
      try clear c101
      try clear c111
      try clear c112
      try clear c113
      try clear c114
      try clear c125
      try clear c126
      try clear c127
      try clear c128
      try clear c129
      try clear c139
      try clear c140
      try clear c141
      try clear c142
      try clear hcz102_0
      try clear hcz102_1
      try clear hcz115_0
      try clear hcz115_1
      try clear hcz130_0
      try clear hcz130_1
      try clear hcz143_0
      try clear hcz143_1
      try clear hcz16_0
      try clear hcz16_1
      try clear hcz22_0
      try clear hcz22_1
      try clear hcz24_0
      try clear hcz24_1
      try clear hcz24_2
      try clear hcz25_0
      try clear hcz25_1
      try clear hcz34_0
      try clear hcz34_1
      try clear hcz34_2
      try clear hcz39_0
      try clear hcz39_1
      try clear hcz47_0
      try clear hcz47_1
      try clear hcz54_0
      try clear hcz54_1
      try clear hcz60_0
      try clear hcz60_1
      try clear hcz74_0
      try clear hcz74_1
      try clear hcz87_0
      try clear hcz87_1
      try clear hfz102_0
      try clear hfz102_1
      try clear hfz115_0
      try clear hfz115_1
      try clear hfz130_0
      try clear hfz130_1
      try clear hfz143_0
      try clear hfz143_1
      try clear hfz16_0
      try clear hfz16_1
      try clear hfz22_0
      try clear hfz22_1
      try clear hfz24_0
      try clear hfz24_1
      try clear hfz24_2
      try clear hfz25_0
      try clear hfz25_1
      try clear hfz34_0
      try clear hfz34_1
      try clear hfz34_2
      try clear hfz39_0
      try clear hfz39_1
      try clear hfz47_0
      try clear hfz47_1
      try clear hfz54_0
      try clear hfz54_1
      try clear hfz60_0
      try clear hfz60_1
      try clear hfz74_0
      try clear hfz74_1
      try clear hfz87_0
      try clear hfz87_1
      obtain ⟨kq, HA, HJ8, BK5501, BK5502, BK5503, BK5508, BK5514, BK5515, HB⟩ := hcut
      cases kq with
      | zero => exact absurd HA.out (by simp [flyballlaw01_WideDivides.j0])
      | succ kj8 =>
        have H := HA.out
        clear HA
        simp only [flyballlaw01_WideDivides.j0] at H
        by_cases c146 : (a3_0 == 0 && (a3_1 == 0)) = true
        · rw [if_pos c146] at H
          have c146b0 : (a3_0 == 0 && (a3_1 == 0)) = true := c146
          (try (have c146b1 : decide (a3_0 = 0 && (a3_1 == 0)) = true := by simpa using c146))
          (try (have c146b2 : (a3_0 == 0 && (a3_1 == 0)) = true := by simpa using c146))
          clear c146
          by_cases c147 : true = true
          · clear c147
            (try rw [if_pos rfl] at H)
            by_cases c148 : (t5509 == 0 && (t5510 == 0 && (t5511 == 0))) = true
            · rw [if_pos c148] at H
              have c148b0 : (t5509 == 0 && (t5510 == 0 && (t5511 == 0))) = true := c148
              (try (have c148b1 : decide (t5509 = 0 && (t5510 == 0 && (t5511 == 0))) = true := by simpa using c148))
              (try (have c148b2 : (t5509 == 0 && (t5510 == 0 && (t5511 == 0))) = true := by simpa using c148))
              clear c148
              obtain rfl := Option.some.inj H
              have hnb149 := NB5503_5501.out
              have hnc149 := NB5501_5503.out
              have hnb150 := NB5503_5502.out
              have hnc150 := NB5502_5503.out
              have hnb151 := NB5503_5508.out
              have hnc151 := NB5508_5503.out
              have hnb152 := NB5503_5514.out
              have hnc152 := NB5514_5503.out
              have hnb153 := NB5503_5515.out
              have hnc153 := NB5515_5503.out
              have hcz154_0 : wc.cell? ⟨gb5503, 0, none⟩ = some (.int .u64 a3_0) := bc BK5503 0
              have hcz154_1 : wc.cell? ⟨gb5503, 1, none⟩ = some (.int .u64 a3_1) := bc BK5503 1
              have hfz154_0 := blk_frozen BK5503.out 0
              have hfz154_1 := blk_frozen BK5503.out 1
              have hnb155 := NB5514_5501.out
              have hnc155 := NB5501_5514.out
              have hnb156 := NB5514_5502.out
              have hnc156 := NB5502_5514.out
              have hnb157 := NB5514_5508.out
              have hnc157 := NB5508_5514.out
              have hnb158 := NB5514_5515.out
              have hnc158 := NB5515_5514.out
              have hcz159_0 : wc.cell? ⟨gb5514, 0, none⟩ = some (.int .u64 t5509) := bc BK5514 0
              have hcz159_1 : wc.cell? ⟨gb5514, 1, none⟩ = some (.int .u64 t5510) := bc BK5514 1
              have hcz159_2 : wc.cell? ⟨gb5514, 2, none⟩ = some (.int .u64 t5511) := bc BK5514 2
              have hfz159_0 := blk_frozen BK5514.out 0
              have hfz159_1 := blk_frozen BK5514.out 1
              have hfz159_2 := blk_frozen BK5514.out 2
              have hnb160 := NB5515_5501.out
              have hnc160 := NB5501_5515.out
              have hnb161 := NB5515_5502.out
              have hnc161 := NB5502_5515.out
              have hnb162 := NB5515_5508.out
              have hnc162 := NB5508_5515.out
              have hcz163_0 : wc.cell? ⟨gb5515, 0, none⟩ = some (.int .u64 t5512) := bc BK5515 0
              have hcz163_1 : wc.cell? ⟨gb5515, 1, none⟩ = some (.int .u64 t5513) := bc BK5515 1
              have hfz163_0 := blk_frozen BK5515.out 0
              have hfz163_1 := blk_frozen BK5515.out 1
              go_wp2
              go_ret
              exact ⟨pe, pl HB⟩
            · rw [if_neg c148] at H
              exact absurd H (by simp)
          · exact absurd rfl c147
        · rw [if_neg c146] at H
          have c146b0 : (a3_0 == 0 && (a3_1 == 0)) = false := by simpa using c146
          (try (have c146b1 : decide (a3_0 = 0 && (a3_1 == 0)) = false := by simpa using c146))
          (try (have c146b2 : (a3_0 == 0 && (a3_1 == 0)) = false := by simpa using c146))
          (try (have c146b3 : ¬ (a3_0 = 0 && (a3_1 == 0)) := by simpa using c146))
          clear c146
          obtain ⟨t5539, A1640, H⟩ := Option.bind_eq_some_iff.mp H
          have A164 := Aside0.mk A1640
          clear A1640
          (try dsimp only at H)
          obtain ⟨t5542, A1650, H⟩ := Option.bind_eq_some_iff.mp H
          have A165 := Aside0.mk A1650
          clear A1650
          (try dsimp only at H)
          obtain ⟨⟨t5545, t5546⟩, A1660, H⟩ := Option.bind_eq_some_iff.mp H
          have A166 := Aside0.mk A1660
          clear A1660
          (try dsimp only at H)
          obtain ⟨t5551, A1670, H⟩ := Option.bind_eq_some_iff.mp H
          have A167 := Aside0.mk A1670
          clear A1670
          (try dsimp only at H)
          obtain ⟨t5552, A1680, H⟩ := Option.bind_eq_some_iff.mp H
          have A168 := Aside0.mk A1680
          clear A1680
          (try dsimp only at H)
          by_cases c169 : true = true
          · clear c169
            (try rw [if_pos rfl] at H)
            by_cases c170 : t5551 = true
            · subst c170
              rw [if_pos rfl] at H
              obtain rfl := Option.some.inj H
              have hnb171 := NB5503_5501.out
              have hnc171 := NB5501_5503.out
              have hnb172 := NB5503_5502.out
              have hnc172 := NB5502_5503.out
              have hnb173 := NB5503_5508.out
              have hnc173 := NB5508_5503.out
              have hnb174 := NB5503_5514.out
              have hnc174 := NB5514_5503.out
              have hnb175 := NB5503_5515.out
              have hnc175 := NB5515_5503.out
              have hcz176_0 : wc.cell? ⟨gb5503, 0, none⟩ = some (.int .u64 a3_0) := bc BK5503 0
              have hcz176_1 : wc.cell? ⟨gb5503, 1, none⟩ = some (.int .u64 a3_1) := bc BK5503 1
              have hfz176_0 := blk_frozen BK5503.out 0
              have hfz176_1 := blk_frozen BK5503.out 1
              try go_wp2
              replace BK5501 := Aside0.mk (blk_drew BK5501.out)
              replace BK5502 := Aside0.mk (blk_drew BK5502.out)
              replace BK5503 := Aside0.mk (blk_drew BK5503.out)
              replace BK5508 := Aside0.mk (blk_drew BK5508.out)
              replace BK5514 := Aside0.mk (blk_drew BK5514.out)
              replace BK5515 := Aside0.mk (blk_drew BK5515.out)
              replace HB := Aside0.mk (below_drew1 HB.out)
              refine start_ (n := 10) (S := fun w' => w'.cell? ⟨gb5502, 0, none⟩ = some (.int .u64 a2_0) ∧ w'.cell? ⟨gb5502, 1, none⟩ = some (.int .u64 a2_1) ∧ w'.cell? ⟨gb5502, 2, none⟩ = some (.int .u64 a2_2) ∧ w'.cell? ⟨gb5503, 0, none⟩ = some (.int .u64 a3_0) ∧ w'.cell? ⟨gb5503, 1, none⟩ = some (.int .u64 a3_1)) (ds := []) #[false, false, false, false, false, false, false, false, false, false] (by kernel_rfl) rfl rfl ⟨bc BK5502 0, bc BK5502 1, bc BK5502 2, bc BK5503 0, bc BK5503 1⟩ (fun hHeld => ?_); refine with_tabW flyballlaw01_WideDivides.tab15 flyballlaw01_WideDivides.bits15 (fun HT_ HW_ => ?_)
              generalize wc.drew = w177 at BK5501 BK5502 BK5503 BK5508 BK5514 BK5515 HB hHeld ⊢
              refine tak 0 (some 82) #[true, false, false, false, false, false, false, false, false, false] (take_ofW HT_.out HW_.out (by kernel_rfl)) hHeld ?_
              refine tak 2 (some 84) #[true, false, true, false, false, false, false, false, false, false] (take_ofW HT_.out HW_.out (by kernel_rfl)) hHeld ?_
              refine one_ (i := 1) (N := some 83) #[true, true, true, false, false, false, false, false, false, false] rfl rfl (one_of HT_.out (by kernel_rfl)) (by decide) (fun K hK => ?_)
              refine goes_ Try.func19 (by kernel_rfl) rfl #[.agg #[.int .u64 a2_0, .int .u64 a2_1, .int .u64 a2_2]] (by rfl) rfl rfl pa ?_
              with_reducible refine (flyballlaw01_of3.calls kj8 a2_0 a2_1 a2_2 t5539 _ A164.out).mono ?_
              rintro e w178 ⟨v5540, rfl, ho0, hb⟩
              refine ⟨_, rfl, ?_⟩
              have HO5541 := Aside0.mk (Kd.R_lower ho0 (below_size (pl HB)))
              replace BK5501 := kb BK5501 hb
              replace BK5502 := kb BK5502 hb
              replace BK5503 := kb BK5503 hb
              replace BK5508 := kb BK5508 hb
              replace BK5514 := kb BK5514 hb
              replace BK5515 := kb BK5515 hb
              replace HB := kh HB hb
              (try clear hb)
              (try clear hb2)
              (try clear hk)
              (try clear hi)
              (try clear ho0)
              refine hK.out _ _ ⟨bc BK5502 0, bc BK5502 1, bc BK5502 2, bc BK5503 0, bc BK5503 1⟩ (fun hHeld => ?_)
              clear hK K
              refine nrm (some 83) ?_
              refine one_ (i := 3) (N := some 85) #[true, true, true, true, false, false, false, false, false, false] rfl rfl (one_of HT_.out (by kernel_rfl)) (by decide) (fun K hK => ?_)
              refine goes_ Try.func15 (by kernel_rfl) rfl #[.agg #[.int .u64 a3_0, .int .u64 a3_1]] (by rfl) rfl rfl pa ?_
              with_reducible refine (flyballlaw01_of.calls kj8 a3_0 a3_1 t5542 _ A165.out).mono ?_
              rintro e w179 ⟨v5543, rfl, ho0, hb⟩
              refine ⟨_, rfl, ?_⟩
              have n0_ := Aside0.mk (Kd.R_elder' (by (with_reducible repeat (first | apply Kd.R_alloc | apply Kd.R_drewN | apply Kd.R_drew)); exact HO5541.out) (Kd.R_base ho0) hb)
              have n1_ := Aside0.mk (Kd.R_lower (Kd.R_new' ho0 (Kd.R_lt (by (with_reducible repeat (first | apply Kd.R_alloc | apply Kd.R_drewN | apply Kd.R_drew)); exact HO5541.out))) (below_size (pl HB)))
              have n2_ := kb BK5501 hb
              have n3_ := kb BK5502 hb
              have n4_ := kb BK5503 hb
              have n5_ := kb BK5508 hb
              have n6_ := kb BK5514 hb
              have n7_ := kb BK5515 hb
              have n8_ := kh HB hb
              clear HO5541
              clear BK5501
              clear BK5502
              clear BK5503
              clear BK5508
              clear BK5514
              clear BK5515
              clear HB
              have HO5541 := n0_
              have HO5544 := n1_
              have BK5501 := n2_
              have BK5502 := n3_
              have BK5503 := n4_
              have BK5508 := n5_
              have BK5514 := n6_
              have BK5515 := n7_
              have HB := n8_
              clear n0_ n1_ n2_ n3_ n4_ n5_ n6_ n7_ n8_
              (try clear hb)
              (try clear hb2)
              (try clear hk)
              (try clear hi)
              (try clear ho0)
              obtain ⟨Ao180, co180, eo180⟩ := Kd.R_slice HO5541.out
              (first | subst eo180 | (injection eo180 with f1_ f2_ f3_; have f4_ := f1_.symm; have f5_ := f3_.symm; clear f1_ f2_ f3_; subst f4_; subst f5_))
              obtain ⟨Ao181, co181, eo181⟩ := Kd.R_slice HO5544.out
              (first | subst eo181 | (injection eo181 with f1_ f2_ f3_; have f4_ := f1_.symm; have f5_ := f3_.symm; clear f1_ f2_ f3_; subst f4_; subst f5_))
              refine hK.out _ _ ⟨bc BK5502 0, bc BK5502 1, bc BK5502 2, bc BK5503 0, bc BK5503 1⟩ (fun hHeld => ?_)
              clear hK K
              refine nrm (some 85) ?_
              refine one_ (i := 4) (N := some 86) #[true, true, true, true, true, false, false, false, false, false] rfl rfl (one_of HT_.out (by kernel_rfl)) (by decide) (fun K hK => ?_)
              refine goes_ Try.func14 (by kernel_rfl) rfl #[.slice Ao180 t5539.length co180, .slice Ao181 t5542.length co181] (by rfl) rfl rfl pa ?_
              with_reducible refine (flyballref01_Div.calls kj8 _ _ t5539 _ _ t5542 t5545 t5546 _ ?side1 ?side2 ?side3 ?side4 A166.out).mono ?_
              (case side1 => repeat (first | exact (Kd.R_reads' HO5541.out).2.2 | (with_reducible refine Kd.C_alloc ?_ _) | (with_reducible refine Kd.C_drewN ?_ _) | (with_reducible refine Kd.C_drew ?_)))
              (case side2 => exact (Kd.R_reads' HO5541.out).2.1)
              (case side3 => repeat (first | exact (Kd.R_reads' HO5544.out).2.2 | (with_reducible refine Kd.C_alloc ?_ _) | (with_reducible refine Kd.C_drewN ?_ _) | (with_reducible refine Kd.C_drew ?_)))
              (case side4 => exact (Kd.R_reads' HO5544.out).2.1)
              rintro e w182 ⟨v5547, v5549, rfl, ho0, ho1, hb⟩
              refine ⟨_, rfl, ?_⟩
              have n0_ := Aside0.mk (Kd.R_mono (Kd.R_told (Kd.R_told (Kd.R_old (by (with_reducible repeat (first | apply Kd.R_alloc | apply Kd.R_drewN | apply Kd.R_drew)); exact HO5541.out) hb) (Kd.R_base ho0)) (Kd.R_base ho1)) (fun _ h_ => h_.1))
              have n1_ := Aside0.mk (Kd.R_mono (Kd.R_told (Kd.R_told (Kd.R_old (by (with_reducible repeat (first | apply Kd.R_alloc | apply Kd.R_drewN | apply Kd.R_drew)); exact HO5544.out) hb) (Kd.R_base ho0)) (Kd.R_base ho1)) (fun _ h_ => h_.1))
              have n2_ := Aside0.mk (Kd.R_lower (Kd.R_new' (Kd.R_new' ho0 (Kd.R_lt (by (with_reducible repeat (first | apply Kd.R_alloc | apply Kd.R_drewN | apply Kd.R_drew)); exact HO5541.out))) (Kd.R_lt (by (with_reducible repeat (first | apply Kd.R_alloc | apply Kd.R_drewN | apply Kd.R_drew)); exact HO5544.out))) (below_size (pl HB)))
              have n3_ := Aside0.mk (Kd.R_lower (Kd.R_new' (Kd.R_new' ho1 (Kd.R_lt (by (with_reducible repeat (first | apply Kd.R_alloc | apply Kd.R_drewN | apply Kd.R_drew)); exact HO5541.out))) (Kd.R_lt (by (with_reducible repeat (first | apply Kd.R_alloc | apply Kd.R_drewN | apply Kd.R_drew)); exact HO5544.out))) (below_size (pl HB)))
              have n4_ := kb BK5501 hb
              have n5_ := kb BK5502 hb
              have n6_ := kb BK5503 hb
              have n7_ := kb BK5508 hb
              have n8_ := kb BK5514 hb
              have n9_ := kb BK5515 hb
              have n10_ := kh HB hb
              clear HO5541
              clear HO5544
              clear BK5501
              clear BK5502
              clear BK5503
              clear BK5508
              clear BK5514
              clear BK5515
              clear HB
              have HO5541 := n0_
              have HO5544 := n1_
              have HO5548 := n2_
              have HO5550 := n3_
              have BK5501 := n4_
              have BK5502 := n5_
              have BK5503 := n6_
              have BK5508 := n7_
              have BK5514 := n8_
              have BK5515 := n9_
              have HB := n10_
              clear n0_ n1_ n2_ n3_ n4_ n5_ n6_ n7_ n8_ n9_ n10_
              (try clear hb)
              (try clear hb2)
              (try clear hk)
              (try clear hi)
              (try clear ho0)
              (try clear ho1)
              refine hK.out _ _ ⟨bc BK5502 0, bc BK5502 1, bc BK5502 2, bc BK5503 0, bc BK5503 1⟩ (fun hHeld => ?_)
              clear hK K
              refine nrm (some 86) ?_
              refine pur 5 (some 81) #[true, true, true, true, true, true, false, false, false, false] (any_of HT_.out (by kernel_rfl)) ?_
              refine pur 6 (some 87) #[true, true, true, true, true, true, true, false, false, false] (any_of HT_.out (by kernel_rfl)) ?_
              refine pur 7 (some 88) #[true, true, true, true, true, true, true, true, false, false] (any_of HT_.out (by kernel_rfl)) ?_
              refine pur 8 (some 17) #[true, true, true, true, true, true, true, true, true, false] (any_of HT_.out (by kernel_rfl)) ?_
              refine pur 9 (some 18) #[true, true, true, true, true, true, true, true, true, true] (any_of HT_.out (by kernel_rfl)) ?_
              refine done_ (done_of HT_.out (by kernel_rfl)) ?_
              have hnb183 := NB5514_5501.out
              have hnc183 := NB5501_5514.out
              have hnb184 := NB5514_5502.out
              have hnc184 := NB5502_5514.out
              have hnb185 := NB5514_5508.out
              have hnc185 := NB5508_5514.out
              have hnb186 := NB5514_5515.out
              have hnc186 := NB5515_5514.out
              have ⟨hcz187_0, hcz187_1, hcz187_2, hfz187_0, hfz187_1, hfz187_2⟩ := kz3f BK5514
              obtain ⟨Ao188, co188, eo188⟩ := Kd.R_slice HO5548.out
              subst eo188
              try go_wp2_with (first | ((with_reducible refine gate_callee (f := 20) rfl ?_); refine goesL_ (some 91) rfl rfl Try.func20 (by kernel_rfl) rfl #[.agg #[.int .u64 t5509, .int .u64 t5510, .int .u64 t5511], .slice Ao188 t5545.length co188] rfl pa ?_; (with_reducible refine (flyballlaw01_is3.calls kj8 t5509 t5510 t5511 _ _ t5545 true _ ?side1 ?side2 A167.out).mono ?_); (case side1 => repeat (first | exact (Kd.R_reads' HO5548.out).2.2 | (with_reducible refine Kd.C_alloc ?_ _) | (with_reducible refine Kd.C_drewN ?_ _) | (with_reducible refine Kd.C_drew ?_))); (case side2 => exact (Kd.R_reads' HO5548.out).2.1); rintro e w189 ⟨rfl, hb⟩; refine ⟨_, rfl, ?_⟩; have n0_ := Aside0.mk (Kd.R_below (by (with_reducible repeat (first | apply Kd.R_alloc | apply Kd.R_drewN | apply Kd.R_drew)); exact HO5541.out) hb); have n1_ := Aside0.mk (Kd.R_below (by (with_reducible repeat (first | apply Kd.R_alloc | apply Kd.R_drewN | apply Kd.R_drew)); exact HO5544.out) hb); have n2_ := Aside0.mk (Kd.R_below (by (with_reducible repeat (first | apply Kd.R_alloc | apply Kd.R_drewN | apply Kd.R_drew)); exact HO5548.out) hb); have n3_ := Aside0.mk (Kd.R_below (by (with_reducible repeat (first | apply Kd.R_alloc | apply Kd.R_drewN | apply Kd.R_drew)); exact HO5550.out) hb); have n4_ := kb BK5501 hb; have n5_ := kb BK5502 hb; have n6_ := kb BK5503 hb; have n7_ := kb BK5508 hb; have n8_ := kb BK5514 hb; have n9_ := kb BK5515 hb; have n10_ := kh HB hb; clear HO5541; clear HO5544; clear HO5548; clear HO5550; clear BK5501; clear BK5502; clear BK5503; clear BK5508; clear BK5514; clear BK5515; clear HB; have HO5541 := n0_; have HO5544 := n1_; have HO5548 := n2_; have HO5550 := n3_; have BK5501 := n4_; have BK5502 := n5_; have BK5503 := n6_; have BK5508 := n7_; have BK5514 := n8_; have BK5515 := n9_; have HB := n10_; clear n0_ n1_ n2_ n3_ n4_ n5_ n6_ n7_ n8_ n9_ n10_; (try clear hb); (try clear hb2); (try clear hk); (try clear hi); have hnb190 := NB5515_5501.out; have hnc190 := NB5501_5515.out; have hnb191 := NB5515_5502.out; have hnc191 := NB5502_5515.out; have hnb192 := NB5515_5508.out; have hnc192 := NB5508_5515.out; have hcz193_0 : w189.cell? ⟨gb5515, 0, none⟩ = some (.int .u64 t5512) := bc BK5515 0; have hcz193_1 : w189.cell? ⟨gb5515, 1, none⟩ = some (.int .u64 t5513) := bc BK5515 1; have hfz193_0 := blk_frozen BK5515.out 0; have hfz193_1 := blk_frozen BK5515.out 1; obtain ⟨Ao194, co194, eo194⟩ := Kd.R_slice HO5550.out; subst eo194) | ((with_reducible refine gate_callee (f := 17) rfl ?_); refine goesL_ (some 94) rfl rfl Try.func17 (by kernel_rfl) rfl #[.agg #[.int .u64 t5512, .int .u64 t5513], .slice Ao194 t5546.length co194] rfl pa ?_; (with_reducible refine (flyballlaw01_is.calls kj8 t5512 t5513 _ _ t5546 t5552 _ ?side1 ?side2 A168.out).mono ?_); (case side1 => repeat (first | exact (Kd.R_reads' HO5550.out).2.2 | (with_reducible refine Kd.C_alloc ?_ _) | (with_reducible refine Kd.C_drewN ?_ _) | (with_reducible refine Kd.C_drew ?_))); (case side2 => exact (Kd.R_reads' HO5550.out).2.1); rintro e w195 ⟨rfl, hb⟩; refine ⟨_, rfl, ?_⟩; have n0_ := Aside0.mk (Kd.R_below (by (with_reducible repeat (first | apply Kd.R_alloc | apply Kd.R_drewN | apply Kd.R_drew)); exact HO5541.out) hb); have n1_ := Aside0.mk (Kd.R_below (by (with_reducible repeat (first | apply Kd.R_alloc | apply Kd.R_drewN | apply Kd.R_drew)); exact HO5544.out) hb); have n2_ := Aside0.mk (Kd.R_below (by (with_reducible repeat (first | apply Kd.R_alloc | apply Kd.R_drewN | apply Kd.R_drew)); exact HO5548.out) hb); have n3_ := Aside0.mk (Kd.R_below (by (with_reducible repeat (first | apply Kd.R_alloc | apply Kd.R_drewN | apply Kd.R_drew)); exact HO5550.out) hb); have n4_ := kb BK5501 hb; have n5_ := kb BK5502 hb; have n6_ := kb BK5503 hb; have n7_ := kb BK5508 hb; have n8_ := kb BK5514 hb; have n9_ := kb BK5515 hb; have n10_ := kh HB hb; clear HO5541; clear HO5544; clear HO5548; clear HO5550; clear BK5501; clear BK5502; clear BK5503; clear BK5508; clear BK5514; clear BK5515; clear HB; have HO5541 := n0_; have HO5544 := n1_; have HO5548 := n2_; have HO5550 := n3_; have BK5501 := n4_; have BK5502 := n5_; have BK5503 := n6_; have BK5508 := n7_; have BK5514 := n8_; have BK5515 := n9_; have HB := n10_; clear n0_ n1_ n2_ n3_ n4_ n5_ n6_ n7_ n8_ n9_ n10_; (try clear hb); (try clear hb2); (try clear hk); (try clear hi)))
              go_ret
              exact ⟨pe, pl HB⟩
            · replace c170 := Bool.eq_false_iff.mpr c170
              subst c170
              rw [if_neg (show ¬ (false = true) by decide)] at H
              exact absurd H (by simp)
          · exact absurd rfl c169
  · replace c6 := Bool.eq_false_iff.mpr c6
    subst c6
    rw [if_neg (show ¬ (false = true) by decide)] at H
    obtain rfl := Option.some.inj H
    go_enter Try.func3, Try.ntmps3
    go_wp2_with (first | ((with_reducible refine gate_dst (N := 4) rfl ?_); (try (refine gate_guard (by rfl) ?_; dsimp only)); refine kx 4 #[.int .u64 a0_0, .int .u64 a0_1] 24 ?_; intro gb5501 hg w196 hbox hb; have BK5501 := Aside0.mk (hbox); have GW5501 := kg HB hg; have GE5501 := kg HB hg; replace HB := kh HB hb; clear hb hbox hg) | ((with_reducible refine gate_dst (N := 6) rfl ?_); (try (refine gate_guard (by rfl) ?_; dsimp only)); refine kx 6 #[.int .u64 a2_0, .int .u64 a2_1, .int .u64 a2_2] 26 ?_; intro gb5502 hg w197 hbox hb; have BK5502 := Aside0.mk (hbox); have GW5502 := kg HB hg; have GE5502 := kg HB hg; have NB5501_5502 := kn BK5501 hg; have NB5502_5501 := km BK5501 hg; replace BK5501 := kb BK5501 hb; replace HB := kh HB hb; clear hb hbox hg) | ((with_reducible refine gate_dst (N := 7) rfl ?_); (try (refine gate_guard (by rfl) ?_; dsimp only)); refine kx 7 #[.int .u64 a3_0, .int .u64 a3_1] 24 ?_; intro gb5503 hg w198 hbox hb; have BK5503 := Aside0.mk (hbox); have GW5503 := kg HB hg; have GE5503 := kg HB hg; have NB5501_5503 := kn BK5501 hg; have NB5503_5501 := km BK5501 hg; have NB5502_5503 := kn BK5502 hg; have NB5503_5502 := km BK5502 hg; replace BK5501 := kb BK5501 hb; replace BK5502 := kb BK5502 hb; replace HB := kh HB hb; clear hb hbox hg) | ((with_reducible refine gate_callee (f := 11) rfl ?_); refine kc (some 21) Try.func11 #[] (flyballlaw01_works.calls k  false _ A5.out) ?_; intro w199 hb; replace BK5501 := kb BK5501 hb; replace BK5502 := kb BK5502 hb; replace BK5503 := kb BK5503 hb; replace HB := kh HB hb; (try clear hb); (try clear hb2); (try clear hk); (try clear hi)))
    go_ret
    exact ⟨pe, pl HB⟩
end Go.Proofs.Ytdchdapllehppaa.PAll
end
