/- Functions of the print, turned to this claim. -/
import Derived.Test.YtinmgnlofininaaZHW
import Derived.Test.YtinmgnlofininaaZHx0
import Derived.Test.YtinmgnlofininaaZHx16
import Derived.Test.YtinmgnlofininaaZHx19
section
namespace Go.Proofs.Ytinmgnlofininaa.PAll
open Go.RowKit Go.Proofs.YtinmgnlofininaaW.PrintWords Go.Proofs.YtinmgnlofininaaW.PrintLast Go.Proofs.YtinmgnlofininaaW.PrintMore
attribute [local go_sem] max2_int min2_int max_two min_two max_three min_three max_four min_four   -- for this text's walks alone
set_option linter.unusedVariables false
set_option linter.unusedSimpArgs false
/-! ### flyballref17_Hull: function 49 -/
mutual
def flyballref17_Hull.j0 : Nat → Int → Bool → Bool → Int → Int → Bool → Int → Int → Bool → Int → Int → Option (Bool × Int × Int)
  | 0, _, _, _, _, _, _, _, _, _, _, _ => none
  | k + 1, x0, x23, x6258000, x6258001, x6258002, x6262000, x6262001, x6262002, x6263000, x6263001, x6263002 => if x23 = true then (some (x6263000, x6263001, x6263002)) else (flyballref17_Hull.l0 k x0 x6258001 x6258000 x6258001 x6258002 x6262000 x6262001 x6262002 x6263000 x6263001 x6263002)
def flyballref17_Hull.l0 : Nat → Int → Int → Bool → Int → Int → Bool → Int → Int → Bool → Int → Int → Option (Bool × Int × Int)
  | 0, _, _, _, _, _, _, _, _, _, _, _ => none
  | k + 1, x0, x10, x6258000, x6258001, x6258002, x6262000, x6262001, x6262002, x6263000, x6263001, x6263002 => if x10 ≤ x6258002 then (flyballref17_Hull.l1 k x0 x10 x6262001 x6258000 x6258001 x6258002 x6262000 x6262001 x6262002 x6263000 x6263001 x6263002) else (if x6263000 = true then (some (x6263000, x6263001, x6263002)) else (some (false, mx (mn x6263001 1099511627775) (-1099511627776), mx (mn x6263002 1099511627776) (-1099511627775))))
def flyballref17_Hull.l1 : Nat → Int → Int → Int → Bool → Int → Int → Bool → Int → Int → Bool → Int → Int → Option (Bool × Int × Int)
  | 0, _, _, _, _, _, _, _, _, _, _, _, _ => none
  | k + 1, x0, x10, x11, x6258000, x6258001, x6258002, x6262000, x6262001, x6262002, x6263000, x6263001, x6263002 => if x11 ≤ x6262002 then (if x0 = 1 then (if x6263000 = true then (flyballref17_Hull.l1 k x0 x10 (wrap64 (x11 + 1)) x6258000 x6258001 x6258002 x6262000 x6262001 x6262002 false (mn (wrap64 (x10 - x11)) (wrap64 (x10 - x11))) (mx (wrap64 (x10 - x11)) (wrap64 (x10 - x11)))) else (flyballref17_Hull.l1 k x0 x10 (wrap64 (x11 + 1)) x6258000 x6258001 x6258002 x6262000 x6262001 x6262002 x6263000 (mn x6263001 (wrap64 (x10 - x11))) (mx x6263002 (wrap64 (x10 - x11))))) else (if x0 = 2 then ((flyballref17_times.f k x10 x11).bind fun t6263 => (if x6263000 = true then (flyballref17_Hull.l1 k x0 x10 (wrap64 (x11 + 1)) x6258000 x6258001 x6258002 x6262000 x6262001 x6262002 false (mn t6263 t6263) (mx t6263 t6263)) else (flyballref17_Hull.l1 k x0 x10 (wrap64 (x11 + 1)) x6258000 x6258001 x6258002 x6262000 x6262001 x6262002 x6263000 (mn x6263001 t6263) (mx x6263002 t6263)))) else (if x0 = 3 then (if x11 = 0 then (flyballref17_Hull.l1 k x0 x10 (wrap64 (x11 + 1)) x6258000 x6258001 x6258002 x6262000 x6262001 x6262002 x6263000 x6263001 x6263002) else (if x6263000 = true then (flyballref17_Hull.l1 k x0 x10 (wrap64 (x11 + 1)) x6258000 x6258001 x6258002 x6262000 x6262001 x6262002 false (mn (wrap64 (Int.tdiv x10 x11)) (wrap64 (Int.tdiv x10 x11))) (mx (wrap64 (Int.tdiv x10 x11)) (wrap64 (Int.tdiv x10 x11)))) else (flyballref17_Hull.l1 k x0 x10 (wrap64 (x11 + 1)) x6258000 x6258001 x6258002 x6262000 x6262001 x6262002 x6263000 (mn x6263001 (wrap64 (Int.tdiv x10 x11))) (mx x6263002 (wrap64 (Int.tdiv x10 x11)))))) else (if x6263000 = true then (flyballref17_Hull.l1 k x0 x10 (wrap64 (x11 + 1)) x6258000 x6258001 x6258002 x6262000 x6262001 x6262002 false (mn (wrap64 (x10 + x11)) (wrap64 (x10 + x11))) (mx (wrap64 (x10 + x11)) (wrap64 (x10 + x11)))) else (flyballref17_Hull.l1 k x0 x10 (wrap64 (x11 + 1)) x6258000 x6258001 x6258002 x6262000 x6262001 x6262002 x6263000 (mn x6263001 (wrap64 (x10 + x11))) (mx x6263002 (wrap64 (x10 + x11)))))))) else (flyballref17_Hull.l0 k x0 (wrap64 (x10 + 1)) x6258000 x6258001 x6258002 x6262000 x6262001 x6262002 x6263000 x6263001 x6263002)
end
def flyballref17_Hull.f (k : Nat) (a0 : Int) (a1_0 : Bool) (a1_1 : Int) (a1_2 : Int) (a2_0 : Bool) (a2_1 : Int) (a2_2 : Int) : Option (Bool × Int × Int) := (flyballref17_Norm.f a1_0 a1_1 a1_2).bind fun bt6254 => ((flyballref17_Norm.f a2_0 a2_1 a2_2).bind fun bt6258 => (if bt6254.1 = true then (flyballref17_Hull.j0 k a0 true bt6254.1 bt6254.2.1 bt6254.2.2 bt6258.1 bt6258.2.1 bt6258.2.2 true 0 0) else (flyballref17_Hull.j0 k a0 bt6258.1 bt6254.1 bt6254.2.1 bt6254.2.2 bt6258.1 bt6258.2.1 bt6258.2.2 true 0 0)))
theorem flyballref17_Hull.mono_l : ∀ k, (∀ y0 y1 y2 y3 y4 y5 y6 y7 y8 y9 y10, LeO (flyballref17_Hull.j0 k y0 y1 y2 y3 y4 y5 y6 y7 y8 y9 y10) (flyballref17_Hull.j0 (k + 1) y0 y1 y2 y3 y4 y5 y6 y7 y8 y9 y10)) ∧ (∀ y0 y1 y2 y3 y4 y5 y6 y7 y8 y9 y10, LeO (flyballref17_Hull.l0 k y0 y1 y2 y3 y4 y5 y6 y7 y8 y9 y10) (flyballref17_Hull.l0 (k + 1) y0 y1 y2 y3 y4 y5 y6 y7 y8 y9 y10)) ∧ (∀ y0 y1 y2 y3 y4 y5 y6 y7 y8 y9 y10 y11, LeO (flyballref17_Hull.l1 k y0 y1 y2 y3 y4 y5 y6 y7 y8 y9 y10 y11) (flyballref17_Hull.l1 (k + 1) y0 y1 y2 y3 y4 y5 y6 y7 y8 y9 y10 y11))
  | 0 => ⟨fun _ _ _ _ _ _ _ _ _ _ _ r h => by simp [flyballref17_Hull.j0] at h, fun _ _ _ _ _ _ _ _ _ _ _ r h => by simp [flyballref17_Hull.l0] at h, fun _ _ _ _ _ _ _ _ _ _ _ _ r h => by simp [flyballref17_Hull.l1] at h⟩
  | k + 1 => by
    obtain ⟨ih0, ih1, ih2⟩ := flyballref17_Hull.mono_l k
    refine ⟨?_, ?_, ?_⟩
    · intro y0 y1 y2 y3 y4 y5 y6 y7 y8 y9 y10
      unfold flyballref17_Hull.j0
      repeat' first
      | (with_reducible exact ih0 _ _ _ _ _ _ _ _ _ _ _)
      | (with_reducible exact ih1 _ _ _ _ _ _ _ _ _ _ _)
      | (with_reducible exact ih2 _ _ _ _ _ _ _ _ _ _ _ _)
      | (with_reducible exact flyballref17_times.mono _ _ _)
      | (with_reducible exact LeO.refl _)
      | (with_reducible exact LeO.none _)
      | (with_reducible refine LeO.ite ?_ ?_)
      | (with_reducible refine LeO.bind ?_ (fun _ => ?_))
      | exact ih0 _ _ _ _ _ _ _ _ _ _ _
      | exact ih1 _ _ _ _ _ _ _ _ _ _ _
      | exact ih2 _ _ _ _ _ _ _ _ _ _ _ _
      | exact flyballref17_times.mono _ _ _
      | exact LeO.none _
      | refine LeO.ite ?_ ?_
      | refine LeO.bind ?_ (fun _ => ?_)
    · intro y0 y1 y2 y3 y4 y5 y6 y7 y8 y9 y10
      unfold flyballref17_Hull.l0
      repeat' first
      | (with_reducible exact ih0 _ _ _ _ _ _ _ _ _ _ _)
      | (with_reducible exact ih1 _ _ _ _ _ _ _ _ _ _ _)
      | (with_reducible exact ih2 _ _ _ _ _ _ _ _ _ _ _ _)
      | (with_reducible exact flyballref17_times.mono _ _ _)
      | (with_reducible exact LeO.refl _)
      | (with_reducible exact LeO.none _)
      | (with_reducible refine LeO.ite ?_ ?_)
      | (with_reducible refine LeO.bind ?_ (fun _ => ?_))
      | exact ih0 _ _ _ _ _ _ _ _ _ _ _
      | exact ih1 _ _ _ _ _ _ _ _ _ _ _
      | exact ih2 _ _ _ _ _ _ _ _ _ _ _ _
      | exact flyballref17_times.mono _ _ _
      | exact LeO.none _
      | refine LeO.ite ?_ ?_
      | refine LeO.bind ?_ (fun _ => ?_)
    · intro y0 y1 y2 y3 y4 y5 y6 y7 y8 y9 y10 y11
      unfold flyballref17_Hull.l1
      repeat' first
      | (with_reducible exact ih0 _ _ _ _ _ _ _ _ _ _ _)
      | (with_reducible exact ih1 _ _ _ _ _ _ _ _ _ _ _)
      | (with_reducible exact ih2 _ _ _ _ _ _ _ _ _ _ _ _)
      | (with_reducible exact flyballref17_times.mono _ _ _)
      | (with_reducible exact LeO.refl _)
      | (with_reducible exact LeO.none _)
      | (with_reducible refine LeO.ite ?_ ?_)
      | (with_reducible refine LeO.bind ?_ (fun _ => ?_))
      | exact ih0 _ _ _ _ _ _ _ _ _ _ _
      | exact ih1 _ _ _ _ _ _ _ _ _ _ _
      | exact ih2 _ _ _ _ _ _ _ _ _ _ _ _
      | exact flyballref17_times.mono _ _ _
      | exact LeO.none _
      | refine LeO.ite ?_ ?_
      | refine LeO.bind ?_ (fun _ => ?_)
theorem flyballref17_Hull.mono : ∀ a0 a1 a2 a3 a4 a5 a6 k, LeO (flyballref17_Hull.f k a0 a1 a2 a3 a4 a5 a6) (flyballref17_Hull.f (k + 1) a0 a1 a2 a3 a4 a5 a6) := by
  intro a0 a1 a2 a3 a4 a5 a6 k
  obtain ⟨ih0, ih1, ih2⟩ := flyballref17_Hull.mono_l k
  unfold flyballref17_Hull.f
  repeat' first
      | (with_reducible exact ih0 _ _ _ _ _ _ _ _ _ _ _)
      | (with_reducible exact ih1 _ _ _ _ _ _ _ _ _ _ _)
      | (with_reducible exact ih2 _ _ _ _ _ _ _ _ _ _ _ _)
      | (with_reducible exact flyballref17_times.mono _ _ _)
      | (with_reducible exact LeO.refl _)
      | (with_reducible exact LeO.none _)
      | (with_reducible refine LeO.ite ?_ ?_)
      | (with_reducible refine LeO.bind ?_ (fun _ => ?_))
      | exact ih0 _ _ _ _ _ _ _ _ _ _ _
      | exact ih1 _ _ _ _ _ _ _ _ _ _ _
      | exact ih2 _ _ _ _ _ _ _ _ _ _ _ _
      | exact flyballref17_times.mono _ _ _
      | exact LeO.none _
      | refine LeO.ite ?_ ?_
      | refine LeO.bind ?_ (fun _ => ?_)
set_option maxHeartbeats 8000000 in
set_option maxRecDepth 100000 in
theorem flyballref17_Hull.calls (k : Nat) (a0 : Int) (a1_0 : Bool) (a1_1 : Int) (a1_2 : Int) (a2_0 : Bool) (a2_1 : Int) (a2_2 : Int) (r1 : Bool) (r2 : Int) (r3 : Int) (w : World) (h : flyballref17_Hull.f k a0 a1_0 a1_1 a1_2 a2_0 a2_1 a2_2 = some (r1, r2, r3)) :
    Calls Try.prog 49 #[.int .i64 a0, .agg #[.bool a1_0, .int .i64 a1_1, .int .i64 a1_2], .agg #[.bool a2_0, .int .i64 a2_1, .int .i64 a2_2]] w fun e w' => e = .returned (.agg #[.bool r1, .int .i64 r2, .int .i64 r3]) ∧ Below w.heap.size w w' := by
  have hu23 := Try.underlying23
  have HB := Aside0.mk (Below.refl w.heap.size w)
  have H := h
  clear h
  unfold flyballref17_Hull.f at H
  obtain ⟨⟨t6254, t6255, t6256⟩, A40, H⟩ := Option.bind_eq_some_iff.mp H
  have A4 := Aside0.mk A40
  clear A40
  (try dsimp only at H)
  obtain ⟨⟨t6258, t6259, t6260⟩, A50, H⟩ := Option.bind_eq_some_iff.mp H
  have A5 := Aside0.mk A50
  clear A50
  (try dsimp only at H)
  have HC6 := Aside0.mk H
  clear H
  go_enter Try.func49, Try.ntmps49
  go_upto_region 4 with (first | ((with_reducible refine gate_dst (N := 4) rfl ?_); refine kx 4 #[.bool a1_0, .int .i64 a1_1, .int .i64 a1_2] 23 ?_; intro gb6251 hg w7 hbox hb; have BK6251 := Aside0.mk (hbox); have GW6251 := kg HB hg; have GE6251 := kg HB hg; replace HB := kh HB hb; clear hb hbox hg) | ((with_reducible refine gate_dst (N := 5) rfl ?_); refine kx 5 #[.bool a2_0, .int .i64 a2_1, .int .i64 a2_2] 23 ?_; intro gb6252 hg w8 hbox hb; have BK6252 := Aside0.mk (hbox); have GW6252 := kg HB hg; have GE6252 := kg HB hg; have NB6251_6252 := kn BK6251 hg; have NB6252_6251 := km BK6251 hg; replace BK6251 := kb BK6251 hb; replace HB := kh HB hb; clear hb hbox hg) | ((with_reducible refine gate_dst (N := 6) rfl ?_); refine kx 6 #[.bool false, .int .i64 0, .int .i64 0] 23 ?_; intro gb6253 hg w9 hbox hb; have BK6253 := Aside0.mk (hbox); have GW6253 := kg HB hg; have GE6253 := kg HB hg; have NB6251_6253 := kn BK6251 hg; have NB6253_6251 := km BK6251 hg; have NB6252_6253 := kn BK6252 hg; have NB6253_6252 := km BK6252 hg; replace BK6251 := kb BK6251 hb; replace BK6252 := kb BK6252 hb; replace HB := kh HB hb; clear hb hbox hg; have hnb10 := NB6251_6252.out; have hnc10 := NB6252_6251.out; have hnb11 := NB6251_6253.out; have hnc11 := NB6253_6251.out; have ⟨hcz12_0, hcz12_1, hcz12_2, hfz12_0, hfz12_1, hfz12_2⟩ := kz3f BK6251) | ((with_reducible refine gate_callee (f := 39) rfl ?_); refine kc (some 14) Try.func39 #[.agg #[.bool a1_0, .int .i64 a1_1, .int .i64 a1_2]] (flyballref17_Norm.calls a1_0 a1_1 a1_2 t6254 t6255 t6256 _ A4.out) ?_; intro w13 hb; replace BK6251 := kb BK6251 hb; replace BK6252 := kb BK6252 hb; replace BK6253 := kb BK6253 hb; replace HB := kh HB hb; (try clear hb)) | ((with_reducible refine gate_dst (N := 7) rfl ?_); refine kx 7 #[.bool false, .int .i64 0, .int .i64 0] 23 ?_; intro gb6257 hg w14 hbox hb; have BK6257 := Aside0.mk (hbox); have GW6257 := kg HB hg; have GE6257 := kg HB hg; have NB6251_6257 := kn BK6251 hg; have NB6257_6251 := km BK6251 hg; have NB6252_6257 := kn BK6252 hg; have NB6257_6252 := km BK6252 hg; have NB6253_6257 := kn BK6253 hg; have NB6257_6253 := km BK6253 hg; replace BK6251 := kb BK6251 hb; replace BK6252 := kb BK6252 hb; replace BK6253 := kb BK6253 hb; replace HB := kh HB hb; clear hb hbox hg; have hnb15 := NB6257_6251.out; have hnc15 := NB6251_6257.out; have hnb16 := NB6257_6252.out; have hnc16 := NB6252_6257.out; have hnb17 := NB6257_6253.out; have hnc17 := NB6253_6257.out; have ⟨hcz18_0, hcz18_1, hcz18_2, hfz18_0, hfz18_1, hfz18_2⟩ := kz3f BK6257; have hnb19 := NB6252_6253.out; have hnc19 := NB6253_6252.out; have ⟨hcz20_0, hcz20_1, hcz20_2, hfz20_0, hfz20_1, hfz20_2⟩ := kz3f BK6252) | ((with_reducible refine gate_callee (f := 39) rfl ?_); refine kc (some 16) Try.func39 #[.agg #[.bool a2_0, .int .i64 a2_1, .int .i64 a2_2]] (flyballref17_Norm.calls a2_0 a2_1 a2_2 t6258 t6259 t6260 _ A5.out) ?_; intro w21 hb; replace BK6251 := kb BK6251 hb; replace BK6252 := kb BK6252 hb; replace BK6253 := kb BK6253 hb; replace BK6257 := kb (o' := .cells #[.bool t6254, .int .i64 t6255, .int .i64 t6256] 23 (0, 0)) BK6257 hb; replace HB := kh HB hb; (try clear hb)) | ((with_reducible refine gate_dst (N := 8) rfl ?_); refine kx 8 #[.bool false, .int .i64 0, .int .i64 0] 23 ?_; intro gb6261 hg w22 hbox hb; have BK6261 := Aside0.mk (hbox); have GW6261 := kg HB hg; have GE6261 := kg HB hg; have NB6251_6261 := kn BK6251 hg; have NB6261_6251 := km BK6251 hg; have NB6252_6261 := kn BK6252 hg; have NB6261_6252 := km BK6252 hg; have NB6253_6261 := kn BK6253 hg; have NB6261_6253 := km BK6253 hg; have NB6257_6261 := kn BK6257 hg; have NB6261_6257 := km BK6257 hg; replace BK6251 := kb BK6251 hb; replace BK6252 := kb BK6252 hb; replace BK6253 := kb BK6253 hb; replace BK6257 := kb BK6257 hb; replace HB := kh HB hb; clear hb hbox hg; have hnb23 := NB6261_6251.out; have hnc23 := NB6251_6261.out; have hnb24 := NB6261_6252.out; have hnc24 := NB6252_6261.out; have hnb25 := NB6261_6253.out; have hnc25 := NB6253_6261.out; have hnb26 := NB6261_6257.out; have hnc26 := NB6257_6261.out; have ⟨hcz27_0, hcz27_1, hcz27_2, hfz27_0, hfz27_1, hfz27_2⟩ := kz3f BK6261) | ((with_reducible refine gate_dst (N := 9) rfl ?_); refine kx 9 #[.bool false, .int .i64 0, .int .i64 0] 23 ?_; intro gb6262 hg w28 hbox hb; have BK6262 := Aside0.mk (hbox); have GW6262 := kg HB hg; have GE6262 := kg HB hg; have NB6251_6262 := kn BK6251 hg; have NB6262_6251 := km BK6251 hg; have NB6252_6262 := kn BK6252 hg; have NB6262_6252 := km BK6252 hg; have NB6253_6262 := kn BK6253 hg; have NB6262_6253 := km BK6253 hg; have NB6257_6262 := kn BK6257 hg; have NB6262_6257 := km BK6257 hg; have NB6261_6262 := kn BK6261 hg; have NB6262_6261 := km BK6261 hg; replace BK6251 := kb BK6251 hb; replace BK6252 := kb BK6252 hb; replace BK6253 := kb BK6253 hb; replace BK6257 := kb BK6257 hb; replace BK6261 := kb (o' := .cells #[.bool t6258, .int .i64 t6259, .int .i64 t6260] 23 (0, 0)) BK6261 hb; replace HB := kh HB hb; clear hb hbox hg; have hnb29 := NB6262_6251.out; have hnc29 := NB6251_6262.out; have hnb30 := NB6262_6252.out; have hnc30 := NB6252_6262.out; have hnb31 := NB6262_6253.out; have hnc31 := NB6253_6262.out; have hnb32 := NB6262_6257.out; have hnc32 := NB6257_6262.out; have hnb33 := NB6262_6261.out; have hnc33 := NB6261_6262.out; have ⟨hcz34_0, hcz34_1, hcz34_2, hfz34_0, hfz34_1, hfz34_2⟩ := kz3f BK6262))
  (try simp only [Act.put, List.setIfInBounds_toArray, List.set_cons_zero, List.set_cons_succ])
  go_cut [23] (fun v23 wc => ∃ (kq : Nat) (x23_5 : Bool), v23 = .bool x23_5 ∧ Aside0 (flyballref17_Hull.j0 kq a0 x23_5 t6254 t6255 t6256 t6258 t6259 t6260 true 0 0 = some (r1, r2, r3)) ∧ Aside0 (kq ≤ k) ∧ Aside0 (wc.heap[gb6251]? = some (.cells #[.bool a1_0, .int .i64 a1_1, .int .i64 a1_2] 23 (0, 0))) ∧ Aside0 (wc.heap[gb6252]? = some (.cells #[.bool a2_0, .int .i64 a2_1, .int .i64 a2_2] 23 (0, 0))) ∧ Aside0 (wc.heap[gb6253]? = some (.cells #[.bool false, .int .i64 0, .int .i64 0] 23 (0, 0))) ∧ Aside0 (wc.heap[gb6257]? = some (.cells #[.bool t6254, .int .i64 t6255, .int .i64 t6256] 23 (0, 0))) ∧ Aside0 (wc.heap[gb6261]? = some (.cells #[.bool t6258, .int .i64 t6259, .int .i64 t6260] 23 (0, 0))) ∧ Aside0 (wc.heap[gb6262]? = some (.cells #[.bool true, .int .i64 0, .int .i64 0] 23 (0, 0))) ∧ Aside0 (Below w.heap.size w wc))
  case first =>
    have H := HC6.out
    clear HC6
    by_cases c35 : t6254 = true
    · subst c35
      rw [if_pos rfl] at H
      have H' := Aside0.mk H
      clear H
      have hnb36 := NB6257_6251.out
      have hnc36 := NB6251_6257.out
      have hnb37 := NB6257_6252.out
      have hnc37 := NB6252_6257.out
      have hnb38 := NB6257_6253.out
      have hnc38 := NB6253_6257.out
      have hnb39 := NB6257_6261.out
      have hnc39 := NB6261_6257.out
      have hnb40 := NB6257_6262.out
      have hnc40 := NB6262_6257.out
      have ⟨hcz41_0, hcz41_1, hcz41_2, hfz41_0, hfz41_1, hfz41_2⟩ := kz3f BK6257
      go_wp2
      go_meet
      case rel => exact ⟨_, (true), (by first | rfl | (simp; done) | (simp [*]; done)), H', ⟨by first | omega | exact Nat.le_refl _⟩, ⟨pk BK6251⟩, ⟨pk BK6252⟩, ⟨pk BK6253⟩, ⟨pk BK6257⟩, ⟨pk BK6261⟩, ⟨pK BK6262⟩, ⟨pl HB⟩⟩
    · replace c35 := Bool.eq_false_iff.mpr c35
      subst c35
      rw [if_neg (show ¬ (false = true) by decide)] at H
      have H' := Aside0.mk H
      clear H
      have hnb42 := NB6257_6251.out
      have hnc42 := NB6251_6257.out
      have hnb43 := NB6257_6252.out
      have hnc43 := NB6252_6257.out
      have hnb44 := NB6257_6253.out
      have hnc44 := NB6253_6257.out
      have hnb45 := NB6257_6261.out
      have hnc45 := NB6261_6257.out
      have hnb46 := NB6257_6262.out
      have hnc46 := NB6262_6257.out
      have ⟨hcz47_0, hcz47_1, hcz47_2, hfz47_0, hfz47_1, hfz47_2⟩ := kz3f BK6257
      have hnb48 := NB6261_6251.out
      have hnc48 := NB6251_6261.out
      have hnb49 := NB6261_6252.out
      have hnc49 := NB6252_6261.out
      have hnb50 := NB6261_6253.out
      have hnc50 := NB6253_6261.out
      have hnb51 := NB6261_6262.out
      have hnc51 := NB6262_6261.out
      have ⟨hcz52_0, hcz52_1, hcz52_2, hfz52_0, hfz52_1, hfz52_2⟩ := kz3f BK6261
      go_wp2
      go_meet
      case rel => exact ⟨_, (t6258), (by first | rfl | (simp; done) | (simp [*]; done)), H', ⟨by first | omega | exact Nat.le_refl _⟩, ⟨pk BK6251⟩, ⟨pk BK6252⟩, ⟨pk BK6253⟩, ⟨pk BK6257⟩, ⟨pk BK6261⟩, ⟨pK BK6262⟩, ⟨pl HB⟩⟩
  case rest =>
    clear HC6
    try clear c1
    try clear c2
    try clear p2
    try clear c3
    try clear c4
    try clear c5
    try clear c10
    try clear c11
    try clear c15
    try clear c16
    try clear c17
    try clear c19
    try clear c23
    try clear c24
    try clear c25
    try clear c26
    try clear c29
    try clear c30
    try clear c31
    try clear c32
    try clear c33
    try clear c35
    try clear c36
    try clear c37
    try clear c38
    try clear c39
    try clear c40
    try clear c42
    try clear c43
    try clear c44
    try clear c45
    try clear c46
    try clear c48
    try clear c49
    try clear c50
    try clear c51
    try clear hcz12_0
    try clear hcz12_1
    try clear hcz12_2
    try clear hcz18_0
    try clear hcz18_1
    try clear hcz18_2
    try clear hcz20_0
    try clear hcz20_1
    try clear hcz20_2
    try clear hcz27_0
    try clear hcz27_1
    try clear hcz27_2
    try clear hcz34_0
    try clear hcz34_1
    try clear hcz34_2
    try clear hcz41_0
    try clear hcz41_1
    try clear hcz41_2
    try clear hcz47_0
    try clear hcz47_1
    try clear hcz47_2
    try clear hcz52_0
    try clear hcz52_1
    try clear hcz52_2
    try clear hfz12_0
    try clear hfz12_1
    try clear hfz12_2
    try clear hfz18_0
    try clear hfz18_1
    try clear hfz18_2
    try clear hfz20_0
    try clear hfz20_1
    try clear hfz20_2
    try clear hfz27_0
    try clear hfz27_1
    try clear hfz27_2
    try clear hfz34_0
    try clear hfz34_1
    try clear hfz34_2
    try clear hfz41_0
    try clear hfz41_1
    try clear hfz41_2
    try clear hfz47_0
    try clear hfz47_1
    try clear hfz47_2
    try clear hfz52_0
    try clear hfz52_1
    try clear hfz52_2
    obtain ⟨kq, x23_5, rfl, HA, HJ5, BK6251, BK6252, BK6253, BK6257, BK6261, BK6262, HB⟩ := hcut
    cases kq with
    | zero => exact absurd HA.out (by simp [flyballref17_Hull.j0])
    | succ kj5 =>
      have H := HA.out
      clear HA
      simp only [flyballref17_Hull.j0] at H
      by_cases c53 : x23_5 = true
      · subst c53
        rw [if_pos rfl] at H
        simp only [Option.some.injEq, Prod.mk.injEq] at H
        obtain ⟨rfl, rfl, rfl⟩ := H
        have hnb54 := NB6262_6251.out
        have hnc54 := NB6251_6262.out
        have hnb55 := NB6262_6252.out
        have hnc55 := NB6252_6262.out
        have hnb56 := NB6262_6253.out
        have hnc56 := NB6253_6262.out
        have hnb57 := NB6262_6257.out
        have hnc57 := NB6257_6262.out
        have hnb58 := NB6262_6261.out
        have hnc58 := NB6261_6262.out
        have hcz59_0 : wc.cell? ⟨gb6262, 0, none⟩ = some (.bool true) := bc BK6262 0
        have hcz59_1 : wc.cell? ⟨gb6262, 1, none⟩ = some (.int .i64 0) := bc BK6262 1
        have hcz59_2 : wc.cell? ⟨gb6262, 2, none⟩ = some (.int .i64 0) := bc BK6262 2
        have hfz59_0 := blk_frozen BK6262.out 0
        have hfz59_1 := blk_frozen BK6262.out 1
        have hfz59_2 := blk_frozen BK6262.out 2
        have hnb60 := NB6253_6251.out
        have hnc60 := NB6251_6253.out
        have hnb61 := NB6253_6252.out
        have hnc61 := NB6252_6253.out
        have hnb62 := NB6253_6257.out
        have hnc62 := NB6257_6253.out
        have hnb63 := NB6253_6261.out
        have hnc63 := NB6261_6253.out
        have hcz64_0 : wc.cell? ⟨gb6253, 0, none⟩ = some (.bool false) := bc BK6253 0
        have hcz64_1 : wc.cell? ⟨gb6253, 1, none⟩ = some (.int .i64 0) := bc BK6253 1
        have hcz64_2 : wc.cell? ⟨gb6253, 2, none⟩ = some (.int .i64 0) := bc BK6253 2
        have hfz64_0 := blk_frozen BK6253.out 0
        have hfz64_1 := blk_frozen BK6253.out 1
        have hfz64_2 := blk_frozen BK6253.out 2
        go_wp2
        refine bodyPost_ret (results_cell_row rfl _ _ gb6253 23 #[.bool true, .int .i64 0, .int .i64 0] (0, 0) _ rfl (pK BK6253) Try.underlying23 rfl (by kernel_rfl)) rfl ?_
        exact ⟨pe, pl HB⟩
      · replace c53 := Bool.eq_false_iff.mpr c53
        subst c53
        rw [if_neg (show ¬ (false = true) by decide)] at H
        have H' := Aside0.mk H
        clear H
        have hnb65 := NB6257_6251.out
        have hnc65 := NB6251_6257.out
        have hnb66 := NB6257_6252.out
        have hnc66 := NB6252_6257.out
        have hnb67 := NB6257_6253.out
        have hnc67 := NB6253_6257.out
        have hnb68 := NB6257_6261.out
        have hnc68 := NB6261_6257.out
        have hnb69 := NB6257_6262.out
        have hnc69 := NB6262_6257.out
        have hcz70_0 : wc.cell? ⟨gb6257, 0, none⟩ = some (.bool t6254) := bc BK6257 0
        have hcz70_1 : wc.cell? ⟨gb6257, 1, none⟩ = some (.int .i64 t6255) := bc BK6257 1
        have hcz70_2 : wc.cell? ⟨gb6257, 2, none⟩ = some (.int .i64 t6256) := bc BK6257 2
        have hfz70_0 := blk_frozen BK6257.out 0
        have hfz70_1 := blk_frozen BK6257.out 1
        have hfz70_2 := blk_frozen BK6257.out 2
        go_wp2
        go_loopg [10] kj5 (fun kq v10 w' => ∃ (x10_2 : Int) (x6263000_2 : Bool) (x6263001_2 : Int) (x6263002_2 : Int), v10 = .int .i64 x10_2 ∧ Aside0 (flyballref17_Hull.l0 kq a0 x10_2 t6254 t6255 t6256 t6258 t6259 t6260 x6263000_2 x6263001_2 x6263002_2 = some (r1, r2, r3)) ∧ Aside0 (kq ≤ kj5) ∧ Aside0 (w'.heap[gb6251]? = some (.cells #[.bool a1_0, .int .i64 a1_1, .int .i64 a1_2] 23 (0, 0))) ∧ Aside0 (w'.heap[gb6252]? = some (.cells #[.bool a2_0, .int .i64 a2_1, .int .i64 a2_2] 23 (0, 0))) ∧ Aside0 (w'.heap[gb6253]? = some (.cells #[.bool false, .int .i64 0, .int .i64 0] 23 (0, 0))) ∧ Aside0 (w'.heap[gb6257]? = some (.cells #[.bool t6254, .int .i64 t6255, .int .i64 t6256] 23 (0, 0))) ∧ Aside0 (w'.heap[gb6261]? = some (.cells #[.bool t6258, .int .i64 t6259, .int .i64 t6260] 23 (0, 0))) ∧ Aside0 (w'.heap[gb6262]? = some (.cells #[.bool x6263000_2, .int .i64 x6263001_2, .int .i64 x6263002_2] 23 (0, 0))) ∧ Aside0 (Below w.heap.size w w'))
        case atStart => exact ⟨(t6255), (true), (0), (0), (by first | rfl | (simp; done) | (simp [*]; done)), H', ⟨Nat.le_refl _⟩, ⟨pk BK6251⟩, ⟨pk BK6252⟩, ⟨pk BK6253⟩, ⟨pk BK6257⟩, ⟨pk BK6261⟩, ⟨pk BK6262⟩, ⟨pl HB⟩⟩
        case round =>
          clear H'
          try clear c1
          try clear c2
          try clear p2
          try clear c3
          try clear c4
          try clear c5
          try clear c6
          try clear c10
          try clear c11
          try clear c15
          try clear c16
          try clear c17
          try clear c19
          try clear c23
          try clear c24
          try clear c25
          try clear c26
          try clear c29
          try clear c30
          try clear c31
          try clear c32
          try clear c33
          try clear c35
          try clear c36
          try clear c37
          try clear c38
          try clear c39
          try clear c40
          try clear c42
          try clear c43
          try clear c44
          try clear c45
          try clear c46
          try clear c48
          try clear c49
          try clear c50
          try clear c51
          try clear c53
          try clear c54
          try clear c55
          try clear c56
          try clear c57
          try clear c58
          try clear c60
          try clear c61
          try clear c62
          try clear c63
          try clear c65
          try clear c66
          try clear c67
          try clear c68
          try clear c69
          try clear hcz12_0
          try clear hcz12_1
          try clear hcz12_2
          try clear hcz18_0
          try clear hcz18_1
          try clear hcz18_2
          try clear hcz20_0
          try clear hcz20_1
          try clear hcz20_2
          try clear hcz27_0
          try clear hcz27_1
          try clear hcz27_2
          try clear hcz34_0
          try clear hcz34_1
          try clear hcz34_2
          try clear hcz41_0
          try clear hcz41_1
          try clear hcz41_2
          try clear hcz47_0
          try clear hcz47_1
          try clear hcz47_2
          try clear hcz52_0
          try clear hcz52_1
          try clear hcz52_2
          try clear hcz59_0
          try clear hcz59_1
          try clear hcz59_2
          try clear hcz64_0
          try clear hcz64_1
          try clear hcz64_2
          try clear hcz70_0
          try clear hcz70_1
          try clear hcz70_2
          try clear hfz12_0
          try clear hfz12_1
          try clear hfz12_2
          try clear hfz18_0
          try clear hfz18_1
          try clear hfz18_2
          try clear hfz20_0
          try clear hfz20_1
          try clear hfz20_2
          try clear hfz27_0
          try clear hfz27_1
          try clear hfz27_2
          try clear hfz34_0
          try clear hfz34_1
          try clear hfz34_2
          try clear hfz41_0
          try clear hfz41_1
          try clear hfz41_2
          try clear hfz47_0
          try clear hfz47_1
          try clear hfz47_2
          try clear hfz52_0
          try clear hfz52_1
          try clear hfz52_2
          try clear hfz59_0
          try clear hfz59_1
          try clear hfz59_2
          try clear hfz64_0
          try clear hfz64_1
          try clear hfz64_2
          try clear hfz70_0
          try clear hfz70_1
          try clear hfz70_2
          try clear p2
          obtain ⟨x10_2, x6263000_2, x6263001_2, x6263002_2, rfl, HA, HK2, BK6251, BK6252, BK6253, BK6257, BK6261, BK6262, HB⟩ := hrel
          cases gk with
          | zero => exact absurd HA.out (by simp [flyballref17_Hull.l0])
          | succ k2 =>
            have H := HA.out
            clear HA
            simp only [flyballref17_Hull.l0] at H
            by_cases c71 : x10_2 ≤ t6256
            · rw [if_pos c71] at H
              have c71b0 : decide (x10_2 ≤ t6256) = true := decide_eq_true c71
              clear c71
              have H' := Aside0.mk H
              clear H
              have hnb72 := NB6257_6251.out
              have hnc72 := NB6251_6257.out
              have hnb73 := NB6257_6252.out
              have hnc73 := NB6252_6257.out
              have hnb74 := NB6257_6253.out
              have hnc74 := NB6253_6257.out
              have hnb75 := NB6257_6261.out
              have hnc75 := NB6261_6257.out
              have hnb76 := NB6257_6262.out
              have hnc76 := NB6262_6257.out
              have hcz77_0 : wr.cell? ⟨gb6257, 0, none⟩ = some (.bool t6254) := bc BK6257 0
              have hcz77_1 : wr.cell? ⟨gb6257, 1, none⟩ = some (.int .i64 t6255) := bc BK6257 1
              have hcz77_2 : wr.cell? ⟨gb6257, 2, none⟩ = some (.int .i64 t6256) := bc BK6257 2
              have hfz77_0 := blk_frozen BK6257.out 0
              have hfz77_1 := blk_frozen BK6257.out 1
              have hfz77_2 := blk_frozen BK6257.out 2
              have hnb78 := NB6261_6251.out
              have hnc78 := NB6251_6261.out
              have hnb79 := NB6261_6252.out
              have hnc79 := NB6252_6261.out
              have hnb80 := NB6261_6253.out
              have hnc80 := NB6253_6261.out
              have hnb81 := NB6261_6262.out
              have hnc81 := NB6262_6261.out
              have hcz82_0 : wr.cell? ⟨gb6261, 0, none⟩ = some (.bool t6258) := bc BK6261 0
              have hcz82_1 : wr.cell? ⟨gb6261, 1, none⟩ = some (.int .i64 t6259) := bc BK6261 1
              have hcz82_2 : wr.cell? ⟨gb6261, 2, none⟩ = some (.int .i64 t6260) := bc BK6261 2
              have hfz82_0 := blk_frozen BK6261.out 0
              have hfz82_1 := blk_frozen BK6261.out 1
              have hfz82_2 := blk_frozen BK6261.out 2
              go_wp2
              go_loopg [11] k2 (fun kq v11 w' => ∃ (x11_3 : Int) (x6263000_3 : Bool) (x6263001_3 : Int) (x6263002_3 : Int), v11 = .int .i64 x11_3 ∧ Aside0 (flyballref17_Hull.l1 kq a0 x10_2 x11_3 t6254 t6255 t6256 t6258 t6259 t6260 x6263000_3 x6263001_3 x6263002_3 = some (r1, r2, r3)) ∧ Aside0 (kq ≤ k2) ∧ Aside0 (w'.heap[gb6251]? = some (.cells #[.bool a1_0, .int .i64 a1_1, .int .i64 a1_2] 23 (0, 0))) ∧ Aside0 (w'.heap[gb6252]? = some (.cells #[.bool a2_0, .int .i64 a2_1, .int .i64 a2_2] 23 (0, 0))) ∧ Aside0 (w'.heap[gb6253]? = some (.cells #[.bool false, .int .i64 0, .int .i64 0] 23 (0, 0))) ∧ Aside0 (w'.heap[gb6257]? = some (.cells #[.bool t6254, .int .i64 t6255, .int .i64 t6256] 23 (0, 0))) ∧ Aside0 (w'.heap[gb6261]? = some (.cells #[.bool t6258, .int .i64 t6259, .int .i64 t6260] 23 (0, 0))) ∧ Aside0 (w'.heap[gb6262]? = some (.cells #[.bool x6263000_3, .int .i64 x6263001_3, .int .i64 x6263002_3] 23 (0, 0))) ∧ Aside0 (Below w.heap.size w w'))
              case atStart => exact ⟨(t6259), (x6263000_2), (x6263001_2), (x6263002_2), (by first | rfl | (simp; done) | (simp [*]; done)), H', ⟨Nat.le_refl _⟩, ⟨pk BK6251⟩, ⟨pk BK6252⟩, ⟨pk BK6253⟩, ⟨pk BK6257⟩, ⟨pk BK6261⟩, ⟨pk BK6262⟩, ⟨pl HB⟩⟩
              case round =>
                clear H'
                try clear c1
                try clear c2
                try clear p2
                try clear c3
                try clear c4
                try clear c5
                try clear c6
                try clear c7
                try clear c8
                try clear c10
                try clear c11
                try clear c15
                try clear c16
                try clear c17
                try clear c19
                try clear c23
                try clear c24
                try clear c25
                try clear c26
                try clear c29
                try clear c30
                try clear c31
                try clear c32
                try clear c33
                try clear c35
                try clear c36
                try clear c37
                try clear c38
                try clear c39
                try clear c40
                try clear c42
                try clear c43
                try clear c44
                try clear c45
                try clear c46
                try clear c48
                try clear c49
                try clear c50
                try clear c51
                try clear c53
                try clear c54
                try clear c55
                try clear c56
                try clear c57
                try clear c58
                try clear c60
                try clear c61
                try clear c62
                try clear c63
                try clear c65
                try clear c66
                try clear c67
                try clear c68
                try clear c69
                try clear c71
                try clear c71b0
                try clear c72
                try clear c73
                try clear c74
                try clear c75
                try clear c76
                try clear c78
                try clear c79
                try clear c80
                try clear c81
                try clear hcz12_0
                try clear hcz12_1
                try clear hcz12_2
                try clear hcz18_0
                try clear hcz18_1
                try clear hcz18_2
                try clear hcz20_0
                try clear hcz20_1
                try clear hcz20_2
                try clear hcz27_0
                try clear hcz27_1
                try clear hcz27_2
                try clear hcz34_0
                try clear hcz34_1
                try clear hcz34_2
                try clear hcz41_0
                try clear hcz41_1
                try clear hcz41_2
                try clear hcz47_0
                try clear hcz47_1
                try clear hcz47_2
                try clear hcz52_0
                try clear hcz52_1
                try clear hcz52_2
                try clear hcz59_0
                try clear hcz59_1
                try clear hcz59_2
                try clear hcz64_0
                try clear hcz64_1
                try clear hcz64_2
                try clear hcz70_0
                try clear hcz70_1
                try clear hcz70_2
                try clear hcz77_0
                try clear hcz77_1
                try clear hcz77_2
                try clear hcz82_0
                try clear hcz82_1
                try clear hcz82_2
                try clear hfz12_0
                try clear hfz12_1
                try clear hfz12_2
                try clear hfz18_0
                try clear hfz18_1
                try clear hfz18_2
                try clear hfz20_0
                try clear hfz20_1
                try clear hfz20_2
                try clear hfz27_0
                try clear hfz27_1
                try clear hfz27_2
                try clear hfz34_0
                try clear hfz34_1
                try clear hfz34_2
                try clear hfz41_0
                try clear hfz41_1
                try clear hfz41_2
                try clear hfz47_0
                try clear hfz47_1
                try clear hfz47_2
                try clear hfz52_0
                try clear hfz52_1
                try clear hfz52_2
                try clear hfz59_0
                try clear hfz59_1
                try clear hfz59_2
                try clear hfz64_0
                try clear hfz64_1
                try clear hfz64_2
                try clear hfz70_0
                try clear hfz70_1
                try clear hfz70_2
                try clear hfz77_0
                try clear hfz77_1
                try clear hfz77_2
                try clear hfz82_0
                try clear hfz82_1
                try clear hfz82_2
                try clear p2
                obtain ⟨x11_3, x6263000_3, x6263001_3, x6263002_3, rfl, HA, HK3, BK6251, BK6252, BK6253, BK6257, BK6261, BK6262, HB⟩ := hrel
                cases gk with
                | zero => exact absurd HA.out (by simp [flyballref17_Hull.l1])
                | succ k3 =>
                  have H := HA.out
                  clear HA
                  simp only [flyballref17_Hull.l1] at H
                  by_cases c83 : x11_3 ≤ t6260
                  · rw [if_pos c83] at H
                    have c83b0 : decide (x11_3 ≤ t6260) = true := decide_eq_true c83
                    clear c83
                    by_cases c84 : a0 = 1
                    · rw [if_pos c84] at H
                      have c84b0 : (a0 == 1) = true := beq_iff_eq.mpr c84
                      have c84b1 : (a0 != 1) = false := bne_eq_false_iff_eq.mpr c84
                      clear c84
                      by_cases c85 : x6263000_3 = true
                      · subst c85
                        rw [if_pos rfl] at H
                        obtain ⟨ji86, hji86⟩ : ∃ j_ : Int, (mn (wrap64 (x10_2 - x11_3)) (wrap64 (x10_2 - x11_3))) = j_ := ⟨_, rfl⟩
                        replace H : (flyballref17_Hull.l1 k3 a0 x10_2 (wrap64 (x11_3 + 1)) t6254 t6255 t6256 t6258 t6259 t6260 false ji86 (mx (wrap64 (x10_2 - x11_3)) (wrap64 (x10_2 - x11_3)))) = some (r1, r2, r3) := by first | (rw [hji86] at H; exact H) | (simp only [hji86] at H ⊢; exact H)
                        obtain rfl : (wrap64 (x10_2 - x11_3)) = ji86 := by rw [← hji86]; unfold mn; split <;> rfl
                        obtain ⟨ji87, hji87⟩ : ∃ j_ : Int, (mx (wrap64 (x10_2 - x11_3)) (wrap64 (x10_2 - x11_3))) = j_ := ⟨_, rfl⟩
                        replace H : (flyballref17_Hull.l1 k3 a0 x10_2 (wrap64 (x11_3 + 1)) t6254 t6255 t6256 t6258 t6259 t6260 false (wrap64 (x10_2 - x11_3)) ji87) = some (r1, r2, r3) := by first | (rw [hji87] at H; exact H) | (simp only [hji87] at H ⊢; exact H)
                        obtain rfl : (wrap64 (x10_2 - x11_3)) = ji87 := by rw [← hji87]; unfold mx; split <;> rfl
                        have H' := Aside0.mk H
                        clear H
                        have hnb88 := NB6261_6251.out
                        have hnc88 := NB6251_6261.out
                        have hnb89 := NB6261_6252.out
                        have hnc89 := NB6252_6261.out
                        have hnb90 := NB6261_6253.out
                        have hnc90 := NB6253_6261.out
                        have hnb91 := NB6261_6257.out
                        have hnc91 := NB6257_6261.out
                        have hnb92 := NB6261_6262.out
                        have hnc92 := NB6262_6261.out
                        have hcz93_0 : wr.cell? ⟨gb6261, 0, none⟩ = some (.bool t6258) := bc BK6261 0
                        have hcz93_1 : wr.cell? ⟨gb6261, 1, none⟩ = some (.int .i64 t6259) := bc BK6261 1
                        have hcz93_2 : wr.cell? ⟨gb6261, 2, none⟩ = some (.int .i64 t6260) := bc BK6261 2
                        have hfz93_0 := blk_frozen BK6261.out 0
                        have hfz93_1 := blk_frozen BK6261.out 1
                        have hfz93_2 := blk_frozen BK6261.out 2
                        have hnb94 := NB6262_6251.out
                        have hnc94 := NB6251_6262.out
                        have hnb95 := NB6262_6252.out
                        have hnc95 := NB6252_6262.out
                        have hnb96 := NB6262_6253.out
                        have hnc96 := NB6253_6262.out
                        have hnb97 := NB6262_6257.out
                        have hnc97 := NB6257_6262.out
                        have hcz98_0 : wr.cell? ⟨gb6262, 0, none⟩ = some (.bool true) := bc BK6262 0
                        have hcz98_1 : wr.cell? ⟨gb6262, 1, none⟩ = some (.int .i64 x6263001_3) := bc BK6262 1
                        have hcz98_2 : wr.cell? ⟨gb6262, 2, none⟩ = some (.int .i64 x6263002_3) := bc BK6262 2
                        have hfz98_0 := blk_frozen BK6262.out 0
                        have hfz98_1 := blk_frozen BK6262.out 1
                        have hfz98_2 := blk_frozen BK6262.out 2
                        go_wp2
                        go_roundg k3
                        case measure => have := HJ5.out; have := HK2.out; have := HK3.out; omega
                        case rel => exact ⟨(wrap64 (x11_3 + 1)), (false), ((wrap64 (x10_2 - x11_3))), ((wrap64 (x10_2 - x11_3))), (by first | rfl | (simp; done) | (simp [*]; done)), H', ⟨by have := HJ5.out; have := HK2.out; have := HK3.out; omega⟩, ⟨pk BK6251⟩, ⟨pk BK6252⟩, ⟨pk BK6253⟩, ⟨pk BK6257⟩, ⟨pk BK6261⟩, ⟨pK BK6262⟩, ⟨pl HB⟩⟩
                      · replace c85 := Bool.eq_false_iff.mpr c85
                        subst c85
                        rw [if_neg (show ¬ (false = true) by decide)] at H
                        obtain ⟨ji99, hji99⟩ : ∃ j_ : Int, (mn x6263001_3 (wrap64 (x10_2 - x11_3))) = j_ := ⟨_, rfl⟩
                        replace H : (flyballref17_Hull.l1 k3 a0 x10_2 (wrap64 (x11_3 + 1)) t6254 t6255 t6256 t6258 t6259 t6260 false ji99 (mx x6263002_3 (wrap64 (x10_2 - x11_3)))) = some (r1, r2, r3) := by first | (rw [hji99] at H; exact H) | (simp only [hji99] at H ⊢; exact H)
                        have hji99_ : (if (wrap64 (x10_2 - x11_3)) < x6263001_3 then (wrap64 (x10_2 - x11_3)) else x6263001_3) = ji99 := hji99
                        obtain ⟨ji100, hji100⟩ : ∃ j_ : Int, (mx x6263002_3 (wrap64 (x10_2 - x11_3))) = j_ := ⟨_, rfl⟩
                        replace H : (flyballref17_Hull.l1 k3 a0 x10_2 (wrap64 (x11_3 + 1)) t6254 t6255 t6256 t6258 t6259 t6260 false ji99 ji100) = some (r1, r2, r3) := by first | (rw [hji100] at H; exact H) | (simp only [hji100] at H ⊢; exact H)
                        have hji100_ : (if x6263002_3 < (wrap64 (x10_2 - x11_3)) then (wrap64 (x10_2 - x11_3)) else x6263002_3) = ji100 := hji100
                        have H' := Aside0.mk H
                        clear H
                        have hnb101 := NB6261_6251.out
                        have hnc101 := NB6251_6261.out
                        have hnb102 := NB6261_6252.out
                        have hnc102 := NB6252_6261.out
                        have hnb103 := NB6261_6253.out
                        have hnc103 := NB6253_6261.out
                        have hnb104 := NB6261_6257.out
                        have hnc104 := NB6257_6261.out
                        have hnb105 := NB6261_6262.out
                        have hnc105 := NB6262_6261.out
                        have hcz106_0 : wr.cell? ⟨gb6261, 0, none⟩ = some (.bool t6258) := bc BK6261 0
                        have hcz106_1 : wr.cell? ⟨gb6261, 1, none⟩ = some (.int .i64 t6259) := bc BK6261 1
                        have hcz106_2 : wr.cell? ⟨gb6261, 2, none⟩ = some (.int .i64 t6260) := bc BK6261 2
                        have hfz106_0 := blk_frozen BK6261.out 0
                        have hfz106_1 := blk_frozen BK6261.out 1
                        have hfz106_2 := blk_frozen BK6261.out 2
                        have hnb107 := NB6262_6251.out
                        have hnc107 := NB6251_6262.out
                        have hnb108 := NB6262_6252.out
                        have hnc108 := NB6252_6262.out
                        have hnb109 := NB6262_6253.out
                        have hnc109 := NB6253_6262.out
                        have hnb110 := NB6262_6257.out
                        have hnc110 := NB6257_6262.out
                        have hcz111_0 : wr.cell? ⟨gb6262, 0, none⟩ = some (.bool false) := bc BK6262 0
                        have hcz111_1 : wr.cell? ⟨gb6262, 1, none⟩ = some (.int .i64 x6263001_3) := bc BK6262 1
                        have hcz111_2 : wr.cell? ⟨gb6262, 2, none⟩ = some (.int .i64 x6263002_3) := bc BK6262 2
                        have hfz111_0 := blk_frozen BK6262.out 0
                        have hfz111_1 := blk_frozen BK6262.out 1
                        have hfz111_2 := blk_frozen BK6262.out 2
                        go_wp2
                        go_roundg k3
                        case measure => have := HJ5.out; have := HK2.out; have := HK3.out; omega
                        case rel => exact ⟨(wrap64 (x11_3 + 1)), (false), (ji99), (ji100), (by first | rfl | (simp; done) | (simp [*]; done)), H', ⟨by have := HJ5.out; have := HK2.out; have := HK3.out; omega⟩, ⟨pk BK6251⟩, ⟨pk BK6252⟩, ⟨pk BK6253⟩, ⟨pk BK6257⟩, ⟨pk BK6261⟩, ⟨pK BK6262⟩, ⟨pl HB⟩⟩
                    · rw [if_neg c84] at H
                      have c84b0 : (a0 == 1) = false := beq_eq_false_iff_ne.mpr c84
                      have c84b1 : (a0 != 1) = true := bne_iff_ne.mpr c84
                      by_cases c112 : a0 = 2
                      · rw [if_pos c112] at H
                        have c112b0 : (a0 == 2) = true := beq_iff_eq.mpr c112
                        have c112b1 : (a0 != 2) = false := bne_eq_false_iff_eq.mpr c112
                        clear c112
                        obtain ⟨t6263, A1130, H⟩ := Option.bind_eq_some_iff.mp H
                        have A113 := Aside0.mk A1130
                        clear A1130
                        (try dsimp only at H)
                        by_cases c114 : x6263000_3 = true
                        · subst c114
                          rw [if_pos rfl] at H
                          obtain ⟨ji115, hji115⟩ : ∃ j_ : Int, (mn t6263 t6263) = j_ := ⟨_, rfl⟩
                          replace H : (flyballref17_Hull.l1 k3 a0 x10_2 (wrap64 (x11_3 + 1)) t6254 t6255 t6256 t6258 t6259 t6260 false ji115 (mx t6263 t6263)) = some (r1, r2, r3) := by first | (rw [hji115] at H; exact H) | (simp only [hji115] at H ⊢; exact H)
                          (try rw [hji115] at A113)
                          obtain rfl : t6263 = ji115 := by rw [← hji115]; unfold mn; split <;> rfl
                          obtain ⟨ji116, hji116⟩ : ∃ j_ : Int, (mx t6263 t6263) = j_ := ⟨_, rfl⟩
                          replace H : (flyballref17_Hull.l1 k3 a0 x10_2 (wrap64 (x11_3 + 1)) t6254 t6255 t6256 t6258 t6259 t6260 false t6263 ji116) = some (r1, r2, r3) := by first | (rw [hji116] at H; exact H) | (simp only [hji116] at H ⊢; exact H)
                          (try rw [hji116] at A113)
                          obtain rfl : t6263 = ji116 := by rw [← hji116]; unfold mx; split <;> rfl
                          have H' := Aside0.mk H
                          clear H
                          have hnb117 := NB6261_6251.out
                          have hnc117 := NB6251_6261.out
                          have hnb118 := NB6261_6252.out
                          have hnc118 := NB6252_6261.out
                          have hnb119 := NB6261_6253.out
                          have hnc119 := NB6253_6261.out
                          have hnb120 := NB6261_6257.out
                          have hnc120 := NB6257_6261.out
                          have hnb121 := NB6261_6262.out
                          have hnc121 := NB6262_6261.out
                          have hcz122_0 : wr.cell? ⟨gb6261, 0, none⟩ = some (.bool t6258) := bc BK6261 0
                          have hcz122_1 : wr.cell? ⟨gb6261, 1, none⟩ = some (.int .i64 t6259) := bc BK6261 1
                          have hcz122_2 : wr.cell? ⟨gb6261, 2, none⟩ = some (.int .i64 t6260) := bc BK6261 2
                          have hfz122_0 := blk_frozen BK6261.out 0
                          have hfz122_1 := blk_frozen BK6261.out 1
                          have hfz122_2 := blk_frozen BK6261.out 2
                          go_wp2_with (first | ((with_reducible refine gate_callee (f := 71) rfl ?_); refine goesL_ (some 53) rfl rfl Try.func71 (by kernel_rfl) rfl #[.int .i64 x10_2, .int .i64 x11_3] rfl pa ?_; (with_reducible refine (flyballref17_times.calls k3 x10_2 x11_3 t6263 _ A113.out).mono ?_); rintro e w' ⟨rfl, ⟨nd, rfl⟩⟩; refine ⟨_, rfl, ?_⟩; (try (rw [drewN_self wr]; generalize hq_ : World.drewN wr _ = wr; have n0_ : Aside0 (wr.heap[gb6251]? = some (.cells #[.bool a1_0, .int .i64 a1_1, .int .i64 a1_2] 23 (0, 0))) := ⟨by rw [← hq_]; exact (pk BK6251)⟩; have n1_ : Aside0 (wr.heap[gb6252]? = some (.cells #[.bool a2_0, .int .i64 a2_1, .int .i64 a2_2] 23 (0, 0))) := ⟨by rw [← hq_]; exact (pk BK6252)⟩; have n2_ : Aside0 (wr.heap[gb6253]? = some (.cells #[.bool false, .int .i64 0, .int .i64 0] 23 (0, 0))) := ⟨by rw [← hq_]; exact (pk BK6253)⟩; have n3_ : Aside0 (wr.heap[gb6257]? = some (.cells #[.bool t6254, .int .i64 t6255, .int .i64 t6256] 23 (0, 0))) := ⟨by rw [← hq_]; exact (pk BK6257)⟩; have n4_ : Aside0 (wr.heap[gb6261]? = some (.cells #[.bool t6258, .int .i64 t6259, .int .i64 t6260] 23 (0, 0))) := ⟨by rw [← hq_]; exact (pk BK6261)⟩; have n5_ : Aside0 (wr.heap[gb6262]? = some (.cells #[.bool true, .int .i64 x6263001_3, .int .i64 x6263002_3] 23 (0, 0))) := ⟨by rw [← hq_]; exact (pk BK6262)⟩; have n6_ : Aside0 (Below w.heap.size w wr) := ⟨by rw [← hq_]; exact (pl HB)⟩; clear BK6251 BK6252 BK6253 BK6257 BK6261 BK6262 HB hq_; have BK6251 := n0_; have BK6252 := n1_; have BK6253 := n2_; have BK6257 := n3_; have BK6261 := n4_; have BK6262 := n5_; have HB := n6_; clear n0_ n1_ n2_ n3_ n4_ n5_ n6_)); have hnb123 := NB6262_6251.out; have hnc123 := NB6251_6262.out; have hnb124 := NB6262_6252.out; have hnc124 := NB6252_6262.out; have hnb125 := NB6262_6253.out; have hnc125 := NB6253_6262.out; have hnb126 := NB6262_6257.out; have hnc126 := NB6257_6262.out; have hcz127_0 : wr.cell? ⟨gb6262, 0, none⟩ = some (.bool true) := bc BK6262 0; have hcz127_1 : wr.cell? ⟨gb6262, 1, none⟩ = some (.int .i64 x6263001_3) := bc BK6262 1; have hcz127_2 : wr.cell? ⟨gb6262, 2, none⟩ = some (.int .i64 x6263002_3) := bc BK6262 2; have hfz127_0 := blk_frozen BK6262.out 0; have hfz127_1 := blk_frozen BK6262.out 1; have hfz127_2 := blk_frozen BK6262.out 2))
                          go_roundg k3
                          case measure => have := HJ5.out; have := HK2.out; have := HK3.out; omega
                          case rel => exact ⟨(wrap64 (x11_3 + 1)), (false), (t6263), (t6263), (by first | rfl | (simp; done) | (simp [*]; done)), H', ⟨by have := HJ5.out; have := HK2.out; have := HK3.out; omega⟩, ⟨pk BK6251⟩, ⟨pk BK6252⟩, ⟨pk BK6253⟩, ⟨pk BK6257⟩, ⟨pk BK6261⟩, ⟨pK BK6262⟩, ⟨pl HB⟩⟩
                        · replace c114 := Bool.eq_false_iff.mpr c114
                          subst c114
                          rw [if_neg (show ¬ (false = true) by decide)] at H
                          obtain ⟨ji128, hji128⟩ : ∃ j_ : Int, (mn x6263001_3 t6263) = j_ := ⟨_, rfl⟩
                          replace H : (flyballref17_Hull.l1 k3 a0 x10_2 (wrap64 (x11_3 + 1)) t6254 t6255 t6256 t6258 t6259 t6260 false ji128 (mx x6263002_3 t6263)) = some (r1, r2, r3) := by first | (rw [hji128] at H; exact H) | (simp only [hji128] at H ⊢; exact H)
                          (try rw [hji128] at A113)
                          have hji128_ : (if t6263 < x6263001_3 then t6263 else x6263001_3) = ji128 := hji128
                          obtain ⟨ji129, hji129⟩ : ∃ j_ : Int, (mx x6263002_3 t6263) = j_ := ⟨_, rfl⟩
                          replace H : (flyballref17_Hull.l1 k3 a0 x10_2 (wrap64 (x11_3 + 1)) t6254 t6255 t6256 t6258 t6259 t6260 false ji128 ji129) = some (r1, r2, r3) := by first | (rw [hji129] at H; exact H) | (simp only [hji129] at H ⊢; exact H)
                          (try rw [hji129] at A113)
                          have hji129_ : (if x6263002_3 < t6263 then t6263 else x6263002_3) = ji129 := hji129
                          have H' := Aside0.mk H
                          clear H
                          have hnb130 := NB6261_6251.out
                          have hnc130 := NB6251_6261.out
                          have hnb131 := NB6261_6252.out
                          have hnc131 := NB6252_6261.out
                          have hnb132 := NB6261_6253.out
                          have hnc132 := NB6253_6261.out
                          have hnb133 := NB6261_6257.out
                          have hnc133 := NB6257_6261.out
                          have hnb134 := NB6261_6262.out
                          have hnc134 := NB6262_6261.out
                          have hcz135_0 : wr.cell? ⟨gb6261, 0, none⟩ = some (.bool t6258) := bc BK6261 0
                          have hcz135_1 : wr.cell? ⟨gb6261, 1, none⟩ = some (.int .i64 t6259) := bc BK6261 1
                          have hcz135_2 : wr.cell? ⟨gb6261, 2, none⟩ = some (.int .i64 t6260) := bc BK6261 2
                          have hfz135_0 := blk_frozen BK6261.out 0
                          have hfz135_1 := blk_frozen BK6261.out 1
                          have hfz135_2 := blk_frozen BK6261.out 2
                          go_wp2_with (first | ((with_reducible refine gate_callee (f := 71) rfl ?_); refine goesL_ (some 53) rfl rfl Try.func71 (by kernel_rfl) rfl #[.int .i64 x10_2, .int .i64 x11_3] rfl pa ?_; (with_reducible refine (flyballref17_times.calls k3 x10_2 x11_3 t6263 _ A113.out).mono ?_); rintro e w' ⟨rfl, ⟨nd, rfl⟩⟩; refine ⟨_, rfl, ?_⟩; (try (rw [drewN_self wr]; generalize hq_ : World.drewN wr _ = wr; have n0_ : Aside0 (wr.heap[gb6251]? = some (.cells #[.bool a1_0, .int .i64 a1_1, .int .i64 a1_2] 23 (0, 0))) := ⟨by rw [← hq_]; exact (pk BK6251)⟩; have n1_ : Aside0 (wr.heap[gb6252]? = some (.cells #[.bool a2_0, .int .i64 a2_1, .int .i64 a2_2] 23 (0, 0))) := ⟨by rw [← hq_]; exact (pk BK6252)⟩; have n2_ : Aside0 (wr.heap[gb6253]? = some (.cells #[.bool false, .int .i64 0, .int .i64 0] 23 (0, 0))) := ⟨by rw [← hq_]; exact (pk BK6253)⟩; have n3_ : Aside0 (wr.heap[gb6257]? = some (.cells #[.bool t6254, .int .i64 t6255, .int .i64 t6256] 23 (0, 0))) := ⟨by rw [← hq_]; exact (pk BK6257)⟩; have n4_ : Aside0 (wr.heap[gb6261]? = some (.cells #[.bool t6258, .int .i64 t6259, .int .i64 t6260] 23 (0, 0))) := ⟨by rw [← hq_]; exact (pk BK6261)⟩; have n5_ : Aside0 (wr.heap[gb6262]? = some (.cells #[.bool false, .int .i64 x6263001_3, .int .i64 x6263002_3] 23 (0, 0))) := ⟨by rw [← hq_]; exact (pk BK6262)⟩; have n6_ : Aside0 (Below w.heap.size w wr) := ⟨by rw [← hq_]; exact (pl HB)⟩; clear BK6251 BK6252 BK6253 BK6257 BK6261 BK6262 HB hq_; have BK6251 := n0_; have BK6252 := n1_; have BK6253 := n2_; have BK6257 := n3_; have BK6261 := n4_; have BK6262 := n5_; have HB := n6_; clear n0_ n1_ n2_ n3_ n4_ n5_ n6_)); have hnb136 := NB6262_6251.out; have hnc136 := NB6251_6262.out; have hnb137 := NB6262_6252.out; have hnc137 := NB6252_6262.out; have hnb138 := NB6262_6253.out; have hnc138 := NB6253_6262.out; have hnb139 := NB6262_6257.out; have hnc139 := NB6257_6262.out; have hcz140_0 : wr.cell? ⟨gb6262, 0, none⟩ = some (.bool false) := bc BK6262 0; have hcz140_1 : wr.cell? ⟨gb6262, 1, none⟩ = some (.int .i64 x6263001_3) := bc BK6262 1; have hcz140_2 : wr.cell? ⟨gb6262, 2, none⟩ = some (.int .i64 x6263002_3) := bc BK6262 2; have hfz140_0 := blk_frozen BK6262.out 0; have hfz140_1 := blk_frozen BK6262.out 1; have hfz140_2 := blk_frozen BK6262.out 2))
                          go_roundg k3
                          case measure => have := HJ5.out; have := HK2.out; have := HK3.out; omega
                          case rel => exact ⟨(wrap64 (x11_3 + 1)), (false), (ji128), (ji129), (by first | rfl | (simp; done) | (simp [*]; done)), H', ⟨by have := HJ5.out; have := HK2.out; have := HK3.out; omega⟩, ⟨pk BK6251⟩, ⟨pk BK6252⟩, ⟨pk BK6253⟩, ⟨pk BK6257⟩, ⟨pk BK6261⟩, ⟨pK BK6262⟩, ⟨pl HB⟩⟩
                      · rw [if_neg c112] at H
                        have c112b0 : (a0 == 2) = false := beq_eq_false_iff_ne.mpr c112
                        have c112b1 : (a0 != 2) = true := bne_iff_ne.mpr c112
                        by_cases c141 : a0 = 3
                        · rw [if_pos c141] at H
                          have c141b0 : (a0 == 3) = true := beq_iff_eq.mpr c141
                          have c141b1 : (a0 != 3) = false := bne_eq_false_iff_eq.mpr c141
                          clear c141
                          by_cases c142 : x11_3 = 0
                          · rw [if_pos c142] at H
                            have c142b0 : (x11_3 == 0) = true := beq_iff_eq.mpr c142
                            have c142b1 : (x11_3 != 0) = false := bne_eq_false_iff_eq.mpr c142
                            clear c142
                            have H' := Aside0.mk H
                            clear H
                            have hnb143 := NB6261_6251.out
                            have hnc143 := NB6251_6261.out
                            have hnb144 := NB6261_6252.out
                            have hnc144 := NB6252_6261.out
                            have hnb145 := NB6261_6253.out
                            have hnc145 := NB6253_6261.out
                            have hnb146 := NB6261_6257.out
                            have hnc146 := NB6257_6261.out
                            have hnb147 := NB6261_6262.out
                            have hnc147 := NB6262_6261.out
                            have hcz148_0 : wr.cell? ⟨gb6261, 0, none⟩ = some (.bool t6258) := bc BK6261 0
                            have hcz148_1 : wr.cell? ⟨gb6261, 1, none⟩ = some (.int .i64 t6259) := bc BK6261 1
                            have hcz148_2 : wr.cell? ⟨gb6261, 2, none⟩ = some (.int .i64 t6260) := bc BK6261 2
                            have hfz148_0 := blk_frozen BK6261.out 0
                            have hfz148_1 := blk_frozen BK6261.out 1
                            have hfz148_2 := blk_frozen BK6261.out 2
                            go_wp2
                            go_roundg k3
                            case measure => have := HJ5.out; have := HK2.out; have := HK3.out; omega
                            case rel => exact ⟨(wrap64 (x11_3 + 1)), (x6263000_3), (x6263001_3), (x6263002_3), (by first | rfl | (simp; done) | (simp [*]; done)), H', ⟨by have := HJ5.out; have := HK2.out; have := HK3.out; omega⟩, ⟨pk BK6251⟩, ⟨pk BK6252⟩, ⟨pk BK6253⟩, ⟨pk BK6257⟩, ⟨pk BK6261⟩, ⟨pk BK6262⟩, ⟨pl HB⟩⟩
                          · rw [if_neg c142] at H
                            have c142b0 : (x11_3 == 0) = false := beq_eq_false_iff_ne.mpr c142
                            have c142b1 : (x11_3 != 0) = true := bne_iff_ne.mpr c142
                            by_cases c149 : x6263000_3 = true
                            · subst c149
                              rw [if_pos rfl] at H
                              obtain ⟨ji150, hji150⟩ : ∃ j_ : Int, (mn (wrap64 (Int.tdiv x10_2 x11_3)) (wrap64 (Int.tdiv x10_2 x11_3))) = j_ := ⟨_, rfl⟩
                              replace H : (flyballref17_Hull.l1 k3 a0 x10_2 (wrap64 (x11_3 + 1)) t6254 t6255 t6256 t6258 t6259 t6260 false ji150 (mx (wrap64 (Int.tdiv x10_2 x11_3)) (wrap64 (Int.tdiv x10_2 x11_3)))) = some (r1, r2, r3) := by first | (rw [hji150] at H; exact H) | (simp only [hji150] at H ⊢; exact H)
                              obtain rfl : (wrap64 (Int.tdiv x10_2 x11_3)) = ji150 := by rw [← hji150]; unfold mn; split <;> rfl
                              obtain ⟨ji151, hji151⟩ : ∃ j_ : Int, (mx (wrap64 (Int.tdiv x10_2 x11_3)) (wrap64 (Int.tdiv x10_2 x11_3))) = j_ := ⟨_, rfl⟩
                              replace H : (flyballref17_Hull.l1 k3 a0 x10_2 (wrap64 (x11_3 + 1)) t6254 t6255 t6256 t6258 t6259 t6260 false (wrap64 (Int.tdiv x10_2 x11_3)) ji151) = some (r1, r2, r3) := by first | (rw [hji151] at H; exact H) | (simp only [hji151] at H ⊢; exact H)
                              obtain rfl : (wrap64 (Int.tdiv x10_2 x11_3)) = ji151 := by rw [← hji151]; unfold mx; split <;> rfl
                              have H' := Aside0.mk H
                              clear H
                              have hnb152 := NB6261_6251.out
                              have hnc152 := NB6251_6261.out
                              have hnb153 := NB6261_6252.out
                              have hnc153 := NB6252_6261.out
                              have hnb154 := NB6261_6253.out
                              have hnc154 := NB6253_6261.out
                              have hnb155 := NB6261_6257.out
                              have hnc155 := NB6257_6261.out
                              have hnb156 := NB6261_6262.out
                              have hnc156 := NB6262_6261.out
                              have hcz157_0 : wr.cell? ⟨gb6261, 0, none⟩ = some (.bool t6258) := bc BK6261 0
                              have hcz157_1 : wr.cell? ⟨gb6261, 1, none⟩ = some (.int .i64 t6259) := bc BK6261 1
                              have hcz157_2 : wr.cell? ⟨gb6261, 2, none⟩ = some (.int .i64 t6260) := bc BK6261 2
                              have hfz157_0 := blk_frozen BK6261.out 0
                              have hfz157_1 := blk_frozen BK6261.out 1
                              have hfz157_2 := blk_frozen BK6261.out 2
                              have hnb158 := NB6262_6251.out
                              have hnc158 := NB6251_6262.out
                              have hnb159 := NB6262_6252.out
                              have hnc159 := NB6252_6262.out
                              have hnb160 := NB6262_6253.out
                              have hnc160 := NB6253_6262.out
                              have hnb161 := NB6262_6257.out
                              have hnc161 := NB6257_6262.out
                              have hcz162_0 : wr.cell? ⟨gb6262, 0, none⟩ = some (.bool true) := bc BK6262 0
                              have hcz162_1 : wr.cell? ⟨gb6262, 1, none⟩ = some (.int .i64 x6263001_3) := bc BK6262 1
                              have hcz162_2 : wr.cell? ⟨gb6262, 2, none⟩ = some (.int .i64 x6263002_3) := bc BK6262 2
                              have hfz162_0 := blk_frozen BK6262.out 0
                              have hfz162_1 := blk_frozen BK6262.out 1
                              have hfz162_2 := blk_frozen BK6262.out 2
                              go_wp2
                              go_roundg k3
                              case measure => have := HJ5.out; have := HK2.out; have := HK3.out; omega
                              case rel => exact ⟨(wrap64 (x11_3 + 1)), (false), ((wrap64 (Int.tdiv x10_2 x11_3))), ((wrap64 (Int.tdiv x10_2 x11_3))), (by first | rfl | (simp; done) | (simp [*]; done)), H', ⟨by have := HJ5.out; have := HK2.out; have := HK3.out; omega⟩, ⟨pk BK6251⟩, ⟨pk BK6252⟩, ⟨pk BK6253⟩, ⟨pk BK6257⟩, ⟨pk BK6261⟩, ⟨pK BK6262⟩, ⟨pl HB⟩⟩
                            · replace c149 := Bool.eq_false_iff.mpr c149
                              subst c149
                              rw [if_neg (show ¬ (false = true) by decide)] at H
                              obtain ⟨ji163, hji163⟩ : ∃ j_ : Int, (mn x6263001_3 (wrap64 (Int.tdiv x10_2 x11_3))) = j_ := ⟨_, rfl⟩
                              replace H : (flyballref17_Hull.l1 k3 a0 x10_2 (wrap64 (x11_3 + 1)) t6254 t6255 t6256 t6258 t6259 t6260 false ji163 (mx x6263002_3 (wrap64 (Int.tdiv x10_2 x11_3)))) = some (r1, r2, r3) := by first | (rw [hji163] at H; exact H) | (simp only [hji163] at H ⊢; exact H)
                              have hji163_ : (if (wrap64 (Int.tdiv x10_2 x11_3)) < x6263001_3 then (wrap64 (Int.tdiv x10_2 x11_3)) else x6263001_3) = ji163 := hji163
                              obtain ⟨ji164, hji164⟩ : ∃ j_ : Int, (mx x6263002_3 (wrap64 (Int.tdiv x10_2 x11_3))) = j_ := ⟨_, rfl⟩
                              replace H : (flyballref17_Hull.l1 k3 a0 x10_2 (wrap64 (x11_3 + 1)) t6254 t6255 t6256 t6258 t6259 t6260 false ji163 ji164) = some (r1, r2, r3) := by first | (rw [hji164] at H; exact H) | (simp only [hji164] at H ⊢; exact H)
                              have hji164_ : (if x6263002_3 < (wrap64 (Int.tdiv x10_2 x11_3)) then (wrap64 (Int.tdiv x10_2 x11_3)) else x6263002_3) = ji164 := hji164
                              have H' := Aside0.mk H
                              clear H
                              have hnb165 := NB6261_6251.out
                              have hnc165 := NB6251_6261.out
                              have hnb166 := NB6261_6252.out
                              have hnc166 := NB6252_6261.out
                              have hnb167 := NB6261_6253.out
                              have hnc167 := NB6253_6261.out
                              have hnb168 := NB6261_6257.out
                              have hnc168 := NB6257_6261.out
                              have hnb169 := NB6261_6262.out
                              have hnc169 := NB6262_6261.out
                              have hcz170_0 : wr.cell? ⟨gb6261, 0, none⟩ = some (.bool t6258) := bc BK6261 0
                              have hcz170_1 : wr.cell? ⟨gb6261, 1, none⟩ = some (.int .i64 t6259) := bc BK6261 1
                              have hcz170_2 : wr.cell? ⟨gb6261, 2, none⟩ = some (.int .i64 t6260) := bc BK6261 2
                              have hfz170_0 := blk_frozen BK6261.out 0
                              have hfz170_1 := blk_frozen BK6261.out 1
                              have hfz170_2 := blk_frozen BK6261.out 2
                              have hnb171 := NB6262_6251.out
                              have hnc171 := NB6251_6262.out
                              have hnb172 := NB6262_6252.out
                              have hnc172 := NB6252_6262.out
                              have hnb173 := NB6262_6253.out
                              have hnc173 := NB6253_6262.out
                              have hnb174 := NB6262_6257.out
                              have hnc174 := NB6257_6262.out
                              have hcz175_0 : wr.cell? ⟨gb6262, 0, none⟩ = some (.bool false) := bc BK6262 0
                              have hcz175_1 : wr.cell? ⟨gb6262, 1, none⟩ = some (.int .i64 x6263001_3) := bc BK6262 1
                              have hcz175_2 : wr.cell? ⟨gb6262, 2, none⟩ = some (.int .i64 x6263002_3) := bc BK6262 2
                              have hfz175_0 := blk_frozen BK6262.out 0
                              have hfz175_1 := blk_frozen BK6262.out 1
                              have hfz175_2 := blk_frozen BK6262.out 2
                              go_wp2
                              go_roundg k3
                              case measure => have := HJ5.out; have := HK2.out; have := HK3.out; omega
                              case rel => exact ⟨(wrap64 (x11_3 + 1)), (false), (ji163), (ji164), (by first | rfl | (simp; done) | (simp [*]; done)), H', ⟨by have := HJ5.out; have := HK2.out; have := HK3.out; omega⟩, ⟨pk BK6251⟩, ⟨pk BK6252⟩, ⟨pk BK6253⟩, ⟨pk BK6257⟩, ⟨pk BK6261⟩, ⟨pK BK6262⟩, ⟨pl HB⟩⟩
                        · rw [if_neg c141] at H
                          have c141b0 : (a0 == 3) = false := beq_eq_false_iff_ne.mpr c141
                          have c141b1 : (a0 != 3) = true := bne_iff_ne.mpr c141
                          by_cases c176 : x6263000_3 = true
                          · subst c176
                            rw [if_pos rfl] at H
                            obtain ⟨ji177, hji177⟩ : ∃ j_ : Int, (mn (wrap64 (x10_2 + x11_3)) (wrap64 (x10_2 + x11_3))) = j_ := ⟨_, rfl⟩
                            replace H : (flyballref17_Hull.l1 k3 a0 x10_2 (wrap64 (x11_3 + 1)) t6254 t6255 t6256 t6258 t6259 t6260 false ji177 (mx (wrap64 (x10_2 + x11_3)) (wrap64 (x10_2 + x11_3)))) = some (r1, r2, r3) := by first | (rw [hji177] at H; exact H) | (simp only [hji177] at H ⊢; exact H)
                            obtain rfl : (wrap64 (x10_2 + x11_3)) = ji177 := by rw [← hji177]; unfold mn; split <;> rfl
                            obtain ⟨ji178, hji178⟩ : ∃ j_ : Int, (mx (wrap64 (x10_2 + x11_3)) (wrap64 (x10_2 + x11_3))) = j_ := ⟨_, rfl⟩
                            replace H : (flyballref17_Hull.l1 k3 a0 x10_2 (wrap64 (x11_3 + 1)) t6254 t6255 t6256 t6258 t6259 t6260 false (wrap64 (x10_2 + x11_3)) ji178) = some (r1, r2, r3) := by first | (rw [hji178] at H; exact H) | (simp only [hji178] at H ⊢; exact H)
                            obtain rfl : (wrap64 (x10_2 + x11_3)) = ji178 := by rw [← hji178]; unfold mx; split <;> rfl
                            have H' := Aside0.mk H
                            clear H
                            have hnb179 := NB6261_6251.out
                            have hnc179 := NB6251_6261.out
                            have hnb180 := NB6261_6252.out
                            have hnc180 := NB6252_6261.out
                            have hnb181 := NB6261_6253.out
                            have hnc181 := NB6253_6261.out
                            have hnb182 := NB6261_6257.out
                            have hnc182 := NB6257_6261.out
                            have hnb183 := NB6261_6262.out
                            have hnc183 := NB6262_6261.out
                            have hcz184_0 : wr.cell? ⟨gb6261, 0, none⟩ = some (.bool t6258) := bc BK6261 0
                            have hcz184_1 : wr.cell? ⟨gb6261, 1, none⟩ = some (.int .i64 t6259) := bc BK6261 1
                            have hcz184_2 : wr.cell? ⟨gb6261, 2, none⟩ = some (.int .i64 t6260) := bc BK6261 2
                            have hfz184_0 := blk_frozen BK6261.out 0
                            have hfz184_1 := blk_frozen BK6261.out 1
                            have hfz184_2 := blk_frozen BK6261.out 2
                            have hnb185 := NB6262_6251.out
                            have hnc185 := NB6251_6262.out
                            have hnb186 := NB6262_6252.out
                            have hnc186 := NB6252_6262.out
                            have hnb187 := NB6262_6253.out
                            have hnc187 := NB6253_6262.out
                            have hnb188 := NB6262_6257.out
                            have hnc188 := NB6257_6262.out
                            have hcz189_0 : wr.cell? ⟨gb6262, 0, none⟩ = some (.bool true) := bc BK6262 0
                            have hcz189_1 : wr.cell? ⟨gb6262, 1, none⟩ = some (.int .i64 x6263001_3) := bc BK6262 1
                            have hcz189_2 : wr.cell? ⟨gb6262, 2, none⟩ = some (.int .i64 x6263002_3) := bc BK6262 2
                            have hfz189_0 := blk_frozen BK6262.out 0
                            have hfz189_1 := blk_frozen BK6262.out 1
                            have hfz189_2 := blk_frozen BK6262.out 2
                            go_wp2
                            go_roundg k3
                            case measure => have := HJ5.out; have := HK2.out; have := HK3.out; omega
                            case rel => exact ⟨(wrap64 (x11_3 + 1)), (false), ((wrap64 (x10_2 + x11_3))), ((wrap64 (x10_2 + x11_3))), (by first | rfl | (simp; done) | (simp [*]; done)), H', ⟨by have := HJ5.out; have := HK2.out; have := HK3.out; omega⟩, ⟨pk BK6251⟩, ⟨pk BK6252⟩, ⟨pk BK6253⟩, ⟨pk BK6257⟩, ⟨pk BK6261⟩, ⟨pK BK6262⟩, ⟨pl HB⟩⟩
                          · replace c176 := Bool.eq_false_iff.mpr c176
                            subst c176
                            rw [if_neg (show ¬ (false = true) by decide)] at H
                            obtain ⟨ji190, hji190⟩ : ∃ j_ : Int, (mn x6263001_3 (wrap64 (x10_2 + x11_3))) = j_ := ⟨_, rfl⟩
                            replace H : (flyballref17_Hull.l1 k3 a0 x10_2 (wrap64 (x11_3 + 1)) t6254 t6255 t6256 t6258 t6259 t6260 false ji190 (mx x6263002_3 (wrap64 (x10_2 + x11_3)))) = some (r1, r2, r3) := by first | (rw [hji190] at H; exact H) | (simp only [hji190] at H ⊢; exact H)
                            have hji190_ : (if (wrap64 (x10_2 + x11_3)) < x6263001_3 then (wrap64 (x10_2 + x11_3)) else x6263001_3) = ji190 := hji190
                            obtain ⟨ji191, hji191⟩ : ∃ j_ : Int, (mx x6263002_3 (wrap64 (x10_2 + x11_3))) = j_ := ⟨_, rfl⟩
                            replace H : (flyballref17_Hull.l1 k3 a0 x10_2 (wrap64 (x11_3 + 1)) t6254 t6255 t6256 t6258 t6259 t6260 false ji190 ji191) = some (r1, r2, r3) := by first | (rw [hji191] at H; exact H) | (simp only [hji191] at H ⊢; exact H)
                            have hji191_ : (if x6263002_3 < (wrap64 (x10_2 + x11_3)) then (wrap64 (x10_2 + x11_3)) else x6263002_3) = ji191 := hji191
                            have H' := Aside0.mk H
                            clear H
                            have hnb192 := NB6261_6251.out
                            have hnc192 := NB6251_6261.out
                            have hnb193 := NB6261_6252.out
                            have hnc193 := NB6252_6261.out
                            have hnb194 := NB6261_6253.out
                            have hnc194 := NB6253_6261.out
                            have hnb195 := NB6261_6257.out
                            have hnc195 := NB6257_6261.out
                            have hnb196 := NB6261_6262.out
                            have hnc196 := NB6262_6261.out
                            have hcz197_0 : wr.cell? ⟨gb6261, 0, none⟩ = some (.bool t6258) := bc BK6261 0
                            have hcz197_1 : wr.cell? ⟨gb6261, 1, none⟩ = some (.int .i64 t6259) := bc BK6261 1
                            have hcz197_2 : wr.cell? ⟨gb6261, 2, none⟩ = some (.int .i64 t6260) := bc BK6261 2
                            have hfz197_0 := blk_frozen BK6261.out 0
                            have hfz197_1 := blk_frozen BK6261.out 1
                            have hfz197_2 := blk_frozen BK6261.out 2
                            have hnb198 := NB6262_6251.out
                            have hnc198 := NB6251_6262.out
                            have hnb199 := NB6262_6252.out
                            have hnc199 := NB6252_6262.out
                            have hnb200 := NB6262_6253.out
                            have hnc200 := NB6253_6262.out
                            have hnb201 := NB6262_6257.out
                            have hnc201 := NB6257_6262.out
                            have hcz202_0 : wr.cell? ⟨gb6262, 0, none⟩ = some (.bool false) := bc BK6262 0
                            have hcz202_1 : wr.cell? ⟨gb6262, 1, none⟩ = some (.int .i64 x6263001_3) := bc BK6262 1
                            have hcz202_2 : wr.cell? ⟨gb6262, 2, none⟩ = some (.int .i64 x6263002_3) := bc BK6262 2
                            have hfz202_0 := blk_frozen BK6262.out 0
                            have hfz202_1 := blk_frozen BK6262.out 1
                            have hfz202_2 := blk_frozen BK6262.out 2
                            go_wp2
                            go_roundg k3
                            case measure => have := HJ5.out; have := HK2.out; have := HK3.out; omega
                            case rel => exact ⟨(wrap64 (x11_3 + 1)), (false), (ji190), (ji191), (by first | rfl | (simp; done) | (simp [*]; done)), H', ⟨by have := HJ5.out; have := HK2.out; have := HK3.out; omega⟩, ⟨pk BK6251⟩, ⟨pk BK6252⟩, ⟨pk BK6253⟩, ⟨pk BK6257⟩, ⟨pk BK6261⟩, ⟨pK BK6262⟩, ⟨pl HB⟩⟩
                  · rw [if_neg c83] at H
                    have c83b0 : decide (x11_3 ≤ t6260) = false := decide_eq_false c83
                    clear c83
                    have H' := Aside0.mk H
                    clear H
                    have hnb203 := NB6261_6251.out
                    have hnc203 := NB6251_6261.out
                    have hnb204 := NB6261_6252.out
                    have hnc204 := NB6252_6261.out
                    have hnb205 := NB6261_6253.out
                    have hnc205 := NB6253_6261.out
                    have hnb206 := NB6261_6257.out
                    have hnc206 := NB6257_6261.out
                    have hnb207 := NB6261_6262.out
                    have hnc207 := NB6262_6261.out
                    have hcz208_0 : wr.cell? ⟨gb6261, 0, none⟩ = some (.bool t6258) := bc BK6261 0
                    have hcz208_1 : wr.cell? ⟨gb6261, 1, none⟩ = some (.int .i64 t6259) := bc BK6261 1
                    have hcz208_2 : wr.cell? ⟨gb6261, 2, none⟩ = some (.int .i64 t6260) := bc BK6261 2
                    have hfz208_0 := blk_frozen BK6261.out 0
                    have hfz208_1 := blk_frozen BK6261.out 1
                    have hfz208_2 := blk_frozen BK6261.out 2
                    go_wp2
                    go_roundg k3
                    case measure => have := HJ5.out; have := HK2.out; have := HK3.out; omega
                    case rel => exact ⟨(wrap64 (x10_2 + 1)), (x6263000_3), (x6263001_3), (x6263002_3), (by first | rfl | (simp; done) | (simp [*]; done)), H', ⟨by have := HJ5.out; have := HK2.out; have := HK3.out; omega⟩, ⟨pk BK6251⟩, ⟨pk BK6252⟩, ⟨pk BK6253⟩, ⟨pk BK6257⟩, ⟨pk BK6261⟩, ⟨pk BK6262⟩, ⟨pl HB⟩⟩
            · rw [if_neg c71] at H
              have c71b0 : decide (x10_2 ≤ t6256) = false := decide_eq_false c71
              clear c71
              by_cases c209 : x6263000_2 = true
              · subst c209
                rw [if_pos rfl] at H
                simp only [Option.some.injEq, Prod.mk.injEq] at H
                obtain ⟨rfl, rfl, rfl⟩ := H
                have hnb210 := NB6257_6251.out
                have hnc210 := NB6251_6257.out
                have hnb211 := NB6257_6252.out
                have hnc211 := NB6252_6257.out
                have hnb212 := NB6257_6253.out
                have hnc212 := NB6253_6257.out
                have hnb213 := NB6257_6261.out
                have hnc213 := NB6261_6257.out
                have hnb214 := NB6257_6262.out
                have hnc214 := NB6262_6257.out
                have hcz215_0 : wr.cell? ⟨gb6257, 0, none⟩ = some (.bool t6254) := bc BK6257 0
                have hcz215_1 : wr.cell? ⟨gb6257, 1, none⟩ = some (.int .i64 t6255) := bc BK6257 1
                have hcz215_2 : wr.cell? ⟨gb6257, 2, none⟩ = some (.int .i64 t6256) := bc BK6257 2
                have hfz215_0 := blk_frozen BK6257.out 0
                have hfz215_1 := blk_frozen BK6257.out 1
                have hfz215_2 := blk_frozen BK6257.out 2
                have hnb216 := NB6262_6251.out
                have hnc216 := NB6251_6262.out
                have hnb217 := NB6262_6252.out
                have hnc217 := NB6252_6262.out
                have hnb218 := NB6262_6253.out
                have hnc218 := NB6253_6262.out
                have hnb219 := NB6262_6261.out
                have hnc219 := NB6261_6262.out
                have hcz220_0 : wr.cell? ⟨gb6262, 0, none⟩ = some (.bool true) := bc BK6262 0
                have hcz220_1 : wr.cell? ⟨gb6262, 1, none⟩ = some (.int .i64 x6263001_2) := bc BK6262 1
                have hcz220_2 : wr.cell? ⟨gb6262, 2, none⟩ = some (.int .i64 x6263002_2) := bc BK6262 2
                have hfz220_0 := blk_frozen BK6262.out 0
                have hfz220_1 := blk_frozen BK6262.out 1
                have hfz220_2 := blk_frozen BK6262.out 2
                have hnb221 := NB6253_6251.out
                have hnc221 := NB6251_6253.out
                have hnb222 := NB6253_6252.out
                have hnc222 := NB6252_6253.out
                have hnb223 := NB6253_6261.out
                have hnc223 := NB6261_6253.out
                have hcz224_0 : wr.cell? ⟨gb6253, 0, none⟩ = some (.bool false) := bc BK6253 0
                have hcz224_1 : wr.cell? ⟨gb6253, 1, none⟩ = some (.int .i64 0) := bc BK6253 1
                have hcz224_2 : wr.cell? ⟨gb6253, 2, none⟩ = some (.int .i64 0) := bc BK6253 2
                have hfz224_0 := blk_frozen BK6253.out 0
                have hfz224_1 := blk_frozen BK6253.out 1
                have hfz224_2 := blk_frozen BK6253.out 2
                go_wp2
                refine bodyPost_ret (results_cell_row rfl _ _ gb6253 23 #[.bool true, .int .i64 x6263001_2, .int .i64 x6263002_2] (0, 0) _ rfl (pK BK6253) Try.underlying23 rfl (by kernel_rfl)) rfl ?_
                exact ⟨pe, pl HB⟩
              · replace c209 := Bool.eq_false_iff.mpr c209
                subst c209
                rw [if_neg (show ¬ (false = true) by decide)] at H
                obtain ⟨ji225, hji225⟩ : ∃ j_ : Int, (mn x6263001_2 1099511627775) = j_ := ⟨_, rfl⟩
                replace H : (some (false, mx (ji225) (-1099511627776), mx (mn x6263002_2 1099511627776) (-1099511627775))) = some (r1, r2, r3) := by first | (rw [hji225] at H; exact H) | (simp only [hji225] at H ⊢; exact H)
                have hji225_ : (if 1099511627775 < x6263001_2 then 1099511627775 else x6263001_2) = ji225 := hji225
                obtain ⟨ji226, hji226⟩ : ∃ j_ : Int, (mx (ji225) (-1099511627776)) = j_ := ⟨_, rfl⟩
                replace H : (some (false, ji226, mx (mn x6263002_2 1099511627776) (-1099511627775))) = some (r1, r2, r3) := by first | (rw [hji226] at H; exact H) | (simp only [hji226] at H ⊢; exact H)
                have hji226_ : (if (ji225) < (-1099511627776) then (-1099511627776) else (ji225)) = ji226 := hji226
                obtain ⟨ji227, hji227⟩ : ∃ j_ : Int, (mn x6263002_2 1099511627776) = j_ := ⟨_, rfl⟩
                replace H : (some (false, ji226, mx (ji227) (-1099511627775))) = some (r1, r2, r3) := by first | (rw [hji227] at H; exact H) | (simp only [hji227] at H ⊢; exact H)
                have hji227_ : (if 1099511627776 < x6263002_2 then 1099511627776 else x6263002_2) = ji227 := hji227
                obtain ⟨ji228, hji228⟩ : ∃ j_ : Int, (mx (ji227) (-1099511627775)) = j_ := ⟨_, rfl⟩
                replace H : (some (false, ji226, ji228)) = some (r1, r2, r3) := by first | (rw [hji228] at H; exact H) | (simp only [hji228] at H ⊢; exact H)
                have hji228_ : (if (ji227) < (-1099511627775) then (-1099511627775) else (ji227)) = ji228 := hji228
                simp only [Option.some.injEq, Prod.mk.injEq] at H
                obtain ⟨rfl, rfl, rfl⟩ := H
                have hnb229 := NB6257_6251.out
                have hnc229 := NB6251_6257.out
                have hnb230 := NB6257_6252.out
                have hnc230 := NB6252_6257.out
                have hnb231 := NB6257_6253.out
                have hnc231 := NB6253_6257.out
                have hnb232 := NB6257_6261.out
                have hnc232 := NB6261_6257.out
                have hnb233 := NB6257_6262.out
                have hnc233 := NB6262_6257.out
                have hcz234_0 : wr.cell? ⟨gb6257, 0, none⟩ = some (.bool t6254) := bc BK6257 0
                have hcz234_1 : wr.cell? ⟨gb6257, 1, none⟩ = some (.int .i64 t6255) := bc BK6257 1
                have hcz234_2 : wr.cell? ⟨gb6257, 2, none⟩ = some (.int .i64 t6256) := bc BK6257 2
                have hfz234_0 := blk_frozen BK6257.out 0
                have hfz234_1 := blk_frozen BK6257.out 1
                have hfz234_2 := blk_frozen BK6257.out 2
                have hnb235 := NB6262_6251.out
                have hnc235 := NB6251_6262.out
                have hnb236 := NB6262_6252.out
                have hnc236 := NB6252_6262.out
                have hnb237 := NB6262_6253.out
                have hnc237 := NB6253_6262.out
                have hnb238 := NB6262_6261.out
                have hnc238 := NB6261_6262.out
                have hcz239_0 : wr.cell? ⟨gb6262, 0, none⟩ = some (.bool false) := bc BK6262 0
                have hcz239_1 : wr.cell? ⟨gb6262, 1, none⟩ = some (.int .i64 x6263001_2) := bc BK6262 1
                have hcz239_2 : wr.cell? ⟨gb6262, 2, none⟩ = some (.int .i64 x6263002_2) := bc BK6262 2
                have hfz239_0 := blk_frozen BK6262.out 0
                have hfz239_1 := blk_frozen BK6262.out 1
                have hfz239_2 := blk_frozen BK6262.out 2
                have hnb240 := NB6253_6251.out
                have hnc240 := NB6251_6253.out
                have hnb241 := NB6253_6252.out
                have hnc241 := NB6252_6253.out
                have hnb242 := NB6253_6261.out
                have hnc242 := NB6261_6253.out
                have hcz243_0 : wr.cell? ⟨gb6253, 0, none⟩ = some (.bool false) := bc BK6253 0
                have hcz243_1 : wr.cell? ⟨gb6253, 1, none⟩ = some (.int .i64 0) := bc BK6253 1
                have hcz243_2 : wr.cell? ⟨gb6253, 2, none⟩ = some (.int .i64 0) := bc BK6253 2
                have hfz243_0 := blk_frozen BK6253.out 0
                have hfz243_1 := blk_frozen BK6253.out 1
                have hfz243_2 := blk_frozen BK6253.out 2
                go_wp2
                refine bodyPost_ret (results_cell_row rfl _ _ gb6253 23 #[.bool false, .int .i64 ji226, .int .i64 ji228] (0, 0) _ rfl (pK BK6253) Try.underlying23 rfl (by kernel_rfl)) rfl ?_
                exact ⟨by first | rfl | (simp [errW_none, errW_some] <;> rfl) | (simp only [← hji225, ← hji226, ← hji227, ← hji228]; first | rfl | (simp [errW_none, errW_some] <;> rfl)) | (simp [*, errW_none, errW_some] <;> rfl), pl HB⟩
end Go.Proofs.Ytinmgnlofininaa.PAll
end
