/- Functions of the print, turned to this claim. -/
import Derived.Test.YtinmgnlofininaaZKW
import Derived.Test.YtinmgnlofininaaZKx0
import Derived.Test.YtinmgnlofininaaZKx3
import Derived.Test.YtinmgnlofininaaZKx25
section
namespace Go.Proofs.Ytinmgnlofininaa.PAll
open Go.RowKit Go.Proofs.YtinmgnlofininaaW.PrintWords Go.Proofs.YtinmgnlofininaaW.PrintLast Go.Proofs.YtinmgnlofininaaW.PrintMore
attribute [local go_sem] max2_int min2_int max_two min_two max_three min_three max_four min_four   -- for this text's walks alone
set_option linter.unusedVariables false
set_option linter.unusedSimpArgs false
/-! ### clock_Has: function 33 -/
def clock_Has.j0 : Nat → Int → Int → Bool → Bool → Int → Int → Bool → Int → Int → Option (Bool)
  | 0, _, _, _, _, _, _, _, _, _ => none
  | k + 1, x1, x2, x16, x9402000, x9402001, x9402002, x9402003, x9402004, x9402005 => if x16 = true then (some false) else ((clock_norm.f k x9402000 x9402001 x9402002 x9402003 x9402004 x9402005).bind fun bt9402 => ((ints_Has.f bt9402.1 bt9402.2.1 bt9402.2.2.1 (wrap64 (x1 - x2))).bind fun t9408 => (if t9408 = true then ((ints_Has.f bt9402.2.2.2.1 bt9402.2.2.2.2.1 bt9402.2.2.2.2.2 (wrap64 (x1 + x2))).bind fun t9409 => (some t9409)) else (some false))))
def clock_Has.f (k : Nat) (a0_0 : Bool) (a0_1 : Int) (a0_2 : Int) (a0_3 : Bool) (a0_4 : Int) (a0_5 : Int) (a1 : Int) (a2 : Int) : Option (Bool) := if (mn a1 a2) < (-2199023255552) then (clock_Has.j0 k a1 a2 true a0_0 a0_1 a0_2 a0_3 a0_4 a0_5) else (clock_Has.j0 k a1 a2 (decide ((mx a1 a2) > 2199023255552)) a0_0 a0_1 a0_2 a0_3 a0_4 a0_5)
theorem clock_Has.mono_l : ∀ k, (∀ y0 y1 y2 y3 y4 y5 y6 y7 y8, LeO (clock_Has.j0 k y0 y1 y2 y3 y4 y5 y6 y7 y8) (clock_Has.j0 (k + 1) y0 y1 y2 y3 y4 y5 y6 y7 y8))
  | 0 => fun _ _ _ _ _ _ _ _ _ r h => by simp [clock_Has.j0] at h
  | k + 1 => by
    have ih0 := clock_Has.mono_l k
    · intro y0 y1 y2 y3 y4 y5 y6 y7 y8
      unfold clock_Has.j0
      repeat' first
      | (with_reducible exact ih0 _ _ _ _ _ _ _ _ _)
      | (with_reducible exact clock_norm.mono _ _ _ _ _ _ _)
      | (with_reducible exact LeO.refl _)
      | (with_reducible exact LeO.none _)
      | (with_reducible refine LeO.ite ?_ ?_)
      | (with_reducible refine LeO.bind ?_ (fun _ => ?_))
      | exact ih0 _ _ _ _ _ _ _ _ _
      | exact clock_norm.mono _ _ _ _ _ _ _
      | exact LeO.none _
      | refine LeO.ite ?_ ?_
      | refine LeO.bind ?_ (fun _ => ?_)
theorem clock_Has.mono : ∀ a0 a1 a2 a3 a4 a5 a6 a7 k, LeO (clock_Has.f k a0 a1 a2 a3 a4 a5 a6 a7) (clock_Has.f (k + 1) a0 a1 a2 a3 a4 a5 a6 a7) := by
  intro a0 a1 a2 a3 a4 a5 a6 a7 k
  have ih0 := clock_Has.mono_l k
  unfold clock_Has.f
  repeat' first
      | (with_reducible exact ih0 _ _ _ _ _ _ _ _ _)
      | (with_reducible exact clock_norm.mono _ _ _ _ _ _ _)
      | (with_reducible exact LeO.refl _)
      | (with_reducible exact LeO.none _)
      | (with_reducible refine LeO.ite ?_ ?_)
      | (with_reducible refine LeO.bind ?_ (fun _ => ?_))
      | exact ih0 _ _ _ _ _ _ _ _ _
      | exact clock_norm.mono _ _ _ _ _ _ _
      | exact LeO.none _
      | refine LeO.ite ?_ ?_
      | refine LeO.bind ?_ (fun _ => ?_)
set_option maxHeartbeats 8000000 in
set_option maxRecDepth 100000 in
theorem clock_Has.calls (k : Nat) (a0_0 : Bool) (a0_1 : Int) (a0_2 : Int) (a0_3 : Bool) (a0_4 : Int) (a0_5 : Int) (a1 : Int) (a2 : Int) (r : Bool) (w : World) (h : clock_Has.f k a0_0 a0_1 a0_2 a0_3 a0_4 a0_5 a1 a2 = some r) :
    Calls Try.prog 33 #[.agg #[.bool a0_0, .int .i64 a0_1, .int .i64 a0_2, .bool a0_3, .int .i64 a0_4, .int .i64 a0_5], .int .i64 a1, .int .i64 a2] w fun e w' => e = .returned (.bool r) ∧ Below w.heap.size w w' := by
  have hu25 := Try.underlying25
  have hu23 := Try.underlying23
  have HB := Aside0.mk (Below.refl w.heap.size w)
  have H := h
  clear h
  unfold clock_Has.f at H
  have HC4 := Aside0.mk H
  clear H
  go_enter Try.func33, Try.ntmps33
  go_upto_region 1 with (first | ((with_reducible refine gate_dst (N := 3) rfl ?_); (try (refine gate_guard (by rfl) ?_; dsimp only)); refine kx 3 #[.bool a0_0, .int .i64 a0_1, .int .i64 a0_2, .bool a0_3, .int .i64 a0_4, .int .i64 a0_5] 25 ?_; intro gb9401 hg w5 hbox hb; have BK9401 := Aside0.mk (hbox); have GW9401 := kg HB hg; have GE9401 := kg HB hg; replace HB := kh HB hb; clear hb hbox hg))
  (try simp only [Act.put, List.setIfInBounds_toArray, List.set_cons_zero, List.set_cons_succ])
  go_cut [16] (fun v16 wc => ∃ (kq : Nat) (x16_3 : Bool), v16 = .bool x16_3 ∧ Aside0 (clock_Has.j0 kq a1 a2 x16_3 a0_0 a0_1 a0_2 a0_3 a0_4 a0_5 = some r) ∧ Aside0 (kq ≤ k) ∧ Aside0 (wc.heap[gb9401]? = some (.cells #[.bool a0_0, .int .i64 a0_1, .int .i64 a0_2, .bool a0_3, .int .i64 a0_4, .int .i64 a0_5] 25 (0, 0))) ∧ Aside0 (Below w.heap.size w wc))
  case first =>
    have H := HC4.out
    clear HC4
    obtain ⟨ji6, hji6⟩ : ∃ j_ : Int, (mn a1 a2) = j_ := ⟨_, rfl⟩
    replace H : (if (ji6) < (-2199023255552) then (clock_Has.j0 k a1 a2 true a0_0 a0_1 a0_2 a0_3 a0_4 a0_5) else (clock_Has.j0 k a1 a2 (decide ((mx a1 a2) > 2199023255552)) a0_0 a0_1 a0_2 a0_3 a0_4 a0_5)) = some r := by first | (rw [hji6] at H; exact H) | (simp only [hji6] at H ⊢; exact H)
    have hji6_ : (if a2 < a1 then a2 else a1) = ji6 := hji6
    by_cases c7 : (ji6) < (-2199023255552)
    · rw [if_pos c7] at H
      have c7b0 : decide ((ji6) < (-2199023255552)) = true := decide_eq_true c7
      clear c7
      (first | rw [c7b0] | (simp only [i64_w, i32_w]; rw [c7b0]) | skip)
      have H' := Aside0.mk H
      clear H
      go_wp2
      go_meet
      case rel => exact ⟨_, (true), (by first | rfl | (simp; done) | (simp [*]; done)), H', ⟨by first | omega | exact Nat.le_refl _⟩, ⟨pk BK9401⟩, ⟨pl HB⟩⟩
    · rw [if_neg c7] at H
      have c7b0 : decide ((ji6) < (-2199023255552)) = false := decide_eq_false c7
      clear c7
      (first | rw [c7b0] | (simp only [i64_w, i32_w]; rw [c7b0]) | skip)
      obtain ⟨ji8, hji8⟩ : ∃ j_ : Int, (mx a1 a2) = j_ := ⟨_, rfl⟩
      replace H : (clock_Has.j0 k a1 a2 (decide ((ji8) > 2199023255552)) a0_0 a0_1 a0_2 a0_3 a0_4 a0_5) = some r := by first | (rw [hji8] at H; exact H) | (simp only [hji8] at H ⊢; exact H)
      have hji8_ : (if a1 < a2 then a2 else a1) = ji8 := hji8
      have H' := Aside0.mk H
      clear H
      go_wp2
      go_meet
      case rel => exact ⟨_, (decide ((ji8) > 2199023255552)), (by first | rfl | (simp; done) | (simp only [← hji8] <;> (first | rfl | simp)) | (simp [*]; done)), H', ⟨by first | omega | exact Nat.le_refl _⟩, ⟨pk BK9401⟩, ⟨pl HB⟩⟩
  case rest =>
    clear HC4
    try clear p2
    try clear c3
    try clear c7
    try clear c7b0
    obtain ⟨kq, x16_3, rfl, HA, HJ3, BK9401, HB⟩ := hcut
    cases kq with
    | zero => exact absurd HA.out (by simp [clock_Has.j0])
    | succ kj3 =>
      have H := HA.out
      clear HA
      simp only [clock_Has.j0] at H
      by_cases c9 : x16_3 = true
      · subst c9
        rw [if_pos rfl] at H
        obtain rfl := Option.some.inj H
        go_wp2
        go_ret
        exact ⟨pe, pl HB⟩
      · replace c9 := Bool.eq_false_iff.mpr c9
        subst c9
        rw [if_neg (show ¬ (false = true) by decide)] at H
        obtain ⟨⟨t9402, t9403, t9404, t9405, t9406, t9407⟩, A100, H⟩ := Option.bind_eq_some_iff.mp H
        have A10 := Aside0.mk A100
        clear A100
        (try dsimp only at H)
        obtain ⟨t9408, A110, H⟩ := Option.bind_eq_some_iff.mp H
        have A11 := Aside0.mk A110
        clear A110
        (try dsimp only at H)
        by_cases c12 : t9408 = true
        · subst c12
          rw [if_pos rfl] at H
          obtain ⟨t9409, A130, H⟩ := Option.bind_eq_some_iff.mp H
          have A13 := Aside0.mk A130
          clear A130
          (try dsimp only at H)
          obtain rfl := Option.some.inj H
          have hcz14_0 : wc.cell? ⟨gb9401, 0, none⟩ = some (.bool a0_0) := bc BK9401 0
          have hcz14_1 : wc.cell? ⟨gb9401, 1, none⟩ = some (.int .i64 a0_1) := bc BK9401 1
          have hcz14_2 : wc.cell? ⟨gb9401, 2, none⟩ = some (.int .i64 a0_2) := bc BK9401 2
          have hcz14_3 : wc.cell? ⟨gb9401, 3, none⟩ = some (.bool a0_3) := bc BK9401 3
          have hcz14_4 : wc.cell? ⟨gb9401, 4, none⟩ = some (.int .i64 a0_4) := bc BK9401 4
          have hcz14_5 : wc.cell? ⟨gb9401, 5, none⟩ = some (.int .i64 a0_5) := bc BK9401 5
          have hfz14_0 := blk_frozen BK9401.out 0
          have hfz14_1 := blk_frozen BK9401.out 1
          have hfz14_2 := blk_frozen BK9401.out 2
          have hfz14_3 := blk_frozen BK9401.out 3
          have hfz14_4 := blk_frozen BK9401.out 4
          have hfz14_5 := blk_frozen BK9401.out 5
          go_wp2_with (first | ((with_reducible refine gate_callee (f := 61) rfl ?_); refine kc (some 18) Try.func61 #[.agg #[.bool a0_0, .int .i64 a0_1, .int .i64 a0_2, .bool a0_3, .int .i64 a0_4, .int .i64 a0_5]] (clock_norm.calls kj3 a0_0 a0_1 a0_2 a0_3 a0_4 a0_5 t9402 t9403 t9404 t9405 t9406 t9407 _ A10.out) ?_; intro w15 hb; replace BK9401 := kb BK9401 hb; replace HB := kh HB hb; (try clear hb); have ⟨hcz16_0, hcz16_1, hcz16_2, hcz16_3, hcz16_4, hcz16_5, hfz16_0, hfz16_1, hfz16_2, hfz16_3, hfz16_4, hfz16_5⟩ := kz6f BK9401) | ((with_reducible refine gate_callee (f := 36) rfl ?_); refine kc (some 24) Try.func36 #[.agg #[.bool t9402, .int .i64 t9403, .int .i64 t9404], .int .i64 (wrap64 (a1 - a2))] (ints_Has.calls t9402 t9403 t9404 (wrap64 (a1 - a2)) true _ A11.out) ?_; intro w17 hb; replace BK9401 := kb (o' := .cells #[.bool t9402, .int .i64 t9403, .int .i64 t9404, .bool t9405, .int .i64 t9406, .int .i64 t9407] 25 (0, 0)) BK9401 hb; replace HB := kh HB hb; (try clear hb); have ⟨hcz18_0, hcz18_1, hcz18_2, hcz18_3, hcz18_4, hcz18_5, hfz18_0, hfz18_1, hfz18_2, hfz18_3, hfz18_4, hfz18_5⟩ := kz6f BK9401) | (go_at_call 36; (with_reducible refine (ints_Has.calls t9405 t9406 t9407 (wrap64 (a1 + a2)) t9409 _ A13.out).mono ?_); rintro e w19 ⟨rfl, hb⟩; replace BK9401 := kb BK9401 hb; replace HB := kh HB hb; (try clear hb)))
          go_ret
          exact ⟨pe, pl HB⟩
        · replace c12 := Bool.eq_false_iff.mpr c12
          subst c12
          rw [if_neg (show ¬ (false = true) by decide)] at H
          obtain rfl := Option.some.inj H
          have hcz20_0 : wc.cell? ⟨gb9401, 0, none⟩ = some (.bool a0_0) := bc BK9401 0
          have hcz20_1 : wc.cell? ⟨gb9401, 1, none⟩ = some (.int .i64 a0_1) := bc BK9401 1
          have hcz20_2 : wc.cell? ⟨gb9401, 2, none⟩ = some (.int .i64 a0_2) := bc BK9401 2
          have hcz20_3 : wc.cell? ⟨gb9401, 3, none⟩ = some (.bool a0_3) := bc BK9401 3
          have hcz20_4 : wc.cell? ⟨gb9401, 4, none⟩ = some (.int .i64 a0_4) := bc BK9401 4
          have hcz20_5 : wc.cell? ⟨gb9401, 5, none⟩ = some (.int .i64 a0_5) := bc BK9401 5
          have hfz20_0 := blk_frozen BK9401.out 0
          have hfz20_1 := blk_frozen BK9401.out 1
          have hfz20_2 := blk_frozen BK9401.out 2
          have hfz20_3 := blk_frozen BK9401.out 3
          have hfz20_4 := blk_frozen BK9401.out 4
          have hfz20_5 := blk_frozen BK9401.out 5
          go_wp2_with (first | ((with_reducible refine gate_callee (f := 61) rfl ?_); refine kc (some 18) Try.func61 #[.agg #[.bool a0_0, .int .i64 a0_1, .int .i64 a0_2, .bool a0_3, .int .i64 a0_4, .int .i64 a0_5]] (clock_norm.calls kj3 a0_0 a0_1 a0_2 a0_3 a0_4 a0_5 t9402 t9403 t9404 t9405 t9406 t9407 _ A10.out) ?_; intro w21 hb; replace BK9401 := kb BK9401 hb; replace HB := kh HB hb; (try clear hb); have ⟨hcz22_0, hcz22_1, hcz22_2, hcz22_3, hcz22_4, hcz22_5, hfz22_0, hfz22_1, hfz22_2, hfz22_3, hfz22_4, hfz22_5⟩ := kz6f BK9401) | ((with_reducible refine gate_callee (f := 36) rfl ?_); refine kc (some 24) Try.func36 #[.agg #[.bool t9402, .int .i64 t9403, .int .i64 t9404], .int .i64 (wrap64 (a1 - a2))] (ints_Has.calls t9402 t9403 t9404 (wrap64 (a1 - a2)) false _ A11.out) ?_; intro w23 hb; replace BK9401 := kb (o' := .cells #[.bool t9402, .int .i64 t9403, .int .i64 t9404, .bool t9405, .int .i64 t9406, .int .i64 t9407] 25 (0, 0)) BK9401 hb; replace HB := kh HB hb; (try clear hb)))
          go_ret
          exact ⟨pe, pl HB⟩
/-! ### clock_All: function 59 -/
def clock_All.f  : Option (Bool × Int × Int × Bool × Int × Int) := (ints_Make.f (-1099511627776) 1099511627776).bind fun bt9552 => (some (bt9552.1, bt9552.2.1, bt9552.2.2, bt9552.1, bt9552.2.1, bt9552.2.2))
set_option maxHeartbeats 8000000 in
set_option maxRecDepth 100000 in
theorem clock_All.calls  (r1 : Bool) (r2 : Int) (r3 : Int) (r4 : Bool) (r5 : Int) (r6 : Int) (w : World) (h : clock_All.f  = some (r1, r2, r3, r4, r5, r6)) :
    Calls Try.prog 59 #[] w fun e w' => e = .returned (.agg #[.bool r1, .int .i64 r2, .int .i64 r3, .bool r4, .int .i64 r5, .int .i64 r6]) ∧ Below w.heap.size w w' := by
  have hu25 := Try.underlying25
  have hu23 := Try.underlying23
  have HB := Aside0.mk (Below.refl w.heap.size w)
  have H := h
  clear h
  unfold clock_All.f at H
  obtain ⟨⟨t9552, t9553, t9554⟩, A10, H⟩ := Option.bind_eq_some_iff.mp H
  have A1 := Aside0.mk A10
  clear A10
  (try dsimp only at H)
  simp only [Option.some.injEq, Prod.mk.injEq] at H
  obtain ⟨rfl, rfl, rfl, rfl, rfl, rfl⟩ := H
  go_enter Try.func59, Try.ntmps59
  go_wp2_with (first | ((with_reducible refine gate_dst (N := 0) rfl ?_); refine kx 0 #[.bool false, .int .i64 0, .int .i64 0, .bool false, .int .i64 0, .int .i64 0] 25 ?_; intro gb9551 hg w2 hbox hb; have BK9551 := Aside0.mk (hbox); have GW9551 := kg HB hg; have GE9551 := kg HB hg; replace HB := kh HB hb; clear hb hbox hg) | ((with_reducible refine gate_callee (f := 37) rfl ?_); refine kc (some 2) Try.func37 #[.int .i64 (-1099511627776), .int .i64 1099511627776] (ints_Make.calls (-1099511627776) 1099511627776 t9552 t9553 t9554 _ A1.out) ?_; intro w3 hb; replace BK9551 := kb BK9551 hb; replace HB := kh HB hb; (try clear hb)) | ((with_reducible refine gate_dst (N := 1) rfl ?_); refine kx 1 #[.bool false, .int .i64 0, .int .i64 0] 23 ?_; intro gb9555 hg w4 hbox hb; have BK9555 := Aside0.mk (hbox); have GW9555 := kg HB hg; have GE9555 := kg HB hg; have NB9551_9555 := kn BK9551 hg; have NB9555_9551 := km BK9551 hg; replace BK9551 := kb BK9551 hb; replace HB := kh HB hb; clear hb hbox hg; have hnb5 := NB9555_9551.out; have hnc5 := NB9551_9555.out; have ⟨hcz6_0, hcz6_1, hcz6_2, hfz6_0, hfz6_1, hfz6_2⟩ := kz3f BK9555; have ⟨hcz7_0, hcz7_1, hcz7_2, hcz7_3, hcz7_4, hcz7_5, hfz7_0, hfz7_1, hfz7_2, hfz7_3, hfz7_4, hfz7_5⟩ := kz6f BK9551))
  refine bodyPost_ret (results_cell_row rfl _ _ gb9551 25 #[.bool t9552, .int .i64 t9553, .int .i64 t9554, .bool t9552, .int .i64 t9553, .int .i64 t9554] (0, 0) _ rfl (pK BK9551) Try.underlying25 rfl (by kernel_rfl)) rfl ?_
  exact ⟨pe, pl HB⟩
end Go.Proofs.Ytinmgnlofininaa.PAll
end
