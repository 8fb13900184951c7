/- Functions of the print, turned to this claim. -/
import Derived.Test.YtdchdapllehppaaZSW
import Derived.Test.YtdchdapllehppaaZSx0
import Derived.Test.YtdchdapllehppaaZSx13
import Derived.Test.YtdchdapllehppaaZSx14
section
namespace Go.Proofs.Ytdchdapllehppaa.PAll
open Go.RowKit Go.Proofs.YtdchdapllehppaaW.PrintWords Go.Proofs.YtdchdapllehppaaW.PrintLast Go.Proofs.YtdchdapllehppaaW.PrintMore
attribute [local go_sem] max2_int min2_int max_two min_two max_three min_three max_four min_four   -- for this text's walks alone
set_option linter.unusedVariables false
set_option linter.unusedSimpArgs false
/-! ### flyballlaw01_of: function 15 -/
def flyballlaw01_of.f (k : Nat) (a0_0 : Int) (a0_1 : Int) : Option (List Bool) := (flyballref01_Of.f k (([a0_1, a0_0] : List Int))).bind fun t4905 => (some t4905)
theorem flyballlaw01_of.mono : ∀ a0 a1 k, LeO (flyballlaw01_of.f k a0 a1) (flyballlaw01_of.f (k + 1) a0 a1) := by
  intro a0 a1 k
  unfold flyballlaw01_of.f
  repeat' first
      | (with_reducible exact flyballref01_Of.mono _ _)
      | (with_reducible exact LeO.refl _)
      | (with_reducible exact LeO.none _)
      | (with_reducible refine LeO.ite ?_ ?_)
      | (with_reducible refine LeO.bind ?_ (fun _ => ?_))
      | exact flyballref01_Of.mono _ _
      | exact LeO.none _
      | refine LeO.ite ?_ ?_
      | refine LeO.bind ?_ (fun _ => ?_)
set_option maxHeartbeats 8000000 in
set_option maxRecDepth 100000 in
theorem flyballlaw01_of.calls (k : Nat) (a0_0 : Int) (a0_1 : Int) (r : List Bool) (w : World) (h : flyballlaw01_of.f k a0_0 a0_1 = some r) :
    Calls Try.prog 15 #[.agg #[.int .u64 a0_0, .int .u64 a0_1]] w fun e w' => ∃ v0_ : Value, e = .returned (v0_) ∧ Kd.R Kd.bool 4 w' w.heap.size (fun _ => True) v0_ r ∧ Below w.heap.size w w' := by
  have hu24 := Try.underlying24
  have HB := Aside0.mk (Below.refl w.heap.size w)
  have H := h
  clear h
  unfold flyballlaw01_of.f at H
  obtain ⟨y4902, hy4902⟩ : ∃ y_ : List Int, y_ = (([a0_1, a0_0] : List Int)) := ⟨_, rfl⟩
  replace H : ((flyballref01_Of.f k y4902).bind fun t4905 => (some t4905)) = some r := by first | (rw [hy4902]; with_reducible exact H) | (have H2_ := (Option.bind_some _ _).symm.trans H; rw [hy4902]; with_reducible exact H2_) | (have H2_ := (Option.bind_some _ _).symm.trans H; with_reducible exact H2_) | with_reducible exact H | (rw [hy4902]; exact H) | exact H
  have Ny4902 := Aside0.mk hy4902
  clear hy4902
  obtain ⟨t4905, A20, H⟩ := Option.bind_eq_some_iff.mp H
  have A2 := Aside0.mk A20
  clear A20
  (try dsimp only at H)
  obtain rfl := Option.some.inj H
  go_enter Try.func15, Try.ntmps15
  go_wp2_with (first | ((with_reducible refine gate_dst (N := 1) rfl ?_); refine kx 1 #[.int .u64 a0_0, .int .u64 a0_1] 24 ?_; intro gb4901 hg w3 hbox hb; have BK4901 := Aside0.mk (hbox); have GW4901 := kg HB hg; have GE4901 := kg HB hg; replace HB := kh HB hb; clear hb hbox hg; have hcz4_0 : w3.cell? ⟨gb4901, 0, none⟩ = some (.int .u64 a0_0) := bc BK4901 0; have hcz4_1 : w3.cell? ⟨gb4901, 1, none⟩ = some (.int .u64 a0_1) := bc BK4901 1; have hfz4_0 := blk_frozen BK4901.out 0; have hfz4_1 := blk_frozen BK4901.out 1) | ((with_reducible refine gate_dst (N := 7) rfl ?_); refine Kd.R_lit (Kd.int .u64) _ 22 ?hg (N := 7) ?hd (xs := ([a0_1, a0_0] : List Int)) (inner := [.int .u64 a0_1, .int .u64 a0_0]) (ok := fun _ => True) (okp := fun _ => True) ?hr ?hp (fun _ hk => hk) trivial (Below.refl _ _) (Nat.le_refl _) (by simp) ?_; (case hd => rfl); (case hg => rfl); (case hr => first | (go_simp; done) | (go_simp; rfl)); (case hp => exact (Reps.one (show Kd.M (Kd.int .u64) _ _ _ a0_1 [.int .u64 a0_1] from rfl) (Reps.one (show Kd.M (Kd.int .u64) _ _ _ a0_0 [.int .u64 a0_0] from rfl) (Reps.none _ _)))); intro v4903 w5 ho6 hb hg_ hnew_; clear hg_ hnew_; (first | rw [← Ny4902.out] at ho6 | (simp only [Int.reduceToNat] at ho6; rw [← Ny4902.out] at ho6)); have HO4904 := Aside0.mk (Kd.R_lower ho6 (below_size (pl HB))); replace BK4901 := kb BK4901 hb; replace HB := kh HB hb; clear hb ho6; obtain ⟨Ao7, co7, eo7⟩ := Kd.R_slice HO4904.out; subst eo7) | ((with_reducible refine gate_callee (f := 16) rfl ?_); refine goesL_ (some 8) rfl rfl Try.func16 (by kernel_rfl) rfl #[.slice Ao7 y4902.length co7] rfl pa ?_; (with_reducible refine (flyballref01_Of.calls k _ _ y4902 t4905 _ ?side1 ?side2 A2.out).mono ?_); (case side1 => repeat (first | exact (Kd.R_reads' HO4904.out).2.2 | (with_reducible refine Kd.C_alloc ?_ _) | (with_reducible refine Kd.C_drewN ?_ _) | (with_reducible refine Kd.C_drew ?_))); (case side2 => exact (Kd.R_reads' HO4904.out).2.1); rintro e w8 ⟨v4906, rfl, ho0, hb⟩; refine ⟨_, rfl, ?_⟩; have n0_ := Aside0.mk (Kd.R_below (by (with_reducible repeat (first | apply Kd.R_alloc | apply Kd.R_drewN | apply Kd.R_drew)); exact HO4904.out) hb); have n1_ := Aside0.mk (Kd.R_lower ho0 (below_size (pl HB))); have n2_ := kb BK4901 hb; have n3_ := kh HB hb; clear HO4904; clear BK4901; clear HB; have HO4904 := n0_; have HO4907 := n1_; have BK4901 := n2_; have HB := n3_; clear n0_ n1_ n2_ n3_; (try clear hb); (try clear hb2); (try clear hk); (try clear hi); (try clear ho0)))
  go_ret
  exact ⟨_, pe, by (with_reducible repeat (first | apply Kd.R_alloc | apply Kd.R_drewN | apply Kd.R_drew)); exact HO4907.out, pl HB⟩
/-! ### flyballlaw01_is: function 17 -/
def flyballlaw01_is.f (k : Nat) (a0_0 : Int) (a0_1 : Int) (l1 : List Bool) : Option (Bool) := (flyballlaw01_of.f k a0_0 a0_1).bind fun t5052 => ((flyballref01_Cmp.f k t5052 l1).bind fun t5055 => (some (t5055 == 0)))
theorem flyballlaw01_is.mono : ∀ a0 a1 a2 k, LeO (flyballlaw01_is.f k a0 a1 a2) (flyballlaw01_is.f (k + 1) a0 a1 a2) := by
  intro a0 a1 a2 k
  unfold flyballlaw01_is.f
  repeat' first
      | (with_reducible exact flyballlaw01_of.mono _ _ _)
      | (with_reducible exact flyballref01_Cmp.mono _ _ _)
      | (with_reducible exact LeO.refl _)
      | (with_reducible exact LeO.none _)
      | (with_reducible refine LeO.ite ?_ ?_)
      | (with_reducible refine LeO.bind ?_ (fun _ => ?_))
      | exact flyballlaw01_of.mono _ _ _
      | exact flyballref01_Cmp.mono _ _ _
      | exact LeO.none _
      | refine LeO.ite ?_ ?_
      | refine LeO.bind ?_ (fun _ => ?_)
set_option maxHeartbeats 8000000 in
set_option maxRecDepth 100000 in
theorem flyballlaw01_is.calls (k : Nat) (a0_0 : Int) (a0_1 : Int) (A1 : Option Addr) (c1 : Nat) (l1 : List Bool) (r : Bool) (w : World) (hr1 : Kd.C Kd.bool w A1 l1.length l1) (hc1 : l1.length ≤ c1) (h : flyballlaw01_is.f k a0_0 a0_1 l1 = some r) :
    Calls Try.prog 17 #[.agg #[.int .u64 a0_0, .int .u64 a0_1], .slice A1 l1.length c1] w fun e w' => e = .returned (.bool r) ∧ Below w.heap.size w w' := by
  have hu24 := Try.underlying24
  have HR1 := Aside0.mk hr1
  have HC1 := Aside0.mk hc1
  clear hr1 hc1
  have HB := Aside0.mk (Below.refl w.heap.size w)
  have H := h
  clear h
  unfold flyballlaw01_is.f at H
  obtain ⟨t5052, A30, H⟩ := Option.bind_eq_some_iff.mp H
  have A3 := Aside0.mk A30
  clear A30
  (try dsimp only at H)
  obtain ⟨t5055, A40, H⟩ := Option.bind_eq_some_iff.mp H
  have A4 := Aside0.mk A40
  clear A40
  (try dsimp only at H)
  obtain rfl := Option.some.inj H
  go_enter Try.func17, Try.ntmps17
  go_wp2_with (first | ((with_reducible refine gate_dst (N := 2) rfl ?_); refine kx 2 #[.int .u64 a0_0, .int .u64 a0_1] 24 ?_; intro gb5051 hg w5 hbox hb; have BK5051 := Aside0.mk (hbox); have GW5051 := kg HB hg; have GE5051 := kg HB hg; replace HB := kh HB hb; clear hb hbox hg; have hcz6_0 : w5.cell? ⟨gb5051, 0, none⟩ = some (.int .u64 a0_0) := bc BK5051 0; have hcz6_1 : w5.cell? ⟨gb5051, 1, none⟩ = some (.int .u64 a0_1) := bc BK5051 1; have hfz6_0 := blk_frozen BK5051.out 0; have hfz6_1 := blk_frozen BK5051.out 1) | ((with_reducible refine gate_callee (f := 15) rfl ?_); refine goesL_ (some 6) rfl rfl Try.func15 (by kernel_rfl) rfl #[.agg #[.int .u64 a0_0, .int .u64 a0_1]] rfl pa ?_; (with_reducible refine (flyballlaw01_of.calls k a0_0 a0_1 t5052 _ A3.out).mono ?_); rintro e w7 ⟨v5053, rfl, ho0, hb⟩; refine ⟨_, rfl, ?_⟩; have HO5054 := Aside0.mk (Kd.R_lower ho0 (below_size (pl HB))); replace BK5051 := kb BK5051 hb; replace HB := kh HB hb; (try clear hb); (try clear ho0); obtain ⟨Ao8, co8, eo8⟩ := Kd.R_slice HO5054.out; subst eo8) | ((with_reducible refine gate_callee (f := 18) rfl ?_); refine goesL_ (some 8) rfl rfl Try.func18 (by kernel_rfl) rfl #[.slice Ao8 t5052.length co8, .slice A1 l1.length c1] rfl pa ?_; (with_reducible refine (flyballref01_Cmp.calls k _ _ t5052 _ _ l1 t5055 _ ?side1 ?side2 ?side3 ?side4 A4.out).mono ?_); (case side1 => repeat (first | exact (Kd.R_reads' HO5054.out).2.2 | (with_reducible refine Kd.C_alloc ?_ _) | (with_reducible refine Kd.C_drewN ?_ _) | (with_reducible refine Kd.C_drew ?_))); (case side2 => exact (Kd.R_reads' HO5054.out).2.1); (case side3 => repeat (first | exact (Kd.C_below HR1.out HB.out) | (with_reducible refine Kd.C_alloc ?_ _) | (with_reducible refine Kd.C_drewN ?_ _) | (with_reducible refine Kd.C_drew ?_))); (case side4 => exact HC1.out); rintro e w9 ⟨rfl, hb⟩; refine ⟨_, rfl, ?_⟩; have n0_ := Aside0.mk (Kd.R_below (by (with_reducible repeat (first | apply Kd.R_alloc | apply Kd.R_drewN | apply Kd.R_drew)); exact HO5054.out) hb); have n1_ := kb BK5051 hb; have n2_ := kh HB hb; clear HO5054; clear BK5051; clear HB; have HO5054 := n0_; have BK5051 := n1_; have HB := n2_; clear n0_ n1_ n2_; (try clear hb)))
  go_ret
  exact ⟨pe, pl HB⟩
/-! ### flyballlaw01_of3: function 19 -/
def flyballlaw01_of3.f (k : Nat) (a0_0 : Int) (a0_1 : Int) (a0_2 : Int) : Option (List Bool) := (flyballref01_Of.f k (([a0_2, a0_1, a0_0] : List Int))).bind fun t5205 => (some t5205)
theorem flyballlaw01_of3.mono : ∀ a0 a1 a2 k, LeO (flyballlaw01_of3.f k a0 a1 a2) (flyballlaw01_of3.f (k + 1) a0 a1 a2) := by
  intro a0 a1 a2 k
  unfold flyballlaw01_of3.f
  repeat' first
      | (with_reducible exact flyballref01_Of.mono _ _)
      | (with_reducible exact LeO.refl _)
      | (with_reducible exact LeO.none _)
      | (with_reducible refine LeO.ite ?_ ?_)
      | (with_reducible refine LeO.bind ?_ (fun _ => ?_))
      | exact flyballref01_Of.mono _ _
      | exact LeO.none _
      | refine LeO.ite ?_ ?_
      | refine LeO.bind ?_ (fun _ => ?_)
set_option maxHeartbeats 8000000 in
set_option maxRecDepth 100000 in
theorem flyballlaw01_of3.calls (k : Nat) (a0_0 : Int) (a0_1 : Int) (a0_2 : Int) (r : List Bool) (w : World) (h : flyballlaw01_of3.f k a0_0 a0_1 a0_2 = some r) :
    Calls Try.prog 19 #[.agg #[.int .u64 a0_0, .int .u64 a0_1, .int .u64 a0_2]] w fun e w' => ∃ v0_ : Value, e = .returned (v0_) ∧ Kd.R Kd.bool 4 w' w.heap.size (fun _ => True) v0_ r ∧ Below w.heap.size w w' := by
  have hu26 := Try.underlying26
  have HB := Aside0.mk (Below.refl w.heap.size w)
  have H := h
  clear h
  unfold flyballlaw01_of3.f at H
  obtain ⟨y5202, hy5202⟩ : ∃ y_ : List Int, y_ = (([a0_2, a0_1, a0_0] : List Int)) := ⟨_, rfl⟩
  replace H : ((flyballref01_Of.f k y5202).bind fun t5205 => (some t5205)) = some r := by first | (rw [hy5202]; with_reducible exact H) | (have H2_ := (Option.bind_some _ _).symm.trans H; rw [hy5202]; with_reducible exact H2_) | (have H2_ := (Option.bind_some _ _).symm.trans H; with_reducible exact H2_) | with_reducible exact H | (rw [hy5202]; exact H) | exact H
  have Ny5202 := Aside0.mk hy5202
  clear hy5202
  obtain ⟨t5205, A20, H⟩ := Option.bind_eq_some_iff.mp H
  have A2 := Aside0.mk A20
  clear A20
  (try dsimp only at H)
  obtain rfl := Option.some.inj H
  go_enter Try.func19, Try.ntmps19
  go_wp2_with (first | ((with_reducible refine gate_dst (N := 1) rfl ?_); refine kx 1 #[.int .u64 a0_0, .int .u64 a0_1, .int .u64 a0_2] 26 ?_; intro gb5201 hg w3 hbox hb; have BK5201 := Aside0.mk (hbox); have GW5201 := kg HB hg; have GE5201 := kg HB hg; replace HB := kh HB hb; clear hb hbox hg; have ⟨hcz4_0, hcz4_1, hcz4_2, hfz4_0, hfz4_1, hfz4_2⟩ := kz3f BK5201) | ((with_reducible refine gate_dst (N := 9) rfl ?_); refine Kd.R_lit (Kd.int .u64) _ 22 ?hg (N := 9) ?hd (xs := ([a0_2, a0_1, a0_0] : List Int)) (inner := [.int .u64 a0_2, .int .u64 a0_1, .int .u64 a0_0]) (ok := fun _ => True) (okp := fun _ => True) ?hr ?hp (fun _ hk => hk) trivial (Below.refl _ _) (Nat.le_refl _) (by simp) ?_; (case hd => rfl); (case hg => rfl); (case hr => first | (go_simp; done) | (go_simp; rfl)); (case hp => exact (Reps.one (show Kd.M (Kd.int .u64) _ _ _ a0_2 [.int .u64 a0_2] from rfl) (Reps.one (show Kd.M (Kd.int .u64) _ _ _ a0_1 [.int .u64 a0_1] from rfl) (Reps.one (show Kd.M (Kd.int .u64) _ _ _ a0_0 [.int .u64 a0_0] from rfl) (Reps.none _ _))))); intro v5203 w5 ho6 hb hg_ hnew_; clear hg_ hnew_; (first | rw [← Ny5202.out] at ho6 | (simp only [Int.reduceToNat] at ho6; rw [← Ny5202.out] at ho6)); have HO5204 := Aside0.mk (Kd.R_lower ho6 (below_size (pl HB))); replace BK5201 := kb BK5201 hb; replace HB := kh HB hb; clear hb ho6; obtain ⟨Ao7, co7, eo7⟩ := Kd.R_slice HO5204.out; subst eo7) | ((with_reducible refine gate_callee (f := 16) rfl ?_); refine goesL_ (some 10) rfl rfl Try.func16 (by kernel_rfl) rfl #[.slice Ao7 y5202.length co7] rfl pa ?_; (with_reducible refine (flyballref01_Of.calls k _ _ y5202 t5205 _ ?side1 ?side2 A2.out).mono ?_); (case side1 => repeat (first | exact (Kd.R_reads' HO5204.out).2.2 | (with_reducible refine Kd.C_alloc ?_ _) | (with_reducible refine Kd.C_drewN ?_ _) | (with_reducible refine Kd.C_drew ?_))); (case side2 => exact (Kd.R_reads' HO5204.out).2.1); rintro e w8 ⟨v5206, rfl, ho0, hb⟩; refine ⟨_, rfl, ?_⟩; have n0_ := Aside0.mk (Kd.R_below (by (with_reducible repeat (first | apply Kd.R_alloc | apply Kd.R_drewN | apply Kd.R_drew)); exact HO5204.out) hb); have n1_ := Aside0.mk (Kd.R_lower ho0 (below_size (pl HB))); have n2_ := kb BK5201 hb; have n3_ := kh HB hb; clear HO5204; clear BK5201; clear HB; have HO5204 := n0_; have HO5207 := n1_; have BK5201 := n2_; have HB := n3_; clear n0_ n1_ n2_ n3_; (try clear hb); (try clear hb2); (try clear hk); (try clear hi); (try clear ho0)))
  go_ret
  exact ⟨_, pe, by (with_reducible repeat (first | apply Kd.R_alloc | apply Kd.R_drewN | apply Kd.R_drew)); exact HO5207.out, pl HB⟩
/-! ### flyballlaw01_is3: function 20 -/
def flyballlaw01_is3.f (k : Nat) (a0_0 : Int) (a0_1 : Int) (a0_2 : Int) (l1 : List Bool) : Option (Bool) := (flyballlaw01_of3.f k a0_0 a0_1 a0_2).bind fun t5352 => ((flyballref01_Cmp.f k t5352 l1).bind fun t5355 => (some (t5355 == 0)))
theorem flyballlaw01_is3.mono : ∀ a0 a1 a2 a3 k, LeO (flyballlaw01_is3.f k a0 a1 a2 a3) (flyballlaw01_is3.f (k + 1) a0 a1 a2 a3) := by
  intro a0 a1 a2 a3 k
  unfold flyballlaw01_is3.f
  repeat' first
      | (with_reducible exact flyballlaw01_of3.mono _ _ _ _)
      | (with_reducible exact flyballref01_Cmp.mono _ _ _)
      | (with_reducible exact LeO.refl _)
      | (with_reducible exact LeO.none _)
      | (with_reducible refine LeO.ite ?_ ?_)
      | (with_reducible refine LeO.bind ?_ (fun _ => ?_))
      | exact flyballlaw01_of3.mono _ _ _ _
      | exact flyballref01_Cmp.mono _ _ _
      | exact LeO.none _
      | refine LeO.ite ?_ ?_
      | refine LeO.bind ?_ (fun _ => ?_)
set_option maxHeartbeats 8000000 in
set_option maxRecDepth 100000 in
theorem flyballlaw01_is3.calls (k : Nat) (a0_0 : Int) (a0_1 : Int) (a0_2 : Int) (A1 : Option Addr) (c1 : Nat) (l1 : List Bool) (r : Bool) (w : World) (hr1 : Kd.C Kd.bool w A1 l1.length l1) (hc1 : l1.length ≤ c1) (h : flyballlaw01_is3.f k a0_0 a0_1 a0_2 l1 = some r) :
    Calls Try.prog 20 #[.agg #[.int .u64 a0_0, .int .u64 a0_1, .int .u64 a0_2], .slice A1 l1.length c1] w fun e w' => e = .returned (.bool r) ∧ Below w.heap.size w w' := by
  have hu26 := Try.underlying26
  have HR1 := Aside0.mk hr1
  have HC1 := Aside0.mk hc1
  clear hr1 hc1
  have HB := Aside0.mk (Below.refl w.heap.size w)
  have H := h
  clear h
  unfold flyballlaw01_is3.f at H
  obtain ⟨t5352, A30, H⟩ := Option.bind_eq_some_iff.mp H
  have A3 := Aside0.mk A30
  clear A30
  (try dsimp only at H)
  obtain ⟨t5355, A40, H⟩ := Option.bind_eq_some_iff.mp H
  have A4 := Aside0.mk A40
  clear A40
  (try dsimp only at H)
  obtain rfl := Option.some.inj H
  go_enter Try.func20, Try.ntmps20
  go_wp2_with (first | ((with_reducible refine gate_dst (N := 2) rfl ?_); refine kx 2 #[.int .u64 a0_0, .int .u64 a0_1, .int .u64 a0_2] 26 ?_; intro gb5351 hg w5 hbox hb; have BK5351 := Aside0.mk (hbox); have GW5351 := kg HB hg; have GE5351 := kg HB hg; replace HB := kh HB hb; clear hb hbox hg; have ⟨hcz6_0, hcz6_1, hcz6_2, hfz6_0, hfz6_1, hfz6_2⟩ := kz3f BK5351) | ((with_reducible refine gate_callee (f := 19) rfl ?_); refine goesL_ (some 6) rfl rfl Try.func19 (by kernel_rfl) rfl #[.agg #[.int .u64 a0_0, .int .u64 a0_1, .int .u64 a0_2]] rfl pa ?_; (with_reducible refine (flyballlaw01_of3.calls k a0_0 a0_1 a0_2 t5352 _ A3.out).mono ?_); rintro e w7 ⟨v5353, rfl, ho0, hb⟩; refine ⟨_, rfl, ?_⟩; have HO5354 := Aside0.mk (Kd.R_lower ho0 (below_size (pl HB))); replace BK5351 := kb BK5351 hb; replace HB := kh HB hb; (try clear hb); (try clear ho0); obtain ⟨Ao8, co8, eo8⟩ := Kd.R_slice HO5354.out; subst eo8) | ((with_reducible refine gate_callee (f := 18) rfl ?_); refine goesL_ (some 8) rfl rfl Try.func18 (by kernel_rfl) rfl #[.slice Ao8 t5352.length co8, .slice A1 l1.length c1] rfl pa ?_; (with_reducible refine (flyballref01_Cmp.calls k _ _ t5352 _ _ l1 t5355 _ ?side1 ?side2 ?side3 ?side4 A4.out).mono ?_); (case side1 => repeat (first | exact (Kd.R_reads' HO5354.out).2.2 | (with_reducible refine Kd.C_alloc ?_ _) | (with_reducible refine Kd.C_drewN ?_ _) | (with_reducible refine Kd.C_drew ?_))); (case side2 => exact (Kd.R_reads' HO5354.out).2.1); (case side3 => repeat (first | exact (Kd.C_below HR1.out HB.out) | (with_reducible refine Kd.C_alloc ?_ _) | (with_reducible refine Kd.C_drewN ?_ _) | (with_reducible refine Kd.C_drew ?_))); (case side4 => exact HC1.out); rintro e w9 ⟨rfl, hb⟩; refine ⟨_, rfl, ?_⟩; have n0_ := Aside0.mk (Kd.R_below (by (with_reducible repeat (first | apply Kd.R_alloc | apply Kd.R_drewN | apply Kd.R_drew)); exact HO5354.out) hb); have n1_ := kb BK5351 hb; have n2_ := kh HB hb; clear HO5354; clear BK5351; clear HB; have HO5354 := n0_; have BK5351 := n1_; have HB := n2_; clear n0_ n1_ n2_; (try clear hb)))
  go_ret
  exact ⟨pe, pl HB⟩
end Go.Proofs.Ytdchdapllehppaa.PAll
end
