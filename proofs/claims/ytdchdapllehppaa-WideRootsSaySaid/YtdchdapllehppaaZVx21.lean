/- Functions of the print, turned to this claim. -/
import Derived.Test.YtdchdapllehppaaZVW
import Derived.Test.YtdchdapllehppaaZVx0
import Derived.Test.YtdchdapllehppaaZVx8
import Derived.Test.YtdchdapllehppaaZVx9
import Derived.Test.YtdchdapllehppaaZVx13
import Derived.Test.YtdchdapllehppaaZVx14
import Derived.Test.YtdchdapllehppaaZVx15
import Derived.Test.YtdchdapllehppaaZVx19
section
namespace Go.Proofs.Ytdchdapllehppaa.PAll
open Go.RowKit Go.Proofs.YtdchdapllehppaaW.PrintWords Go.Proofs.YtdchdapllehppaaW.PrintLast Go.Proofs.YtdchdapllehppaaW.PrintMore
attribute [local go_sem] max2_int min2_int max_two min_two max_three min_three max_four min_four   -- for this text's walks alone
set_option linter.unusedVariables false
set_option linter.unusedSimpArgs false
/-! ### flyballref01_Sqrt: function 30 -/
def flyballref01_Sqrt.l0 : Nat → List Bool → List Bool → Int → Option (List Bool × List Bool)
  | 0, _, _, _ => none
  | k + 1, x0, x4, x5 => if x5 ≥ 0 then (if 0 ≤ x5 then (if x5 < (x4.length : Int) then ((some (x4.set (x5 : Int).toNat true : List Bool)).bind fun y6561 => ((flyballref01_Mul.f k y6561 y6561).bind fun t6562 => ((flyballref01_Cmp.f k t6562 x0).bind fun t6565 => (if t6565 > 0 then (flyballref01_Sqrt.l0 k x0 (y6561.set (x5 : Int).toNat false) (wrap64 (x5 - 1))) else (flyballref01_Sqrt.l0 k x0 y6561 (wrap64 (x5 - 1))))))) else (none)) else (none)) else ((flyballref01_Mul.f k x4 x4).bind fun t6554 => ((flyballref01_Sub.f k x0 t6554 (x0.length : Int)).bind fun bt6557 => (some (x4, bt6557.1))))
def flyballref01_Sqrt.f (k : Nat) (l0 : List Bool) : Option (List Bool × List Bool) := if 64 ≤ 281474976710656 then (flyballref01_Sqrt.l0 k l0 (List.replicate 64 false) 63) else (none)
theorem flyballref01_Sqrt.mono_l : ∀ k, (∀ y0 y1 y2, LeO (flyballref01_Sqrt.l0 k y0 y1 y2) (flyballref01_Sqrt.l0 (k + 1) y0 y1 y2))
  | 0 => fun _ _ _ r h => by simp [flyballref01_Sqrt.l0] at h
  | k + 1 => by
    have ih0 := flyballref01_Sqrt.mono_l k
    · intro y0 y1 y2
      unfold flyballref01_Sqrt.l0
      repeat' first
      | (with_reducible exact ih0 _ _ _)
      | (with_reducible exact flyballref01_Cmp.mono _ _ _)
      | (with_reducible exact flyballref01_Mul.mono _ _ _)
      | (with_reducible exact flyballref01_Sub.mono _ _ _ _)
      | (with_reducible exact LeO.refl _)
      | (with_reducible exact LeO.none _)
      | (with_reducible refine LeO.ite ?_ ?_)
      | (with_reducible refine LeO.bind ?_ (fun _ => ?_))
      | exact ih0 _ _ _
      | exact flyballref01_Cmp.mono _ _ _
      | exact flyballref01_Mul.mono _ _ _
      | exact flyballref01_Sub.mono _ _ _ _
      | exact LeO.none _
      | refine LeO.ite ?_ ?_
      | refine LeO.bind ?_ (fun _ => ?_)
theorem flyballref01_Sqrt.mono : ∀ a0 k, LeO (flyballref01_Sqrt.f k a0) (flyballref01_Sqrt.f (k + 1) a0) := by
  intro a0 k
  have ih0 := flyballref01_Sqrt.mono_l k
  unfold flyballref01_Sqrt.f
  repeat' first
      | (with_reducible exact ih0 _ _ _)
      | (with_reducible exact flyballref01_Cmp.mono _ _ _)
      | (with_reducible exact flyballref01_Mul.mono _ _ _)
      | (with_reducible exact flyballref01_Sub.mono _ _ _ _)
      | (with_reducible exact LeO.refl _)
      | (with_reducible exact LeO.none _)
      | (with_reducible refine LeO.ite ?_ ?_)
      | (with_reducible refine LeO.bind ?_ (fun _ => ?_))
      | exact ih0 _ _ _
      | exact flyballref01_Cmp.mono _ _ _
      | exact flyballref01_Mul.mono _ _ _
      | exact flyballref01_Sub.mono _ _ _ _
      | exact LeO.none _
      | refine LeO.ite ?_ ?_
      | refine LeO.bind ?_ (fun _ => ?_)
set_option maxHeartbeats 8000000 in
set_option maxRecDepth 100000 in
theorem flyballref01_Sqrt.calls (k : Nat) (A0 : Option Addr) (c0 : Nat) (l0 : List Bool) (r1 : List Bool) (r2 : List Bool) (w : World) (hr0 : Kd.C Kd.bool w A0 l0.length l0) (hc0 : l0.length ≤ c0) (h : flyballref01_Sqrt.f k l0 = some (r1, r2)) :
    Calls Try.prog 30 #[.slice A0 l0.length c0] w fun e w' => ∃ v0_ v1_ : Value, e = .returned (.tuple #[v0_, v1_]) ∧ Kd.R Kd.bool 4 w' w.heap.size (fun k_ => some k_ ≠ (v1_ : Value).ownBlock) v0_ r1 ∧ Kd.R Kd.bool 4 w' w.heap.size (fun k_ => some k_ ≠ (v0_ : Value).ownBlock) v1_ r2 ∧ Below w.heap.size w w' := by
  have HR0 := Aside0.mk hr0
  have HC0 := Aside0.mk hc0
  clear hr0 hc0
  have HB := Aside0.mk (Below.refl w.heap.size w)
  have H := h
  clear h
  unfold flyballref01_Sqrt.f at H
  by_cases c2 : 64 ≤ 281474976710656
  · rw [if_pos c2] at H
    have c2b0 := eq_true c2
    have c2b1 : decide (64 ≤ 281474976710656) = true := decide_eq_true c2
    clear c2
    obtain ⟨y6551, hy6551⟩ : ∃ y_ : List Bool, y_ = (List.replicate 64 false) := ⟨_, rfl⟩
    replace H : (flyballref01_Sqrt.l0 k l0 y6551 63) = some (r1, r2) := by first | (rw [hy6551]; with_reducible exact H) | (have H2_ := (Option.bind_some _ _).symm.trans H; rw [hy6551]; with_reducible exact H2_) | (have H2_ := (Option.bind_some _ _).symm.trans H; with_reducible exact H2_) | with_reducible exact H | (rw [hy6551]; exact H) | exact H
    have Ny6551 := Aside0.mk hy6551
    clear hy6551
    have H' := Aside0.mk H
    clear H
    go_enter Try.func30, Try.ntmps30
    go_wp2_with (first | ((with_reducible refine gate_dst (N := 8) rfl ?_); refine Kd.R_make Kd.bool _ 4 rfl (N := 8) rfl 32 _ _ rfl 64 rfl rfl Try.underlying32 (.bool false) 1 info4 rfl (by decide) (by omega) false (ok := fun _ => True) (okp := fun _ => True) rfl (fun _ hk => hk) trivial (by omega) (by omega) (Below.refl _ _) (Nat.le_refl _) ?_; intro v6552 w3 ho4 hb hg_ hnew_; clear hg_ hnew_; (first | rw [← Ny6551.out] at ho4 | (simp only [Int.reduceToNat] at ho4; rw [← Ny6551.out] at ho4)); have HO6553 := Aside0.mk (Kd.R_lower ho4 (below_size (pl HB))); replace HB := kh HB hb; clear hb ho4))
    go_loopg [5] k (fun kq v5 w' => ∃ (x4_1 : List Bool) (x5_1 : Int), v5 = .int .i64 x5_1 ∧ Aside0 (flyballref01_Sqrt.l0 kq l0 x4_1 x5_1 = some (r1, r2)) ∧ Aside0 (kq ≤ k) ∧ Aside0 (Kd.R Kd.bool 4 w' w.heap.size (fun _ => True) v6552 x4_1) ∧ Aside0 (Below w.heap.size w w'))
    case atStart => exact ⟨(y6551), (63), (by first | rfl | (simp; done) | (simp [*]; done)), H', ⟨Nat.le_refl _⟩, ⟨by (with_reducible repeat (first | apply Kd.R_alloc | apply Kd.R_drewN | apply Kd.R_drew)); exact HO6553.out⟩, ⟨pl HB⟩⟩
    case round =>
      clear H'
      try clear c2
      try clear c2b0
      try clear c2b1
      try clear p2
      try clear c3
      obtain ⟨x4_1, x5_1, rfl, HA, HK1, HO_4, HB⟩ := hrel
      cases gk with
      | zero => exact absurd HA.out (by simp [flyballref01_Sqrt.l0])
      | succ k1 =>
        have H := HA.out
        clear HA
        simp only [flyballref01_Sqrt.l0] at H
        by_cases c5 : x5_1 ≥ 0
        · rw [if_pos c5] at H
          have c5b0 : decide (0 ≤ x5_1) = true := decide_eq_true c5
          clear c5
          by_cases c6 : 0 ≤ x5_1
          · rw [if_pos c6] at H
            have c6b0 : decide (0 ≤ x5_1) = true := decide_eq_true c6
            clear c6
            by_cases c7 : x5_1 < (x4_1.length : Int)
            · rw [if_pos c7] at H
              have c7b0 : decide (x5_1 < (x4_1.length : Int)) = true := decide_eq_true c7
              clear c7
              obtain ⟨y6561, hy6561⟩ : ∃ y_ : List Bool, y_ = (x4_1.set (x5_1 : Int).toNat true) := ⟨_, rfl⟩
              replace H : ((flyballref01_Mul.f k1 y6561 y6561).bind fun t6562 => ((flyballref01_Cmp.f k1 t6562 l0).bind fun t6565 => (if t6565 > 0 then (flyballref01_Sqrt.l0 k1 l0 (y6561.set (x5_1 : Int).toNat false) (wrap64 (x5_1 - 1))) else (flyballref01_Sqrt.l0 k1 l0 y6561 (wrap64 (x5_1 - 1)))))) = some (r1, r2) := by first | (rw [hy6561]; with_reducible exact H) | (have H2_ := (Option.bind_some _ _).symm.trans H; rw [hy6561]; with_reducible exact H2_) | (have H2_ := (Option.bind_some _ _).symm.trans H; with_reducible exact H2_) | with_reducible exact H | (rw [hy6561]; exact H) | exact H
              have Ny6561 := Aside0.mk hy6561
              clear hy6561
              obtain ⟨t6562, A90, H⟩ := Option.bind_eq_some_iff.mp H
              have A9 := Aside0.mk A90
              clear A90
              (try dsimp only at H)
              obtain ⟨t6565, A100, H⟩ := Option.bind_eq_some_iff.mp H
              have A10 := Aside0.mk A100
              clear A100
              (try dsimp only at H)
              by_cases c11 : t6565 > 0
              · rw [if_pos c11] at H
                have c11b0 : decide (0 < t6565) = true := decide_eq_true c11
                clear c11
                obtain ⟨y6566, hy6566⟩ : ∃ y_ : List Bool, y_ = (y6561.set (x5_1 : Int).toNat false) := ⟨_, rfl⟩
                replace H : (flyballref01_Sqrt.l0 k1 l0 y6566 (wrap64 (x5_1 - 1))) = some (r1, r2) := by first | (rw [hy6566]; with_reducible exact H) | (have H2_ := (Option.bind_some _ _).symm.trans H; rw [hy6566]; with_reducible exact H2_) | (have H2_ := (Option.bind_some _ _).symm.trans H; with_reducible exact H2_) | with_reducible exact H | (rw [hy6566]; exact H) | exact H
                have Ny6566 := Aside0.mk hy6566
                clear hy6566
                have H' := Aside0.mk H
                clear H
                have p8 : 0 ≤ (x5_1 : Int) := of_decide_eq_true (by first | (with_reducible assumption) | assumption)
                have q8 : (x5_1 : Int) < ((x4_1.length : Int) : Int) := of_decide_eq_true (by first | (with_reducible assumption) | assumption)
                obtain ⟨go8, co8, eo8, gb8, gl8, cl8, HG8⟩ := Kd.R_form HO_4.out (by omega)
                (first | cases eo8 | (injection eo8 with ea_ en_ ec_; (first | subst ea_ | (injection ea_ with ea_; subst ea_)); subst ec_; clear en_))
                have GB8 := Aside0.mk gb8
                have GG8 := Aside0.mk HG8
                clear gb8 gl8 HG8
                obtain ⟨hx8_0, hf8_0⟩ := Kd.R_celln false HO_4.out (x5_1 : Int) p8 q8
                replace p8 := eq_true p8
                replace q8 := eq_true q8
                have HP13 := Kd.R_putg HO_4.out (x5_1 : Int) true
                go_wp2_with (first | ((with_reducible refine gate_store (t := 4) (p := 15) rfl ?_); refine store_event (t := 4) (p := 15) (v := ?vo_w14) (w1 := (wr.setCell ⟨go8, (x5_1 : Int).toNat, none⟩ (.bool true))) ?hg ?ho ?hn ?hr ?_; (case ho => rfl); (case hg => rfl); (case hn => rfl); (case hr => first | (go_simp; done) | (go_simp; rfl)); intro w14 hw; have hg : wr.grownBy w14 (some go8) := (by rw [hw]; exact HP13.2); have hp_ : Kd.R Kd.bool 4 w14 w.heap.size (fun _ => True) (.slice (some ⟨go8, 0, none⟩) x4_1.length co8) y6561 := (by rw [hw, Ny6561.out]; exact HP13.1); clear HP13; have n0_ := Aside0.mk (hp_); have n1_ := Aside0.mk ((by rw [hw]; exact below_set (HB.out) GB8.out : Below w.heap.size w w14)); clear HO_4; clear HB; have HO_4 := n0_; have HB := n1_; clear n0_ n1_; clear hg hw hp_) | ((with_reducible refine gate_callee (f := 28) rfl ?_); refine goesL_ (some 18) rfl rfl Try.func28 (by kernel_rfl) rfl #[.slice (some ⟨go8, 0, none⟩) y6561.length co8, .slice (some ⟨go8, 0, none⟩) y6561.length co8] rfl (by (try simp only [List.map_toArray, List.map_cons, List.map_nil]); first | done | (rw [show y6561.length = x4_1.length from (Kd.R_reads' HO_4.out).1.symm] <;> rfl) | rfl | (simp only [List.length_drop, List.length_take]; rfl)) ?_; (with_reducible refine (flyballref01_Mul.calls k1 _ _ y6561 _ _ y6561 t6562 _ ?side1 ?side2 ?side3 ?side4 A9.out).mono ?_); (case side1 => repeat (first | exact (Kd.R_reads' HO_4.out).2.2 | (with_reducible refine Kd.C_alloc ?_ _) | (with_reducible refine Kd.C_drewN ?_ _) | (with_reducible refine Kd.C_drew ?_))); (case side2 => rw [show y6561.length = x4_1.length from (Kd.R_reads' HO_4.out).1.symm]; exact (Kd.R_reads' HO_4.out).2.1); (case side3 => repeat (first | exact (Kd.R_reads' HO_4.out).2.2 | (with_reducible refine Kd.C_alloc ?_ _) | (with_reducible refine Kd.C_drewN ?_ _) | (with_reducible refine Kd.C_drew ?_))); (case side4 => rw [show y6561.length = x4_1.length from (Kd.R_reads' HO_4.out).1.symm]; exact (Kd.R_reads' HO_4.out).2.1); rintro e w15 ⟨v6563, rfl, ho0, hb⟩; refine ⟨_, rfl, ?_⟩; have n0_ := Aside0.mk (Kd.R_elder' (by (with_reducible repeat (first | apply Kd.R_alloc | apply Kd.R_drewN | apply Kd.R_drew)); exact HO_4.out) (Kd.R_base ho0) hb); have n1_ := Aside0.mk (Kd.R_lower (Kd.R_new' ho0 (Kd.R_lt (by (with_reducible repeat (first | apply Kd.R_alloc | apply Kd.R_drewN | apply Kd.R_drew)); exact HO_4.out))) (below_size (pl HB))); have n2_ := kh HB hb; clear HO_4; clear HB; have HO_4 := n0_; have HO6564 := n1_; have HB := n2_; clear n0_ n1_ n2_; (try clear hb); (try clear hb2); (try clear hk); (try clear hi); (try clear ho0); obtain ⟨Ao16, co16, eo16⟩ := Kd.R_slice HO6564.out; subst eo16) | ((with_reducible refine gate_callee (f := 18) rfl ?_); refine goesL_ (some 20) rfl rfl Try.func18 (by kernel_rfl) rfl #[.slice Ao16 t6562.length co16, .slice A0 l0.length c0] rfl pa ?_; (with_reducible refine (flyballref01_Cmp.calls k1 _ _ t6562 _ _ l0 t6565 _ ?side1 ?side2 ?side3 ?side4 A10.out).mono ?_); (case side1 => repeat (first | exact (Kd.R_reads' HO6564.out).2.2 | (with_reducible refine Kd.C_alloc ?_ _) | (with_reducible refine Kd.C_drewN ?_ _) | (with_reducible refine Kd.C_drew ?_))); (case side2 => exact (Kd.R_reads' HO6564.out).2.1); (case side3 => repeat (first | exact (Kd.C_below HR0.out HB.out) | (with_reducible refine Kd.C_alloc ?_ _) | (with_reducible refine Kd.C_drewN ?_ _) | (with_reducible refine Kd.C_drew ?_))); (case side4 => exact HC0.out); rintro e w17 ⟨rfl, hb⟩; refine ⟨_, rfl, ?_⟩; have n0_ := Aside0.mk (Kd.R_below (by (with_reducible repeat (first | apply Kd.R_alloc | apply Kd.R_drewN | apply Kd.R_drew)); exact HO_4.out) hb); have n1_ := Aside0.mk (Kd.R_below (by (with_reducible repeat (first | apply Kd.R_alloc | apply Kd.R_drewN | apply Kd.R_drew)); exact HO6564.out) hb); have n2_ := kh HB hb; clear HO_4; clear HO6564; clear HB; have HO_4 := n0_; have HO6564 := n1_; have HB := n2_; clear n0_ n1_ n2_; (try clear hb); (try clear hb2); (try clear hk); (try clear hi); have p12 : 0 ≤ (x5_1 : Int) := of_decide_eq_true (by first | (with_reducible assumption) | assumption); have q12 : (x5_1 : Int) < ((x4_1.length : Int) : Int) := of_decide_eq_true (by first | (with_reducible assumption) | assumption); obtain ⟨hx12_0, hf12_0⟩ := Kd.R_celln false HO_4.out (x5_1 : Int) p12 q12; replace p12 := eq_true p12; replace q12 := eq_true q12; have n_ := Aside0.mk (Kd.R_mono (ok' := (fun k_ => some k_ ≠ (.slice Ao16 t6562.length co16 : Value).ownBlock)) HO_4.out (fun k_ hk => hk.2)); clear HO_4; have HO_4 := n_; clear n_; obtain ⟨hy18_, hz18_⟩ := Kd.R_celln false HO_4.out (x5_1 : Int) (of_decide_eq_true (by first | (with_reducible assumption) | assumption)) (of_decide_eq_true (by first | (with_reducible assumption) | assumption)); have HP18 := Kd.R_putg HO_4.out (x5_1 : Int) false) | ((with_reducible refine gate_store (t := 4) (p := 24) rfl ?_); refine store_event (t := 4) (p := 24) (v := ?vo_w19) (w1 := (w17.setCell ⟨go8, (x5_1 : Int).toNat, none⟩ (.bool false))) ?hg ?ho ?hn ?hr ?_; (case ho => rfl); (case hg => rfl); (case hn => rfl); (case hr => first | (go_simp; done) | (go_simp; rfl)); intro w19 hw; have hg : w17.grownBy w19 (some go8) := (by rw [hw]; exact HP18.2); have hp_ : Kd.R Kd.bool 4 w19 w.heap.size (fun k_ => some k_ ≠ (.slice Ao16 t6562.length co16 : Value).ownBlock) (.slice (some ⟨go8, 0, none⟩) x4_1.length co8) y6566 := (by rw [hw, Ny6566.out]; exact HP18.1); clear HP18; have n0_ := Aside0.mk (hp_); have n1_ := Aside0.mk (Kd.R_after (v := (.slice (some ⟨go8, 0, none⟩) x4_1.length co8)) (v1 := (.slice (some ⟨go8, 0, none⟩) x4_1.length co8)) (ok := (fun _ => True)) (by (with_reducible repeat (first | apply Kd.R_alloc | apply Kd.R_drewN | apply Kd.R_drew)); exact HO6564.out) hg (.inl rfl)); have n2_ := Aside0.mk ((by rw [hw]; exact below_set (HB.out) GB8.out : Below w.heap.size w w19)); clear HO_4; clear HO6564; clear HB; have HO_4 := n0_; have HO6564 := n1_; have HB := n2_; clear n0_ n1_ n2_; clear hg hw hp_))
                go_roundg k1
                case measure => have := HK1.out; omega
                case rel => exact ⟨(y6566), (wrap64 (x5_1 - 1)), (by first | rfl | (simp; done) | (simp [*]; done)), H', ⟨by have := HK1.out; omega⟩, ⟨by (with_reducible repeat (first | apply Kd.R_alloc | apply Kd.R_drewN | apply Kd.R_drew)); exact Kd.R_mono HO_4.out (fun _ hk => trivial)⟩, ⟨pl HB⟩⟩
              · rw [if_neg c11] at H
                have c11b0 : decide (0 < t6565) = false := decide_eq_false c11
                clear c11
                have H' := Aside0.mk H
                clear H
                have p8 : 0 ≤ (x5_1 : Int) := of_decide_eq_true (by first | (with_reducible assumption) | assumption)
                have q8 : (x5_1 : Int) < ((x4_1.length : Int) : Int) := of_decide_eq_true (by first | (with_reducible assumption) | assumption)
                obtain ⟨go8, co8, eo8, gb8, gl8, cl8, HG8⟩ := Kd.R_form HO_4.out (by omega)
                (first | cases eo8 | (injection eo8 with ea_ en_ ec_; (first | subst ea_ | (injection ea_ with ea_; subst ea_)); subst ec_; clear en_))
                have GB8 := Aside0.mk gb8
                have GG8 := Aside0.mk HG8
                clear gb8 gl8 HG8
                obtain ⟨hx8_0, hf8_0⟩ := Kd.R_celln false HO_4.out (x5_1 : Int) p8 q8
                replace p8 := eq_true p8
                replace q8 := eq_true q8
                have HP20 := Kd.R_putg HO_4.out (x5_1 : Int) true
                go_wp2_with (first | ((with_reducible refine gate_store (t := 4) (p := 15) rfl ?_); refine store_event (t := 4) (p := 15) (v := ?vo_w21) (w1 := (wr.setCell ⟨go8, (x5_1 : Int).toNat, none⟩ (.bool true))) ?hg ?ho ?hn ?hr ?_; (case ho => rfl); (case hg => rfl); (case hn => rfl); (case hr => first | (go_simp; done) | (go_simp; rfl)); intro w21 hw; have hg : wr.grownBy w21 (some go8) := (by rw [hw]; exact HP20.2); have hp_ : Kd.R Kd.bool 4 w21 w.heap.size (fun _ => True) (.slice (some ⟨go8, 0, none⟩) x4_1.length co8) y6561 := (by rw [hw, Ny6561.out]; exact HP20.1); clear HP20; have n0_ := Aside0.mk (hp_); have n1_ := Aside0.mk ((by rw [hw]; exact below_set (HB.out) GB8.out : Below w.heap.size w w21)); clear HO_4; clear HB; have HO_4 := n0_; have HB := n1_; clear n0_ n1_; clear hg hw hp_) | ((with_reducible refine gate_callee (f := 28) rfl ?_); refine goesL_ (some 18) rfl rfl Try.func28 (by kernel_rfl) rfl #[.slice (some ⟨go8, 0, none⟩) y6561.length co8, .slice (some ⟨go8, 0, none⟩) y6561.length co8] rfl (by (try simp only [List.map_toArray, List.map_cons, List.map_nil]); first | done | (rw [show y6561.length = x4_1.length from (Kd.R_reads' HO_4.out).1.symm] <;> rfl) | rfl | (simp only [List.length_drop, List.length_take]; rfl)) ?_; (with_reducible refine (flyballref01_Mul.calls k1 _ _ y6561 _ _ y6561 t6562 _ ?side1 ?side2 ?side3 ?side4 A9.out).mono ?_); (case side1 => repeat (first | exact (Kd.R_reads' HO_4.out).2.2 | (with_reducible refine Kd.C_alloc ?_ _) | (with_reducible refine Kd.C_drewN ?_ _) | (with_reducible refine Kd.C_drew ?_))); (case side2 => rw [show y6561.length = x4_1.length from (Kd.R_reads' HO_4.out).1.symm]; exact (Kd.R_reads' HO_4.out).2.1); (case side3 => repeat (first | exact (Kd.R_reads' HO_4.out).2.2 | (with_reducible refine Kd.C_alloc ?_ _) | (with_reducible refine Kd.C_drewN ?_ _) | (with_reducible refine Kd.C_drew ?_))); (case side4 => rw [show y6561.length = x4_1.length from (Kd.R_reads' HO_4.out).1.symm]; exact (Kd.R_reads' HO_4.out).2.1); rintro e w22 ⟨v6563, rfl, ho0, hb⟩; refine ⟨_, rfl, ?_⟩; have n0_ := Aside0.mk (Kd.R_elder' (by (with_reducible repeat (first | apply Kd.R_alloc | apply Kd.R_drewN | apply Kd.R_drew)); exact HO_4.out) (Kd.R_base ho0) hb); have n1_ := Aside0.mk (Kd.R_lower (Kd.R_new' ho0 (Kd.R_lt (by (with_reducible repeat (first | apply Kd.R_alloc | apply Kd.R_drewN | apply Kd.R_drew)); exact HO_4.out))) (below_size (pl HB))); have n2_ := kh HB hb; clear HO_4; clear HB; have HO_4 := n0_; have HO6564 := n1_; have HB := n2_; clear n0_ n1_ n2_; (try clear hb); (try clear hb2); (try clear hk); (try clear hi); (try clear ho0); obtain ⟨Ao23, co23, eo23⟩ := Kd.R_slice HO6564.out; subst eo23) | ((with_reducible refine gate_callee (f := 18) rfl ?_); refine goesL_ (some 20) rfl rfl Try.func18 (by kernel_rfl) rfl #[.slice Ao23 t6562.length co23, .slice A0 l0.length c0] rfl pa ?_; (with_reducible refine (flyballref01_Cmp.calls k1 _ _ t6562 _ _ l0 t6565 _ ?side1 ?side2 ?side3 ?side4 A10.out).mono ?_); (case side1 => repeat (first | exact (Kd.R_reads' HO6564.out).2.2 | (with_reducible refine Kd.C_alloc ?_ _) | (with_reducible refine Kd.C_drewN ?_ _) | (with_reducible refine Kd.C_drew ?_))); (case side2 => exact (Kd.R_reads' HO6564.out).2.1); (case side3 => repeat (first | exact (Kd.C_below HR0.out HB.out) | (with_reducible refine Kd.C_alloc ?_ _) | (with_reducible refine Kd.C_drewN ?_ _) | (with_reducible refine Kd.C_drew ?_))); (case side4 => exact HC0.out); rintro e w24 ⟨rfl, hb⟩; refine ⟨_, rfl, ?_⟩; have n0_ := Aside0.mk (Kd.R_below (by (with_reducible repeat (first | apply Kd.R_alloc | apply Kd.R_drewN | apply Kd.R_drew)); exact HO_4.out) hb); have n1_ := Aside0.mk (Kd.R_below (by (with_reducible repeat (first | apply Kd.R_alloc | apply Kd.R_drewN | apply Kd.R_drew)); exact HO6564.out) hb); have n2_ := kh HB hb; clear HO_4; clear HO6564; clear HB; have HO_4 := n0_; have HO6564 := n1_; have HB := n2_; clear n0_ n1_ n2_; (try clear hb); (try clear hb2); (try clear hk); (try clear hi)))
                go_roundg k1
                case measure => have := HK1.out; omega
                case rel => exact ⟨(y6561), (wrap64 (x5_1 - 1)), (by first | rfl | (simp; done) | (simp [*]; done)), H', ⟨by have := HK1.out; omega⟩, ⟨by (with_reducible repeat (first | apply Kd.R_alloc | apply Kd.R_drewN | apply Kd.R_drew)); exact Kd.R_mono HO_4.out (fun _ hk => trivial)⟩, ⟨pl HB⟩⟩
            · rw [if_neg c7] at H
              exact absurd H (by simp)
          · rw [if_neg c6] at H
            exact absurd H (by simp)
        · rw [if_neg c5] at H
          have c5b0 : decide (0 ≤ x5_1) = false := decide_eq_false c5
          clear c5
          obtain ⟨t6554, A250, H⟩ := Option.bind_eq_some_iff.mp H
          have A25 := Aside0.mk A250
          clear A250
          (try dsimp only at H)
          obtain ⟨⟨t6557, t6558⟩, A260, H⟩ := Option.bind_eq_some_iff.mp H
          have A26 := Aside0.mk A260
          clear A260
          (try dsimp only at H)
          simp only [Option.some.injEq, Prod.mk.injEq] at H
          obtain ⟨rfl, rfl⟩ := H
          obtain ⟨Ao27, co27, eo27⟩ := Kd.R_slice HO_4.out
          subst eo27
          go_wp2_with (first | ((with_reducible refine gate_callee (f := 28) rfl ?_); refine goesL_ (some 29) rfl rfl Try.func28 (by kernel_rfl) rfl #[.slice Ao27 x4_1.length co27, .slice Ao27 x4_1.length co27] rfl pa ?_; (with_reducible refine (flyballref01_Mul.calls k1 _ _ x4_1 _ _ x4_1 t6554 _ ?side1 ?side2 ?side3 ?side4 A25.out).mono ?_); (case side1 => repeat (first | exact (Kd.R_reads' HO_4.out).2.2 | (with_reducible refine Kd.C_alloc ?_ _) | (with_reducible refine Kd.C_drewN ?_ _) | (with_reducible refine Kd.C_drew ?_))); (case side2 => exact (Kd.R_reads' HO_4.out).2.1); (case side3 => repeat (first | exact (Kd.R_reads' HO_4.out).2.2 | (with_reducible refine Kd.C_alloc ?_ _) | (with_reducible refine Kd.C_drewN ?_ _) | (with_reducible refine Kd.C_drew ?_))); (case side4 => exact (Kd.R_reads' HO_4.out).2.1); rintro e w28 ⟨v6555, rfl, ho0, hb⟩; refine ⟨_, rfl, ?_⟩; have n0_ := Aside0.mk (Kd.R_elder' (by (with_reducible repeat (first | apply Kd.R_alloc | apply Kd.R_drewN | apply Kd.R_drew)); exact HO_4.out) (Kd.R_base ho0) hb); have n1_ := Aside0.mk (Kd.R_lower (Kd.R_new' ho0 (Kd.R_lt (by (with_reducible repeat (first | apply Kd.R_alloc | apply Kd.R_drewN | apply Kd.R_drew)); exact HO_4.out))) (below_size (pl HB))); have n2_ := kh HB hb; clear HO_4; clear HB; have HO_4 := n0_; have HO6556 := n1_; have HB := n2_; clear n0_ n1_ n2_; (try clear hb); (try clear hb2); (try clear hk); (try clear hi); (try clear ho0); obtain ⟨Ao29, co29, eo29⟩ := Kd.R_slice HO6556.out; subst eo29) | ((with_reducible refine gate_callee (f := 32) rfl ?_); refine goesL_ (some 32) rfl rfl Try.func32 (by kernel_rfl) rfl #[.slice A0 l0.length c0, .slice Ao29 t6554.length co29, .int .i64 (l0.length : Int)] rfl pa ?_; (with_reducible refine (flyballref01_Sub.calls k1 _ _ l0 _ _ t6554 (l0.length : Int) t6557 t6558 _ ?side1 ?side2 ?side3 ?side4 A26.out).mono ?_); (case side1 => repeat (first | exact (Kd.C_below HR0.out HB.out) | (with_reducible refine Kd.C_alloc ?_ _) | (with_reducible refine Kd.C_drewN ?_ _) | (with_reducible refine Kd.C_drew ?_))); (case side2 => exact HC0.out); (case side3 => repeat (first | exact (Kd.R_reads' HO6556.out).2.2 | (with_reducible refine Kd.C_alloc ?_ _) | (with_reducible refine Kd.C_drewN ?_ _) | (with_reducible refine Kd.C_drew ?_))); (case side4 => exact (Kd.R_reads' HO6556.out).2.1); rintro e w30 ⟨v6559, rfl, ho0, hb⟩; refine ⟨_, rfl, ?_⟩; have n0_ := Aside0.mk (Kd.R_elder' (by (with_reducible repeat (first | apply Kd.R_alloc | apply Kd.R_drewN | apply Kd.R_drew)); exact HO_4.out) (Kd.R_base ho0) hb); have n1_ := Aside0.mk (Kd.R_elder' (by (with_reducible repeat (first | apply Kd.R_alloc | apply Kd.R_drewN | apply Kd.R_drew)); exact HO6556.out) (Kd.R_base ho0) hb); have n2_ := Aside0.mk (Kd.R_lower (Kd.R_new' (Kd.R_new' ho0 (Kd.R_lt (by (with_reducible repeat (first | apply Kd.R_alloc | apply Kd.R_drewN | apply Kd.R_drew)); exact HO_4.out))) (Kd.R_lt (by (with_reducible repeat (first | apply Kd.R_alloc | apply Kd.R_drewN | apply Kd.R_drew)); exact HO6556.out))) (below_size (pl HB))); have n3_ := kh HB hb; clear HO_4; clear HO6556; clear HB; have HO_4 := n0_; have HO6556 := n1_; have HO6560 := n2_; have HB := n3_; clear n0_ n1_ n2_ n3_; (try clear hb); (try clear hb2); (try clear hk); (try clear hi); (try clear ho0)))
          go_ret2
          exact ⟨_, _, pe, by (with_reducible repeat (first | apply Kd.R_alloc | apply Kd.R_drewN | apply Kd.R_drew)); exact Kd.R_mono HO_4.out (fun _ hk => by first | exact hk.2 | exact own_len hk.2), by (with_reducible repeat (first | apply Kd.R_alloc | apply Kd.R_drewN | apply Kd.R_drew)); exact Kd.R_mono HO6560.out (fun _ hk => by first | exact hk.1.2 | exact own_len hk.1.2), pl HB⟩
  · rw [if_neg c2] at H
    exact absurd H (by simp)
/-! ### flyballlaw01_WideRootsSay: function 6 -/
def flyballlaw01_WideRootsSay.f (k : Nat) (a0_0 : Int) (a0_1 : Int) : Option (Bool) := (flyballlaw01_works.f k).bind fun t6702 => (if t6702 = true then ((wide_U128_Sqrt.f k a0_0 a0_1).bind fun bt6703 => ((flyballlaw01_of.f k a0_0 a0_1).bind fun t6707 => ((flyballref01_Sqrt.f k t6707).bind fun bt6710 => ((flyballlaw01_is.f k bt6703.2.1 bt6703.2.2 bt6710.2).bind fun t6716 => (if t6716 = true then ((flyballref01_Of.f k (([bt6703.1] : List Int))).bind fun t6720 => ((flyballref01_Cmp.f k t6720 bt6710.1).bind fun t6723 => (some (t6723 == 0)))) else (none)))))) else (some false))
theorem flyballlaw01_WideRootsSay.mono : ∀ a0 a1 k, LeO (flyballlaw01_WideRootsSay.f k a0 a1) (flyballlaw01_WideRootsSay.f (k + 1) a0 a1) := by
  intro a0 a1 k
  unfold flyballlaw01_WideRootsSay.f
  repeat' first
      | (with_reducible exact flyballlaw01_is.mono _ _ _ _)
      | (with_reducible exact flyballlaw01_of.mono _ _ _)
      | (with_reducible exact flyballlaw01_works.mono _)
      | (with_reducible exact flyballref01_Cmp.mono _ _ _)
      | (with_reducible exact flyballref01_Of.mono _ _)
      | (with_reducible exact flyballref01_Sqrt.mono _ _)
      | (with_reducible exact wide_U128_Sqrt.mono _ _ _)
      | (with_reducible exact LeO.refl _)
      | (with_reducible exact LeO.none _)
      | (with_reducible refine LeO.ite ?_ ?_)
      | (with_reducible refine LeO.bind ?_ (fun _ => ?_))
      | exact flyballlaw01_is.mono _ _ _ _
      | exact flyballlaw01_of.mono _ _ _
      | exact flyballlaw01_works.mono _
      | exact flyballref01_Cmp.mono _ _ _
      | exact flyballref01_Of.mono _ _
      | exact flyballref01_Sqrt.mono _ _
      | exact wide_U128_Sqrt.mono _ _ _
      | exact LeO.none _
      | refine LeO.ite ?_ ?_
      | refine LeO.bind ?_ (fun _ => ?_)
set_option maxHeartbeats 8000000 in
set_option maxRecDepth 100000 in
theorem flyballlaw01_WideRootsSay.calls (k : Nat) (a0_0 : Int) (a0_1 : Int) (r : Bool) (w : World) (h : flyballlaw01_WideRootsSay.f k a0_0 a0_1 = some r) :
    Calls Try.prog 6 #[.agg #[.int .u64 a0_0, .int .u64 a0_1]] w fun e w' => e = .returned (.bool r) ∧ Below w.heap.size w w' := by
  have hu24 := Try.underlying24
  have HB := Aside0.mk (Below.refl w.heap.size w)
  have H := h
  clear h
  unfold flyballlaw01_WideRootsSay.f at H
  obtain ⟨t6702, A20, H⟩ := Option.bind_eq_some_iff.mp H
  have A2 := Aside0.mk A20
  clear A20
  (try dsimp only at H)
  by_cases c3 : t6702 = true
  · subst c3
    rw [if_pos rfl] at H
    obtain ⟨⟨t6703, t6704, t6705⟩, A40, H⟩ := Option.bind_eq_some_iff.mp H
    have A4 := Aside0.mk A40
    clear A40
    (try dsimp only at H)
    obtain ⟨t6707, A50, H⟩ := Option.bind_eq_some_iff.mp H
    have A5 := Aside0.mk A50
    clear A50
    (try dsimp only at H)
    obtain ⟨⟨t6710, t6711⟩, A60, H⟩ := Option.bind_eq_some_iff.mp H
    have A6 := Aside0.mk A60
    clear A60
    (try dsimp only at H)
    obtain ⟨t6716, A70, H⟩ := Option.bind_eq_some_iff.mp H
    have A7 := Aside0.mk A70
    clear A70
    (try dsimp only at H)
    by_cases c8 : t6716 = true
    · subst c8
      rw [if_pos rfl] at H
      obtain ⟨y6717, hy6717⟩ : ∃ y_ : List Int, y_ = (([t6703] : List Int)) := ⟨_, rfl⟩
      replace H : ((flyballref01_Of.f k y6717).bind fun t6720 => ((flyballref01_Cmp.f k t6720 t6710).bind fun t6723 => (some (t6723 == 0)))) = some r := by first | (rw [hy6717]; with_reducible exact H) | (have H2_ := (Option.bind_some _ _).symm.trans H; rw [hy6717]; with_reducible exact H2_) | (have H2_ := (Option.bind_some _ _).symm.trans H; with_reducible exact H2_) | with_reducible exact H | (rw [hy6717]; exact H) | exact H
      have Ny6717 := Aside0.mk hy6717
      clear hy6717
      obtain ⟨t6720, A90, H⟩ := Option.bind_eq_some_iff.mp H
      have A9 := Aside0.mk A90
      clear A90
      (try dsimp only at H)
      obtain ⟨t6723, A100, H⟩ := Option.bind_eq_some_iff.mp H
      have A10 := Aside0.mk A100
      clear A100
      (try dsimp only at H)
      obtain rfl := Option.some.inj H
      go_enter Try.func6, Try.ntmps6
      go_wp2_with (first | ((with_reducible refine gate_dst (N := 1) rfl ?_); (try (refine gate_guard (by rfl) ?_; dsimp only)); refine kx 1 #[.int .u64 a0_0, .int .u64 a0_1] 24 ?_; intro gb6701 hg w11 hbox hb; have BK6701 := Aside0.mk (hbox); have GW6701 := kg HB hg; have GE6701 := kg HB hg; replace HB := kh HB hb; clear hb hbox hg) | ((with_reducible refine gate_callee (f := 11) rfl ?_); refine kc (some 9) Try.func11 #[] (flyballlaw01_works.calls k  true _ A2.out) ?_; intro w12 hb; replace BK6701 := kb BK6701 hb; replace HB := kh HB hb; (try clear hb); (try clear hb2); (try clear hk); (try clear hi); have hcz13_0 : w12.cell? ⟨gb6701, 0, none⟩ = some (.int .u64 a0_0) := bc BK6701 0; have hcz13_1 : w12.cell? ⟨gb6701, 1, none⟩ = some (.int .u64 a0_1) := bc BK6701 1; have hfz13_0 := blk_frozen BK6701.out 0; have hfz13_1 := blk_frozen BK6701.out 1) | ((with_reducible refine gate_callee (f := 29) rfl ?_); refine kc (some 14) Try.func29 #[.agg #[.int .u64 a0_0, .int .u64 a0_1]] (wide_U128_Sqrt.calls k a0_0 a0_1 t6703 t6704 t6705 _ A4.out) ?_; intro w14 hb; replace BK6701 := kb BK6701 hb; replace HB := kh HB hb; (try clear hb); (try clear hb2); (try clear hk); (try clear hi)) | ((with_reducible refine gate_dst (N := 5) rfl ?_); (try (refine gate_guard (by rfl) ?_; dsimp only)); refine kx 5 #[.int .u64 0, .int .u64 0] 24 ?_; intro gb6706 hg w15 hbox hb; have BK6706 := Aside0.mk (hbox); have GW6706 := kg HB hg; have GE6706 := kg HB hg; have NB6701_6706 := kn BK6701 hg; have NB6706_6701 := km BK6701 hg; replace BK6701 := kb BK6701 hb; replace HB := kh HB hb; clear hb hbox hg; have hnb16 := NB6706_6701.out; have hnc16 := NB6701_6706.out; have hcz17_0 : w15.cell? ⟨gb6706, 0, none⟩ = some (.int .u64 0) := bc BK6706 0; have hcz17_1 : w15.cell? ⟨gb6706, 1, none⟩ = some (.int .u64 0) := bc BK6706 1; have hfz17_0 := blk_frozen BK6706.out 0; have hfz17_1 := blk_frozen BK6706.out 1; have hcz18_0 : w15.cell? ⟨gb6701, 0, none⟩ = some (.int .u64 a0_0) := bc BK6701 0; have hcz18_1 : w15.cell? ⟨gb6701, 1, none⟩ = some (.int .u64 a0_1) := bc BK6701 1; have hfz18_0 := blk_frozen BK6701.out 0; have hfz18_1 := blk_frozen BK6701.out 1) | ((with_reducible refine gate_callee (f := 15) rfl ?_); refine goesL_ (some 19) rfl rfl Try.func15 (by kernel_rfl) rfl #[.agg #[.int .u64 a0_0, .int .u64 a0_1]] rfl pa ?_; (with_reducible refine (flyballlaw01_of.calls k a0_0 a0_1 t6707 _ A5.out).mono ?_); rintro e w19 ⟨v6708, rfl, ho0, hb⟩; refine ⟨_, rfl, ?_⟩; have HO6709 := Aside0.mk (Kd.R_lower ho0 (below_size (pl HB))); replace BK6701 := kb BK6701 hb; replace BK6706 := kb (o' := .cells #[.int .u64 t6704, .int .u64 t6705] 24 (0, 0)) BK6706 hb; replace HB := kh HB hb; (try clear hb); (try clear hb2); (try clear hk); (try clear hi); (try clear ho0); obtain ⟨Ao20, co20, eo20⟩ := Kd.R_slice HO6709.out; subst eo20) | ((with_reducible refine gate_callee (f := 30) rfl ?_); refine goesL_ (some 20) rfl rfl Try.func30 (by kernel_rfl) rfl #[.slice Ao20 t6707.length co20] rfl pa ?_; (with_reducible refine (flyballref01_Sqrt.calls k _ _ t6707 t6710 t6711 _ ?side1 ?side2 A6.out).mono ?_); (case side1 => repeat (first | exact (Kd.R_reads' HO6709.out).2.2 | (with_reducible refine Kd.C_alloc ?_ _) | (with_reducible refine Kd.C_drewN ?_ _) | (with_reducible refine Kd.C_drew ?_))); (case side2 => exact (Kd.R_reads' HO6709.out).2.1); rintro e w21 ⟨v6712, v6714, rfl, ho0, ho1, hb⟩; refine ⟨_, rfl, ?_⟩; have n0_ := Aside0.mk (Kd.R_mono (Kd.R_told (Kd.R_told (Kd.R_old (by (with_reducible repeat (first | apply Kd.R_alloc | apply Kd.R_drewN | apply Kd.R_drew)); exact HO6709.out) hb) (Kd.R_base ho0)) (Kd.R_base ho1)) (fun _ h_ => h_.1)); have n1_ := Aside0.mk (Kd.R_lower (Kd.R_new' ho0 (Kd.R_lt (by (with_reducible repeat (first | apply Kd.R_alloc | apply Kd.R_drewN | apply Kd.R_drew)); exact HO6709.out))) (below_size (pl HB))); have n2_ := Aside0.mk (Kd.R_lower (Kd.R_new' ho1 (Kd.R_lt (by (with_reducible repeat (first | apply Kd.R_alloc | apply Kd.R_drewN | apply Kd.R_drew)); exact HO6709.out))) (below_size (pl HB))); have n3_ := kb BK6701 hb; have n4_ := kb BK6706 hb; have n5_ := kh HB hb; clear HO6709; clear BK6701; clear BK6706; clear HB; have HO6709 := n0_; have HO6713 := n1_; have HO6715 := n2_; have BK6701 := n3_; have BK6706 := n4_; have HB := n5_; clear n0_ n1_ n2_ n3_ n4_ n5_; (try clear hb); (try clear hb2); (try clear hk); (try clear hi); (try clear ho0); (try clear ho1); have hcz22_0 : w21.cell? ⟨gb6706, 0, none⟩ = some (.int .u64 t6704) := bc BK6706 0; have hcz22_1 : w21.cell? ⟨gb6706, 1, none⟩ = some (.int .u64 t6705) := bc BK6706 1; have hfz22_0 := blk_frozen BK6706.out 0; have hfz22_1 := blk_frozen BK6706.out 1; obtain ⟨Ao23, co23, eo23⟩ := Kd.R_slice HO6715.out; subst eo23) | ((with_reducible refine gate_callee (f := 17) rfl ?_); refine goesL_ (some 25) rfl rfl Try.func17 (by kernel_rfl) rfl #[.agg #[.int .u64 t6704, .int .u64 t6705], .slice Ao23 t6711.length co23] rfl pa ?_; (with_reducible refine (flyballlaw01_is.calls k t6704 t6705 _ _ t6711 true _ ?side1 ?side2 A7.out).mono ?_); (case side1 => repeat (first | exact (Kd.R_reads' HO6715.out).2.2 | (with_reducible refine Kd.C_alloc ?_ _) | (with_reducible refine Kd.C_drewN ?_ _) | (with_reducible refine Kd.C_drew ?_))); (case side2 => exact (Kd.R_reads' HO6715.out).2.1); rintro e w24 ⟨rfl, hb⟩; refine ⟨_, rfl, ?_⟩; have n0_ := Aside0.mk (Kd.R_below (by (with_reducible repeat (first | apply Kd.R_alloc | apply Kd.R_drewN | apply Kd.R_drew)); exact HO6709.out) hb); have n1_ := Aside0.mk (Kd.R_below (by (with_reducible repeat (first | apply Kd.R_alloc | apply Kd.R_drewN | apply Kd.R_drew)); exact HO6713.out) hb); have n2_ := Aside0.mk (Kd.R_below (by (with_reducible repeat (first | apply Kd.R_alloc | apply Kd.R_drewN | apply Kd.R_drew)); exact HO6715.out) hb); have n3_ := kb BK6701 hb; have n4_ := kb BK6706 hb; have n5_ := kh HB hb; clear HO6709; clear HO6713; clear HO6715; clear BK6701; clear BK6706; clear HB; have HO6709 := n0_; have HO6713 := n1_; have HO6715 := n2_; have BK6701 := n3_; have BK6706 := n4_; have HB := n5_; clear n0_ n1_ n2_ n3_ n4_ n5_; (try clear hb); (try clear hb2); (try clear hk); (try clear hi)) | ((with_reducible refine gate_dst (N := 32) rfl ?_); (try (refine gate_guard (by rfl) ?_; dsimp only)); refine Kd.R_lit (Kd.int .u64) _ 22 ?hg (N := 32) ?hd (xs := ([t6703] : List Int)) (inner := [.int .u64 t6703]) (ok := fun _ => True) (okp := fun _ => True) ?hr ?hp (fun _ hk => hk) trivial (Below.refl _ _) (Nat.le_refl _) (by simp) ?_; (case hd => rfl); (case hg => rfl); (case hr => first | (go_simp; done) | (go_simp; rfl)); (case hp => exact (Reps.one (show Kd.M (Kd.int .u64) _ _ _ t6703 [.int .u64 t6703] from rfl) (Reps.none _ _))); intro v6718 w25 ho26 hb hg_ hnew_; clear hg_ hnew_; (first | rw [← Ny6717.out] at ho26 | (simp only [Int.reduceToNat] at ho26; rw [← Ny6717.out] at ho26)); have n0_ := Aside0.mk (Kd.R_below (by (with_reducible repeat (first | apply Kd.R_alloc | apply Kd.R_drewN | apply Kd.R_drew)); exact HO6709.out) hb); have n1_ := Aside0.mk (Kd.R_below (by (with_reducible repeat (first | apply Kd.R_alloc | apply Kd.R_drewN | apply Kd.R_drew)); exact HO6713.out) hb); have n2_ := Aside0.mk (Kd.R_below (by (with_reducible repeat (first | apply Kd.R_alloc | apply Kd.R_drewN | apply Kd.R_drew)); exact HO6715.out) hb); have n3_ := Aside0.mk (Kd.R_lower ho26 (below_size (pl HB))); have n4_ := kb BK6701 hb; have n5_ := kb BK6706 hb; have n6_ := kh HB hb; clear HO6709; clear HO6713; clear HO6715; clear BK6701; clear BK6706; clear HB; have HO6709 := n0_; have HO6713 := n1_; have HO6715 := n2_; have HO6719 := n3_; have BK6701 := n4_; have BK6706 := n5_; have HB := n6_; clear n0_ n1_ n2_ n3_ n4_ n5_ n6_; clear hb ho26; obtain ⟨Ao27, co27, eo27⟩ := Kd.R_slice HO6719.out; subst eo27) | (go_at_call 16; (with_reducible refine (flyballref01_Of.calls k _ _ y6717 t6720 _ ?side1 ?side2 A9.out).mono ?_); (case side1 => repeat (first | exact (Kd.R_reads' HO6719.out).2.2 | (with_reducible refine Kd.C_alloc ?_ _) | (with_reducible refine Kd.C_drewN ?_ _) | (with_reducible refine Kd.C_drew ?_))); (case side2 => exact (Kd.R_reads' HO6719.out).2.1); rintro e w28 ⟨v6721, rfl, ho0, hb⟩; have n0_ := Aside0.mk (Kd.R_elder' (by (with_reducible repeat (first | apply Kd.R_alloc | apply Kd.R_drewN | apply Kd.R_drew)); exact HO6709.out) (Kd.R_base ho0) hb); have n1_ := Aside0.mk (Kd.R_elder' (by (with_reducible repeat (first | apply Kd.R_alloc | apply Kd.R_drewN | apply Kd.R_drew)); exact HO6713.out) (Kd.R_base ho0) hb); have n2_ := Aside0.mk (Kd.R_elder' (by (with_reducible repeat (first | apply Kd.R_alloc | apply Kd.R_drewN | apply Kd.R_drew)); exact HO6715.out) (Kd.R_base ho0) hb); have n3_ := Aside0.mk (Kd.R_below (by (with_reducible repeat (first | apply Kd.R_alloc | apply Kd.R_drewN | apply Kd.R_drew)); exact HO6719.out) hb); have n4_ := Aside0.mk (Kd.R_lower (Kd.R_new' (Kd.R_new' (Kd.R_new' ho0 (Kd.R_lt (by (with_reducible repeat (first | apply Kd.R_alloc | apply Kd.R_drewN | apply Kd.R_drew)); exact HO6709.out))) (Kd.R_lt (by (with_reducible repeat (first | apply Kd.R_alloc | apply Kd.R_drewN | apply Kd.R_drew)); exact HO6713.out))) (Kd.R_lt (by (with_reducible repeat (first | apply Kd.R_alloc | apply Kd.R_drewN | apply Kd.R_drew)); exact HO6715.out))) (below_size (pl HB))); have n5_ := kb BK6701 hb; have n6_ := kb BK6706 hb; have n7_ := kh HB hb; clear HO6709; clear HO6713; clear HO6715; clear HO6719; clear BK6701; clear BK6706; clear HB; have HO6709 := n0_; have HO6713 := n1_; have HO6715 := n2_; have HO6719 := n3_; have HO6722 := n4_; have BK6701 := n5_; have BK6706 := n6_; have HB := n7_; clear n0_ n1_ n2_ n3_ n4_ n5_ n6_ n7_; (try clear hb); (try clear hb2); (try clear hk); (try clear hi); (try clear ho0); obtain ⟨Ao29, co29, eo29⟩ := Kd.R_slice HO6722.out; subst eo29; obtain ⟨Ao30, co30, eo30⟩ := Kd.R_slice HO6713.out; subst eo30) | (go_at_call 18; (with_reducible refine (flyballref01_Cmp.calls k _ _ t6720 _ _ t6710 t6723 _ ?side1 ?side2 ?side3 ?side4 A10.out).mono ?_); (case side1 => repeat (first | exact (Kd.R_reads' HO6722.out).2.2 | (with_reducible refine Kd.C_alloc ?_ _) | (with_reducible refine Kd.C_drewN ?_ _) | (with_reducible refine Kd.C_drew ?_))); (case side2 => exact (Kd.R_reads' HO6722.out).2.1); (case side3 => repeat (first | exact (Kd.R_reads' HO6713.out).2.2 | (with_reducible refine Kd.C_alloc ?_ _) | (with_reducible refine Kd.C_drewN ?_ _) | (with_reducible refine Kd.C_drew ?_))); (case side4 => exact (Kd.R_reads' HO6713.out).2.1); rintro e w31 ⟨rfl, hb⟩; have n0_ := Aside0.mk (Kd.R_below (by (with_reducible repeat (first | apply Kd.R_alloc | apply Kd.R_drewN | apply Kd.R_drew)); exact HO6709.out) hb); have n1_ := Aside0.mk (Kd.R_below (by (with_reducible repeat (first | apply Kd.R_alloc | apply Kd.R_drewN | apply Kd.R_drew)); exact HO6713.out) hb); have n2_ := Aside0.mk (Kd.R_below (by (with_reducible repeat (first | apply Kd.R_alloc | apply Kd.R_drewN | apply Kd.R_drew)); exact HO6715.out) hb); have n3_ := Aside0.mk (Kd.R_below (by (with_reducible repeat (first | apply Kd.R_alloc | apply Kd.R_drewN | apply Kd.R_drew)); exact HO6719.out) hb); have n4_ := Aside0.mk (Kd.R_below (by (with_reducible repeat (first | apply Kd.R_alloc | apply Kd.R_drewN | apply Kd.R_drew)); exact HO6722.out) hb); have n5_ := kb BK6701 hb; have n6_ := kb BK6706 hb; have n7_ := kh HB hb; clear HO6709; clear HO6713; clear HO6715; clear HO6719; clear HO6722; clear BK6701; clear BK6706; clear HB; have HO6709 := n0_; have HO6713 := n1_; have HO6715 := n2_; have HO6719 := n3_; have HO6722 := n4_; have BK6701 := n5_; have BK6706 := n6_; have HB := n7_; clear n0_ n1_ n2_ n3_ n4_ n5_ n6_ n7_; (try clear hb); (try clear hb2); (try clear hk); (try clear hi)))
      go_ret
      exact ⟨pe, pl HB⟩
    · replace c8 := Bool.eq_false_iff.mpr c8
      subst c8
      rw [if_neg (show ¬ (false = true) by decide)] at H
      exact absurd H (by simp)
  · replace c3 := Bool.eq_false_iff.mpr c3
    subst c3
    rw [if_neg (show ¬ (false = true) by decide)] at H
    obtain rfl := Option.some.inj H
    go_enter Try.func6, Try.ntmps6
    go_wp2_with (first | ((with_reducible refine gate_dst (N := 1) rfl ?_); (try (refine gate_guard (by rfl) ?_; dsimp only)); refine kx 1 #[.int .u64 a0_0, .int .u64 a0_1] 24 ?_; intro gb6701 hg w32 hbox hb; have BK6701 := Aside0.mk (hbox); have GW6701 := kg HB hg; have GE6701 := kg HB hg; replace HB := kh HB hb; clear hb hbox hg) | ((with_reducible refine gate_callee (f := 11) rfl ?_); refine kc (some 9) Try.func11 #[] (flyballlaw01_works.calls k  false _ A2.out) ?_; intro w33 hb; replace BK6701 := kb BK6701 hb; replace HB := kh HB hb; (try clear hb); (try clear hb2); (try clear hk); (try clear hi)))
    go_ret
    exact ⟨pe, pl HB⟩
end Go.Proofs.Ytdchdapllehppaa.PAll
end
