/- Functions of the print, turned to this claim. -/
import Derived.Test.YtdchdapllehppaaZVW
import Derived.Test.YtdchdapllehppaaZVx0
import Derived.Test.YtdchdapllehppaaZVx1
import Derived.Test.YtdchdapllehppaaZVx5
import Derived.Test.YtdchdapllehppaaZVx8
import Derived.Test.YtdchdapllehppaaZVx9
import Derived.Test.YtdchdapllehppaaZVx11
import Derived.Test.YtdchdapllehppaaZVx17
section
namespace Go.Proofs.Ytdchdapllehppaa.PAll
open Go.RowKit Go.Proofs.YtdchdapllehppaaW.PrintWords Go.Proofs.YtdchdapllehppaaW.PrintLast Go.Proofs.YtdchdapllehppaaW.PrintMore
attribute [local go_sem] max2_int min2_int max_two min_two max_three min_three max_four min_four   -- for this text's walks alone
set_option linter.unusedVariables false
set_option linter.unusedSimpArgs false
attribute [local go_sem high] eqA24
/-! ### flyballlaw01_WideRoots: function 8 -/
def flyballlaw01_WideRoots.f (k : Nat) (a0_0 : Int) (a0_1 : Int) : Option (Bool) := (flyballlaw01_works.f k).bind fun t7152 => (if t7152 = true then ((wide_U128_Sqrt.f k a0_0 a0_1).bind fun bt7153 => ((wide_Mul.f bt7153.1 bt7153.1).bind fun bt7157 => ((wide_U128_Add.f bt7157.1 bt7157.2 bt7153.2.1 bt7153.2.2).bind fun bt7160 => ((wide_U128_Shl.f k 0 bt7153.1 1).bind fun bt7164 => (if (bt7160.1 == a0_0 && (bt7160.2.1 == a0_1)) = true then (if bt7160.2.2 = 0 then ((wide_U128_Cmp.f k bt7153.2.1 bt7153.2.2 bt7164.1 bt7164.2).bind fun t7167 => (some (decide (t7167 ≤ 0)))) else (none)) else (none)))))) else (some false))
theorem flyballlaw01_WideRoots.mono : ∀ a0 a1 k, LeO (flyballlaw01_WideRoots.f k a0 a1) (flyballlaw01_WideRoots.f (k + 1) a0 a1) := by
  intro a0 a1 k
  unfold flyballlaw01_WideRoots.f
  repeat' first
      | (with_reducible exact flyballlaw01_works.mono _)
      | (with_reducible exact wide_U128_Cmp.mono _ _ _ _ _)
      | (with_reducible exact wide_U128_Shl.mono _ _ _ _)
      | (with_reducible exact wide_U128_Sqrt.mono _ _ _)
      | (with_reducible exact LeO.refl _)
      | (with_reducible exact LeO.none _)
      | (with_reducible refine LeO.ite ?_ ?_)
      | (with_reducible refine LeO.bind ?_ (fun _ => ?_))
      | exact flyballlaw01_works.mono _
      | exact wide_U128_Cmp.mono _ _ _ _ _
      | exact wide_U128_Shl.mono _ _ _ _
      | exact wide_U128_Sqrt.mono _ _ _
      | exact LeO.none _
      | refine LeO.ite ?_ ?_
      | refine LeO.bind ?_ (fun _ => ?_)
set_option maxHeartbeats 8000000 in
set_option maxRecDepth 100000 in
theorem flyballlaw01_WideRoots.calls (k : Nat) (a0_0 : Int) (a0_1 : Int) (r : Bool) (w : World) (h : flyballlaw01_WideRoots.f k a0_0 a0_1 = some r) :
    Calls Try.prog 8 #[.agg #[.int .u64 a0_0, .int .u64 a0_1]] w fun e w' => e = .returned (.bool r) ∧ Below w.heap.size w w' := by
  have hu24 := Try.underlying24
  have HB := Aside0.mk (Below.refl w.heap.size w)
  have H := h
  clear h
  unfold flyballlaw01_WideRoots.f at H
  obtain ⟨t7152, A20, H⟩ := Option.bind_eq_some_iff.mp H
  have A2 := Aside0.mk A20
  clear A20
  (try dsimp only at H)
  by_cases c3 : t7152 = true
  · subst c3
    rw [if_pos rfl] at H
    obtain ⟨⟨t7153, t7154, t7155⟩, A40, H⟩ := Option.bind_eq_some_iff.mp H
    have A4 := Aside0.mk A40
    clear A40
    (try dsimp only at H)
    obtain ⟨⟨t7157, t7158⟩, A50, H⟩ := Option.bind_eq_some_iff.mp H
    have A5 := Aside0.mk A50
    clear A50
    (try dsimp only at H)
    obtain ⟨⟨t7160, t7161, t7162⟩, A60, H⟩ := Option.bind_eq_some_iff.mp H
    have A6 := Aside0.mk A60
    clear A60
    (try dsimp only at H)
    obtain ⟨⟨t7164, t7165⟩, A70, H⟩ := Option.bind_eq_some_iff.mp H
    have A7 := Aside0.mk A70
    clear A70
    (try dsimp only at H)
    by_cases c8 : (t7160 == a0_0 && (t7161 == a0_1)) = true
    · rw [if_pos c8] at H
      have c8b0 : (t7160 == a0_0 && (t7161 == a0_1)) = true := c8
      (try (have c8b1 : decide (t7160 = a0_0 && (t7161 == a0_1)) = true := by simpa using c8))
      (try (have c8b2 : (t7160 == a0_0 && (t7161 == a0_1)) = true := by simpa using c8))
      clear c8
      by_cases c9 : t7162 = 0
      · rw [if_pos c9] at H
        have c9b0 : (t7162 == 0) = true := beq_iff_eq.mpr c9
        have c9b1 : (t7162 != 0) = false := bne_eq_false_iff_eq.mpr c9
        clear c9
        obtain ⟨t7167, A100, H⟩ := Option.bind_eq_some_iff.mp H
        have A10 := Aside0.mk A100
        clear A100
        (try dsimp only at H)
        obtain rfl := Option.some.inj H
        go_enter Try.func8, Try.ntmps8
        go_wp2_with (first | ((with_reducible refine gate_dst (N := 1) rfl ?_); refine kx 1 #[.int .u64 a0_0, .int .u64 a0_1] 24 ?_; intro gb7151 hg w11 hbox hb; have BK7151 := Aside0.mk (hbox); have GW7151 := kg HB hg; have GE7151 := kg HB hg; replace HB := kh HB hb; clear hb hbox hg) | ((with_reducible refine gate_callee (f := 11) rfl ?_); refine kc (some 10) Try.func11 #[] (flyballlaw01_works.calls k  true _ A2.out) ?_; intro w12 hb; replace BK7151 := kb BK7151 hb; replace HB := kh HB hb; (try clear hb); have hcz13_0 : w12.cell? ⟨gb7151, 0, none⟩ = some (.int .u64 a0_0) := bc BK7151 0; have hcz13_1 : w12.cell? ⟨gb7151, 1, none⟩ = some (.int .u64 a0_1) := bc BK7151 1; have hfz13_0 := blk_frozen BK7151.out 0; have hfz13_1 := blk_frozen BK7151.out 1) | ((with_reducible refine gate_callee (f := 29) rfl ?_); refine kc (some 15) Try.func29 #[.agg #[.int .u64 a0_0, .int .u64 a0_1]] (wide_U128_Sqrt.calls k a0_0 a0_1 t7153 t7154 t7155 _ A4.out) ?_; intro w14 hb; replace BK7151 := kb BK7151 hb; replace HB := kh HB hb; (try clear hb)) | ((with_reducible refine gate_dst (N := 5) rfl ?_); refine kx 5 #[.int .u64 0, .int .u64 0] 24 ?_; intro gb7156 hg w15 hbox hb; have BK7156 := Aside0.mk (hbox); have GW7156 := kg HB hg; have GE7156 := kg HB hg; have NB7151_7156 := kn BK7151 hg; have NB7156_7151 := km BK7151 hg; replace BK7151 := kb BK7151 hb; replace HB := kh HB hb; clear hb hbox hg; have hnb16 := NB7156_7151.out; have hnc16 := NB7151_7156.out; have hcz17_0 : w15.cell? ⟨gb7156, 0, none⟩ = some (.int .u64 0) := bc BK7156 0; have hcz17_1 : w15.cell? ⟨gb7156, 1, none⟩ = some (.int .u64 0) := bc BK7156 1; have hfz17_0 := blk_frozen BK7156.out 0; have hfz17_1 := blk_frozen BK7156.out 1) | ((with_reducible refine gate_callee (f := 27) rfl ?_); refine kc (some 20) Try.func27 #[.int .u64 t7153, .int .u64 t7153] (wide_Mul.calls t7153 t7153 t7157 t7158 _ A5.out) ?_; intro w18 hb; replace BK7151 := kb BK7151 hb; replace BK7156 := kb (o' := .cells #[.int .u64 t7154, .int .u64 t7155] 24 (0, 0)) BK7156 hb; replace HB := kh HB hb; (try clear hb)) | ((with_reducible refine gate_dst (N := 6) rfl ?_); refine kx 6 #[.int .u64 0, .int .u64 0] 24 ?_; intro gb7159 hg w19 hbox hb; have BK7159 := Aside0.mk (hbox); have GW7159 := kg HB hg; have GE7159 := kg HB hg; have NB7151_7159 := kn BK7151 hg; have NB7159_7151 := km BK7151 hg; have NB7156_7159 := kn BK7156 hg; have NB7159_7156 := km BK7156 hg; replace BK7151 := kb BK7151 hb; replace BK7156 := kb BK7156 hb; replace HB := kh HB hb; clear hb hbox hg; have hnb20 := NB7159_7151.out; have hnc20 := NB7151_7159.out; have hnb21 := NB7159_7156.out; have hnc21 := NB7156_7159.out; have hcz22_0 : w19.cell? ⟨gb7159, 0, none⟩ = some (.int .u64 0) := bc BK7159 0; have hcz22_1 : w19.cell? ⟨gb7159, 1, none⟩ = some (.int .u64 0) := bc BK7159 1; have hfz22_0 := blk_frozen BK7159.out 0; have hfz22_1 := blk_frozen BK7159.out 1; have hcz23_0 : w19.cell? ⟨gb7156, 0, none⟩ = some (.int .u64 t7154) := bc BK7156 0; have hcz23_1 : w19.cell? ⟨gb7156, 1, none⟩ = some (.int .u64 t7155) := bc BK7156 1; have hfz23_0 := blk_frozen BK7156.out 0; have hfz23_1 := blk_frozen BK7156.out 1) | ((with_reducible refine gate_callee (f := 21) rfl ?_); refine kc (some 24) Try.func21 #[.agg #[.int .u64 t7157, .int .u64 t7158], .agg #[.int .u64 t7154, .int .u64 t7155]] (wide_U128_Add.calls t7157 t7158 t7154 t7155 t7160 t7161 t7162 _ A6.out) ?_; intro w24 hb; replace BK7151 := kb BK7151 hb; replace BK7156 := kb BK7156 hb; replace BK7159 := kb (o' := .cells #[.int .u64 t7157, .int .u64 t7158] 24 (0, 0)) BK7159 hb; replace HB := kh HB hb; (try clear hb)) | ((with_reducible refine gate_dst (N := 7) rfl ?_); refine kx 7 #[.int .u64 0, .int .u64 0] 24 ?_; intro gb7163 hg w25 hbox hb; have BK7163 := Aside0.mk (hbox); have GW7163 := kg HB hg; have GE7163 := kg HB hg; have NB7151_7163 := kn BK7151 hg; have NB7163_7151 := km BK7151 hg; have NB7156_7163 := kn BK7156 hg; have NB7163_7156 := km BK7156 hg; have NB7159_7163 := kn BK7159 hg; have NB7163_7159 := km BK7159 hg; replace BK7151 := kb BK7151 hb; replace BK7156 := kb BK7156 hb; replace BK7159 := kb BK7159 hb; replace HB := kh HB hb; clear hb hbox hg; have hnb26 := NB7163_7151.out; have hnc26 := NB7151_7163.out; have hnb27 := NB7163_7156.out; have hnc27 := NB7156_7163.out; have hnb28 := NB7163_7159.out; have hnc28 := NB7159_7163.out; have hcz29_0 : w25.cell? ⟨gb7163, 0, none⟩ = some (.int .u64 0) := bc BK7163 0; have hcz29_1 : w25.cell? ⟨gb7163, 1, none⟩ = some (.int .u64 0) := bc BK7163 1; have hfz29_0 := blk_frozen BK7163.out 0; have hfz29_1 := blk_frozen BK7163.out 1) | ((with_reducible refine gate_callee (f := 25) rfl ?_); refine kc (some 29) Try.func25 #[.agg #[.int .u64 0, .int .u64 t7153], .int .i64 1] (wide_U128_Shl.calls k 0 t7153 1 t7164 t7165 _ A7.out) ?_; intro w30 hb; replace BK7151 := kb BK7151 hb; replace BK7156 := kb BK7156 hb; replace BK7159 := kb BK7159 hb; replace BK7163 := kb (o' := .cells #[.int .u64 t7160, .int .u64 t7161] 24 (0, 0)) BK7163 hb; replace HB := kh HB hb; (try clear hb)) | ((with_reducible refine gate_dst (N := 9) rfl ?_); refine kx 9 #[.int .u64 0, .int .u64 0] 24 ?_; intro gb7166 hg w31 hbox hb; have BK7166 := Aside0.mk (hbox); have GW7166 := kg HB hg; have GE7166 := kg HB hg; have NB7151_7166 := kn BK7151 hg; have NB7166_7151 := km BK7151 hg; have NB7156_7166 := kn BK7156 hg; have NB7166_7156 := km BK7156 hg; have NB7159_7166 := kn BK7159 hg; have NB7166_7159 := km BK7159 hg; have NB7163_7166 := kn BK7163 hg; have NB7166_7163 := km BK7163 hg; replace BK7151 := kb BK7151 hb; replace BK7156 := kb BK7156 hb; replace BK7159 := kb BK7159 hb; replace BK7163 := kb BK7163 hb; replace HB := kh HB hb; clear hb hbox hg; have hnb32 := NB7166_7151.out; have hnc32 := NB7151_7166.out; have hnb33 := NB7166_7156.out; have hnc33 := NB7156_7166.out; have hnb34 := NB7166_7159.out; have hnc34 := NB7159_7166.out; have hnb35 := NB7166_7163.out; have hnc35 := NB7163_7166.out; have hcz36_0 : w31.cell? ⟨gb7166, 0, none⟩ = some (.int .u64 0) := bc BK7166 0; have hcz36_1 : w31.cell? ⟨gb7166, 1, none⟩ = some (.int .u64 0) := bc BK7166 1; have hfz36_0 := blk_frozen BK7166.out 0; have hfz36_1 := blk_frozen BK7166.out 1; have hcz37_0 : w31.cell? ⟨gb7163, 0, none⟩ = some (.int .u64 t7160) := bc BK7163 0; have hcz37_1 : w31.cell? ⟨gb7163, 1, none⟩ = some (.int .u64 t7161) := bc BK7163 1; have hfz37_0 := blk_frozen BK7163.out 0; have hfz37_1 := blk_frozen BK7163.out 1; have hcz38_0 : w31.cell? ⟨gb7151, 0, none⟩ = some (.int .u64 a0_0) := bc BK7151 0; have hcz38_1 : w31.cell? ⟨gb7151, 1, none⟩ = some (.int .u64 a0_1) := bc BK7151 1; have hfz38_0 := blk_frozen BK7151.out 0; have hfz38_1 := blk_frozen BK7151.out 1; have hcz39_0 : w31.cell? ⟨gb7156, 0, none⟩ = some (.int .u64 t7154) := bc BK7156 0; have hcz39_1 : w31.cell? ⟨gb7156, 1, none⟩ = some (.int .u64 t7155) := bc BK7156 1; have hfz39_0 := blk_frozen BK7156.out 0; have hfz39_1 := blk_frozen BK7156.out 1) | (go_at_call 34; (with_reducible refine (wide_U128_Cmp.calls k t7154 t7155 t7164 t7165 t7167 _ A10.out).mono ?_); rintro e w40 ⟨rfl, hb⟩; replace BK7151 := kb BK7151 hb; replace BK7156 := kb BK7156 hb; replace BK7159 := kb BK7159 hb; replace BK7163 := kb BK7163 hb; replace BK7166 := kb (o' := .cells #[.int .u64 t7164, .int .u64 t7165] 24 (0, 0)) BK7166 hb; replace HB := kh HB hb; (try clear hb)))
        go_ret
        exact ⟨pe, pl HB⟩
      · rw [if_neg c9] at H
        exact absurd H (by simp)
    · rw [if_neg c8] at H
      exact absurd H (by simp)
  · replace c3 := Bool.eq_false_iff.mpr c3
    subst c3
    rw [if_neg (show ¬ (false = true) by decide)] at H
    obtain rfl := Option.some.inj H
    go_enter Try.func8, Try.ntmps8
    go_wp2_with (first | ((with_reducible refine gate_dst (N := 1) rfl ?_); refine kx 1 #[.int .u64 a0_0, .int .u64 a0_1] 24 ?_; intro gb7151 hg w41 hbox hb; have BK7151 := Aside0.mk (hbox); have GW7151 := kg HB hg; have GE7151 := kg HB hg; replace HB := kh HB hb; clear hb hbox hg) | ((with_reducible refine gate_callee (f := 11) rfl ?_); refine kc (some 10) Try.func11 #[] (flyballlaw01_works.calls k  false _ A2.out) ?_; intro w42 hb; replace BK7151 := kb BK7151 hb; replace HB := kh HB hb; (try clear hb)))
    go_ret
    exact ⟨pe, pl HB⟩
end Go.Proofs.Ytdchdapllehppaa.PAll
end
