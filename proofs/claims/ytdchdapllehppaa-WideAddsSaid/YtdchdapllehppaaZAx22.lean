/- Functions of the print, turned to this claim. -/
import Derived.Test.YtdchdapllehppaaZAW
import Derived.Test.YtdchdapllehppaaZAx0
import Derived.Test.YtdchdapllehppaaZAx7
import Derived.Test.YtdchdapllehppaaZAx8
import Derived.Test.YtdchdapllehppaaZAx9
import Derived.Test.YtdchdapllehppaaZAx13
import Derived.Test.YtdchdapllehppaaZAx15
import Derived.Test.YtdchdapllehppaaZAx17
import Derived.Test.YtdchdapllehppaaZAx19
import Derived.Test.YtdchdapllehppaaZAx21
section
namespace Go.Proofs.Ytdchdapllehppaa.PAll
open Go.RowKit Go.Proofs.YtdchdapllehppaaW.PrintWords Go.Proofs.YtdchdapllehppaaW.PrintLast Go.Proofs.YtdchdapllehppaaW.PrintMore
attribute [local go_sem] max2_int min2_int max_two min_two max_three min_three max_four min_four   -- for this text's walks alone
set_option linter.unusedVariables false
set_option linter.unusedSimpArgs false
/-! ### flyballlaw01_WideAdds: function 7 -/
theorem flyballlaw01_WideAdds.kb0 {w0 w1 : World} {g : Nat} {o : Obj} (h : Aside0 (w0.heap[g]? = some o)) (hb : Below w0.heap.size w0 w1) : Aside0 (w1.heap[g]? = some o) := ⟨blk_below h.out hb⟩
theorem flyballlaw01_WideAdds.kb1 {w0 w1 : World} {g n : Nat} {o : Obj} (h : Aside0 (w0.heap[g]? = some o)) (hb : Below (w0.drewN n).heap.size (w0.drewN n) w1) : Aside0 (w1.heap[g]? = some o) := ⟨blk_below (blk_drewN h.out n) hb⟩
theorem flyballlaw01_WideAdds.kb2 {w0 w1 : World} {g n m : Nat} {o : Obj} (h : Aside0 (w0.heap[g]? = some o)) (hb : Below ((w0.drewN n).drewN m).heap.size ((w0.drewN n).drewN m) w1) : Aside0 (w1.heap[g]? = some o) := ⟨blk_below (blk_drewN (blk_drewN h.out n) m) hb⟩
def flyballlaw01_WideAdds.f (k : Nat) (a0_0 : Int) (a0_1 : Int) (a1_0 : Int) (a1_1 : Int) : Option (Bool) := (flyballlaw01_works.f k).bind fun t7003 => (if t7003 = true then ((wide_U128_Add.f a0_0 a0_1 a1_0 a1_1).bind fun bt7004 => ((wide_U128_Sub.f a0_0 a0_1 a1_0 a1_1).bind fun bt7008 => ((flyballlaw01_of.f k a0_0 a0_1).bind fun t7012 => ((flyballlaw01_of.f k a1_0 a1_1).bind fun t7015 => ((flyballref01_Add.f k t7012 t7015).bind fun t7018 => ((flyballlaw01_of.f k a0_0 a0_1).bind fun t7021 => ((flyballlaw01_of.f k a1_0 a1_1).bind fun t7024 => ((flyballref01_Sub.f k t7021 t7024 128).bind fun bt7027 => (if 128 ≤ (t7018.length : Int) then ((flyballlaw01_is.f k bt7004.1 bt7004.2.1 (t7018.take 128)).bind fun t7035 => ((flyballlaw01_is.f k bt7008.1 bt7008.2.1 bt7027.1).bind fun t7036 => (if t7035 = true then (if t7036 = true then (if (t7018.length : Int) > 128 then (if 128 < (t7018.length : Int) then ((flyballlaw01_one.f (rdOf false t7018 128)).bind fun t7038 => (if bt7004.2.2 = t7038 then ((flyballlaw01_one.f bt7027.2).bind fun t7039 => (if bt7008.2.2 = t7039 then ((wide_U128_Cmp.f k a0_0 a0_1 a1_0 a1_1).bind fun t7040 => ((flyballlaw01_of.f k a0_0 a0_1).bind fun t7041 => ((flyballlaw01_of.f k a1_0 a1_1).bind fun t7044 => ((flyballref01_Cmp.f k t7041 t7044).bind fun t7047 => (if t7040 = t7047 then ((wide_U128_Len.f k a0_0 a0_1).bind fun t7048 => ((flyballlaw01_of.f k a0_0 a0_1).bind fun t7049 => ((flyballref01_Len.f k t7049).bind fun t7052 => (some (t7048 == t7052))))) else (none)))))) else (none))) else (none))) else (none)) else ((flyballlaw01_one.f false).bind fun t7053 => (if bt7004.2.2 = t7053 then ((flyballlaw01_one.f bt7027.2).bind fun t7054 => (if bt7008.2.2 = t7054 then ((wide_U128_Cmp.f k a0_0 a0_1 a1_0 a1_1).bind fun t7055 => ((flyballlaw01_of.f k a0_0 a0_1).bind fun t7056 => ((flyballlaw01_of.f k a1_0 a1_1).bind fun t7059 => ((flyballref01_Cmp.f k t7056 t7059).bind fun t7062 => (if t7055 = t7062 then ((wide_U128_Len.f k a0_0 a0_1).bind fun t7063 => ((flyballlaw01_of.f k a0_0 a0_1).bind fun t7064 => ((flyballref01_Len.f k t7064).bind fun t7067 => (some (t7063 == t7067))))) else (none)))))) else (none))) else (none)))) else (none)) else (none)))) else (none)))))))))) else (some false))
theorem flyballlaw01_WideAdds.mono : ∀ a0 a1 a2 a3 k, LeO (flyballlaw01_WideAdds.f k a0 a1 a2 a3) (flyballlaw01_WideAdds.f (k + 1) a0 a1 a2 a3) := by
  intro a0 a1 a2 a3 k
  unfold flyballlaw01_WideAdds.f
  repeat' first
      | (with_reducible exact flyballlaw01_is.mono _ _ _ _)
      | (with_reducible exact flyballlaw01_of.mono _ _ _)
      | (with_reducible exact flyballlaw01_works.mono _)
      | (with_reducible exact flyballref01_Add.mono _ _ _)
      | (with_reducible exact flyballref01_Cmp.mono _ _ _)
      | (with_reducible exact flyballref01_Len.mono _ _)
      | (with_reducible exact flyballref01_Sub.mono _ _ _ _)
      | (with_reducible exact wide_U128_Cmp.mono _ _ _ _ _)
      | (with_reducible exact wide_U128_Len.mono _ _ _)
      | (with_reducible exact LeO.refl _)
      | (with_reducible exact LeO.none _)
      | (with_reducible refine LeO.ite ?_ ?_)
      | (with_reducible refine LeO.bind ?_ (fun _ => ?_))
      | exact flyballlaw01_is.mono _ _ _ _
      | exact flyballlaw01_of.mono _ _ _
      | exact flyballlaw01_works.mono _
      | exact flyballref01_Add.mono _ _ _
      | exact flyballref01_Cmp.mono _ _ _
      | exact flyballref01_Len.mono _ _
      | exact flyballref01_Sub.mono _ _ _ _
      | exact wide_U128_Cmp.mono _ _ _ _ _
      | exact wide_U128_Len.mono _ _ _
      | exact LeO.none _
      | refine LeO.ite ?_ ?_
      | refine LeO.bind ?_ (fun _ => ?_)
def flyballlaw01_WideAdds.T7 : Bool × List (List Nat × List Nat) := (true, [([], []), ([0], [0]), ([], []), ([2, 1], [2]), ([1, 3, 3], [1, 3]), ([4], [4]), ([5], [5]), ([5], [5]), ([6, 4, 0, 1, 2, 3, 4, 5, 6], [6]), ([7, 8, 0, 1, 2, 3, 4, 5, 6, 7, 8], [7])])
def flyballlaw01_WideAdds.B7 : List Nat := [0, 1, 0, 7, 15, 31, 63, 63, 127, 511]
theorem flyballlaw01_WideAdds.tab7 : rtab .any (opsOf Try.f7 7) = flyballlaw01_WideAdds.T7 := by kernel_rfl
theorem flyballlaw01_WideAdds.bits7 : waitsOk flyballlaw01_WideAdds.T7.2 flyballlaw01_WideAdds.B7 = true := by kernel_rfl
def flyballlaw01_WideAdds.T10 : Bool × List (List Nat × List Nat) := (true, [([], []), ([0], [0]), ([1], [1]), ([1, 2], [1, 2]), ([3, 1], [3]), ([4], [4]), ([4, 5], [4, 5]), ([6, 4], [6]), ([7], [7]), ([7], [7]), ([9, 7], [7, 9]), ([10, 7], [7, 10]), ([11, 7, 7], [7, 11]), ([12], [12]), ([13, 12], [12, 13]), ([14, 12], [12, 14]), ([12, 15, 7], [7, 12, 15]), ([16, 12, 7], [7, 16]), ([8, 17, 7], [7, 8, 17]), ([7, 18], [7, 18]), ([19, 17], [19]), ([20], [20]), ([20], [20]), ([22, 20, 20], [20, 22]), ([21, 23, 20], [20, 21, 23]), ([20, 24], [20, 24]), ([25, 23], [25]), ([26], [26]), ([26], [26]), ([27, 28, 26, 26], [26, 27, 28]), ([26], [26]), ([30, 29, 26], [26, 30]), ([26], [26]), ([32, 31, 26], [26, 32]), ([31, 33, 33, 26], [26, 31, 33]), ([29, 34, 26], [26, 29, 34]), ([26, 35], [26, 35]), ([36, 34], [36]), ([37], [37]), ([38, 37, 37], [37, 38]), ([37], [37]), ([40, 39, 37], [37, 40]), ([41, 41, 37], [37, 41]), ([39, 42, 37], [37, 39, 42]), ([37, 43], [37, 43]), ([44, 42, 0, 1, 2, 3, 4, 5, 6, 7, 8, 9, 10, 11, 12, 13, 14, 15, 16, 17, 18, 19, 20, 21, 22, 23, 24, 25, 26, 27, 28, 29, 30, 31, 32, 33, 34, 35, 36, 37, 38, 39, 40, 41, 42, 43, 44], [44])])
def flyballlaw01_WideAdds.B10 : List Nat := [0, 1, 3, 7, 15, 31, 63, 127, 255, 255, 767, 1791, 3839, 7935, 16127, 32511, 65279, 130815, 262143, 524287, 1048575, 2097151, 2097151, 6291455, 16777215, 33554431, 67108863, 134217727, 134217727, 536870911, 134217727, 2147483647, 134217727, 8589934591, 17179869183, 34359738367, 68719476735, 137438953471, 274877906943, 549755813887, 274877906943, 2199023255551, 4398046511103, 8796093022207, 17592186044415, 35184372088831]
theorem flyballlaw01_WideAdds.tab10 : rtab .any (opsOf Try.f7 10) = flyballlaw01_WideAdds.T10 := by kernel_rfl
theorem flyballlaw01_WideAdds.bits10 : waitsOk flyballlaw01_WideAdds.T10.2 flyballlaw01_WideAdds.B10 = true := by kernel_rfl
set_option maxHeartbeats 8000000 in
set_option maxRecDepth 100000 in
theorem flyballlaw01_WideAdds.calls (k : Nat) (a0_0 : Int) (a0_1 : Int) (a1_0 : Int) (a1_1 : Int) (r : Bool) (w : World) (h : flyballlaw01_WideAdds.f k a0_0 a0_1 a1_0 a1_1 = some r) :
    Calls Try.prog 7 #[.agg #[.int .u64 a0_0, .int .u64 a0_1], .agg #[.int .u64 a1_0, .int .u64 a1_1]] w fun e w' => e = .returned (.bool r) ∧ Below w.heap.size w w' := by
  have hu24 := Try.underlying24
  have HB := Aside0.mk (Below.refl w.heap.size w)
  have H := h
  clear h
  unfold flyballlaw01_WideAdds.f at H
  obtain ⟨t7003, A30, H⟩ := Option.bind_eq_some_iff.mp H
  have A3 := Aside0.mk A30
  clear A30
  (try dsimp only at H)
  by_cases c4 : t7003 = true
  · subst c4
    rw [if_pos rfl] at H
    obtain ⟨⟨t7004, t7005, t7006⟩, A50, H⟩ := Option.bind_eq_some_iff.mp H
    have A5 := Aside0.mk A50
    clear A50
    (try dsimp only at H)
    obtain ⟨⟨t7008, t7009, t7010⟩, A60, H⟩ := Option.bind_eq_some_iff.mp H
    have A6 := Aside0.mk A60
    clear A60
    (try dsimp only at H)
    obtain ⟨t7012, A70, H⟩ := Option.bind_eq_some_iff.mp H
    have A7 := Aside0.mk A70
    clear A70
    (try dsimp only at H)
    obtain ⟨t7015, A80, H⟩ := Option.bind_eq_some_iff.mp H
    have A8 := Aside0.mk A80
    clear A80
    (try dsimp only at H)
    obtain ⟨t7018, A90, H⟩ := Option.bind_eq_some_iff.mp H
    have A9 := Aside0.mk A90
    clear A90
    (try dsimp only at H)
    obtain ⟨t7021, A100, H⟩ := Option.bind_eq_some_iff.mp H
    have A10 := Aside0.mk A100
    clear A100
    (try dsimp only at H)
    obtain ⟨t7024, A110, H⟩ := Option.bind_eq_some_iff.mp H
    have A11 := Aside0.mk A110
    clear A110
    (try dsimp only at H)
    obtain ⟨⟨t7027, t7028⟩, A120, H⟩ := Option.bind_eq_some_iff.mp H
    have A12 := Aside0.mk A120
    clear A120
    (try dsimp only at H)
    by_cases c13 : 128 ≤ (t7018.length : Int)
    · rw [if_pos c13] at H
      have c13b0 := eq_true c13
      have c13b1 : decide (128 ≤ (t7018.length : Int)) = true := decide_eq_true c13
      clear c13
      obtain ⟨y7031, hy7031⟩ : ∃ y_ : List Bool, y_ = (t7018.take 128) := ⟨_, rfl⟩
      replace H : ((flyballlaw01_is.f k t7004 t7005 y7031).bind fun t7035 => ((flyballlaw01_is.f k t7008 t7009 t7027).bind fun t7036 => (if t7035 = true then (if t7036 = true then (if (t7018.length : Int) > 128 then (if 128 < (t7018.length : Int) then ((flyballlaw01_one.f (rdOf false t7018 128)).bind fun t7038 => (if t7006 = t7038 then ((flyballlaw01_one.f t7028).bind fun t7039 => (if t7010 = t7039 then ((wide_U128_Cmp.f k a0_0 a0_1 a1_0 a1_1).bind fun t7040 => ((flyballlaw01_of.f k a0_0 a0_1).bind fun t7041 => ((flyballlaw01_of.f k a1_0 a1_1).bind fun t7044 => ((flyballref01_Cmp.f k t7041 t7044).bind fun t7047 => (if t7040 = t7047 then ((wide_U128_Len.f k a0_0 a0_1).bind fun t7048 => ((flyballlaw01_of.f k a0_0 a0_1).bind fun t7049 => ((flyballref01_Len.f k t7049).bind fun t7052 => (some (t7048 == t7052))))) else (none)))))) else (none))) else (none))) else (none)) else ((flyballlaw01_one.f false).bind fun t7053 => (if t7006 = t7053 then ((flyballlaw01_one.f t7028).bind fun t7054 => (if t7010 = t7054 then ((wide_U128_Cmp.f k a0_0 a0_1 a1_0 a1_1).bind fun t7055 => ((flyballlaw01_of.f k a0_0 a0_1).bind fun t7056 => ((flyballlaw01_of.f k a1_0 a1_1).bind fun t7059 => ((flyballref01_Cmp.f k t7056 t7059).bind fun t7062 => (if t7055 = t7062 then ((wide_U128_Len.f k a0_0 a0_1).bind fun t7063 => ((flyballlaw01_of.f k a0_0 a0_1).bind fun t7064 => ((flyballref01_Len.f k t7064).bind fun t7067 => (some (t7063 == t7067))))) else (none)))))) else (none))) else (none)))) else (none)) else (none)))) = some r := by first | (rw [hy7031]; with_reducible exact H) | (have H2_ := (Option.bind_some _ _).symm.trans H; rw [hy7031]; with_reducible exact H2_) | (have H2_ := (Option.bind_some _ _).symm.trans H; with_reducible exact H2_) | with_reducible exact H | (rw [hy7031]; exact H) | exact H
      have Ny7031 := Aside0.mk hy7031
      clear hy7031
      obtain ⟨t7035, A140, H⟩ := Option.bind_eq_some_iff.mp H
      have A14 := Aside0.mk A140
      clear A140
      (try dsimp only at H)
      obtain ⟨t7036, A150, H⟩ := Option.bind_eq_some_iff.mp H
      have A15 := Aside0.mk A150
      clear A150
      (try dsimp only at H)
      by_cases c16 : t7035 = true
      · subst c16
        rw [if_pos rfl] at H
        by_cases c17 : t7036 = true
        · subst c17
          rw [if_pos rfl] at H
          by_cases c18 : (t7018.length : Int) > 128
          · rw [if_pos c18] at H
            have c18b0 : decide (128 < (t7018.length : Int)) = true := decide_eq_true c18
            have c18b1 : decide (128 < t7018.length) = true := decide_eq_true (by omega)
            clear c18
            by_cases c19 : 128 < (t7018.length : Int)
            · rw [if_pos c19] at H
              have c19b0 : decide (128 < (t7018.length : Int)) = true := decide_eq_true c19
              have c19b1 : decide (128 < t7018.length) = true := decide_eq_true (by omega)
              clear c19
              obtain ⟨t7038, A200, H⟩ := Option.bind_eq_some_iff.mp H
              have A20 := Aside0.mk A200
              clear A200
              (try dsimp only at H)
              by_cases c21 : t7006 = t7038
              · rw [if_pos c21] at H
                have c21b0 : (t7006 == t7038) = true := beq_iff_eq.mpr c21
                have c21b1 : (t7006 != t7038) = false := bne_eq_false_iff_eq.mpr c21
                clear c21
                obtain ⟨t7039, A220, H⟩ := Option.bind_eq_some_iff.mp H
                have A22 := Aside0.mk A220
                clear A220
                (try dsimp only at H)
                by_cases c23 : t7010 = t7039
                · rw [if_pos c23] at H
                  have c23b0 : (t7010 == t7039) = true := beq_iff_eq.mpr c23
                  have c23b1 : (t7010 != t7039) = false := bne_eq_false_iff_eq.mpr c23
                  clear c23
                  obtain ⟨t7040, A240, H⟩ := Option.bind_eq_some_iff.mp H
                  have A24 := Aside0.mk A240
                  clear A240
                  (try dsimp only at H)
                  obtain ⟨t7041, A250, H⟩ := Option.bind_eq_some_iff.mp H
                  have A25 := Aside0.mk A250
                  clear A250
                  (try dsimp only at H)
                  obtain ⟨t7044, A260, H⟩ := Option.bind_eq_some_iff.mp H
                  have A26 := Aside0.mk A260
                  clear A260
                  (try dsimp only at H)
                  obtain ⟨t7047, A270, H⟩ := Option.bind_eq_some_iff.mp H
                  have A27 := Aside0.mk A270
                  clear A270
                  (try dsimp only at H)
                  by_cases c28 : t7040 = t7047
                  · rw [if_pos c28] at H
                    have c28b0 : (t7040 == t7047) = true := beq_iff_eq.mpr c28
                    have c28b1 : (t7040 != t7047) = false := bne_eq_false_iff_eq.mpr c28
                    clear c28
                    obtain ⟨t7048, A290, H⟩ := Option.bind_eq_some_iff.mp H
                    have A29 := Aside0.mk A290
                    clear A290
                    (try dsimp only at H)
                    obtain ⟨t7049, A300, H⟩ := Option.bind_eq_some_iff.mp H
                    have A30 := Aside0.mk A300
                    clear A300
                    (try dsimp only at H)
                    obtain ⟨t7052, A310, H⟩ := Option.bind_eq_some_iff.mp H
                    have A31 := Aside0.mk A310
                    clear A310
                    (try dsimp only at H)
                    obtain rfl := Option.some.inj H
                    go_enter Try.func7, Try.ntmps7
                    try go_wp2_with (first | ((with_reducible refine gate_dst (N := 2) rfl ?_); (try (refine gate_guard (by rfl) ?_; dsimp only)); refine kx 2 #[.int .u64 a0_0, .int .u64 a0_1] 24 ?_; intro gb7001 hg w32 hbox hb; have BK7001 := Aside0.mk (hbox); have GW7001 := kg HB hg; have GE7001 := kg HB hg; replace HB := kh HB hb; clear hb hbox hg) | ((with_reducible refine gate_dst (N := 3) rfl ?_); (try (refine gate_guard (by rfl) ?_; dsimp only)); refine kx 3 #[.int .u64 a1_0, .int .u64 a1_1] 24 ?_; intro gb7002 hg w33 hbox hb; have BK7002 := Aside0.mk (hbox); have GW7002 := kg HB hg; have GE7002 := kg HB hg; have NB7001_7002 := kn BK7001 hg; have NB7002_7001 := km BK7001 hg; replace BK7001 := kb BK7001 hb; replace HB := kh HB hb; clear hb hbox hg) | ((with_reducible refine gate_callee (f := 11) rfl ?_); refine kc (some 15) Try.func11 #[] (flyballlaw01_works.calls k  true _ A3.out) ?_; intro w34 hb; replace BK7001 := kb BK7001 hb; replace BK7002 := kb BK7002 hb; replace HB := kh HB hb; (try clear hb); have hnb35 := NB7001_7002.out; have hnc35 := NB7002_7001.out; have hcz36_0 : w34.cell? ⟨gb7001, 0, none⟩ = some (.int .u64 a0_0) := bc BK7001 0; have hcz36_1 : w34.cell? ⟨gb7001, 1, none⟩ = some (.int .u64 a0_1) := bc BK7001 1; have hfz36_0 := blk_frozen BK7001.out 0; have hfz36_1 := blk_frozen BK7001.out 1; have hcz37_0 : w34.cell? ⟨gb7002, 0, none⟩ = some (.int .u64 a1_0) := bc BK7002 0; have hcz37_1 : w34.cell? ⟨gb7002, 1, none⟩ = some (.int .u64 a1_1) := bc BK7002 1; have hfz37_0 := blk_frozen BK7002.out 0; have hfz37_1 := blk_frozen BK7002.out 1) | ((with_reducible refine gate_callee (f := 21) rfl ?_); refine kc (some 21) Try.func21 #[.agg #[.int .u64 a0_0, .int .u64 a0_1], .agg #[.int .u64 a1_0, .int .u64 a1_1]] (wide_U128_Add.calls a0_0 a0_1 a1_0 a1_1 t7004 t7005 t7006 _ A5.out) ?_; intro w38 hb; replace BK7001 := kb BK7001 hb; replace BK7002 := kb BK7002 hb; replace HB := kh HB hb; (try clear hb)) | ((with_reducible refine gate_dst (N := 6) rfl ?_); (try (refine gate_guard (by rfl) ?_; dsimp only)); refine kx 6 #[.int .u64 0, .int .u64 0] 24 ?_; intro gb7007 hg w39 hbox hb; have BK7007 := Aside0.mk (hbox); have GW7007 := kg HB hg; have GE7007 := kg HB hg; have NB7001_7007 := kn BK7001 hg; have NB7007_7001 := km BK7001 hg; have NB7002_7007 := kn BK7002 hg; have NB7007_7002 := km BK7002 hg; replace BK7001 := kb BK7001 hb; replace BK7002 := kb BK7002 hb; replace HB := kh HB hb; clear hb hbox hg; have hnb40 := NB7007_7001.out; have hnc40 := NB7001_7007.out; have hnb41 := NB7007_7002.out; have hnc41 := NB7002_7007.out; have hcz42_0 : w39.cell? ⟨gb7007, 0, none⟩ = some (.int .u64 0) := bc BK7007 0; have hcz42_1 : w39.cell? ⟨gb7007, 1, none⟩ = some (.int .u64 0) := bc BK7007 1; have hfz42_0 := blk_frozen BK7007.out 0; have hfz42_1 := blk_frozen BK7007.out 1; have hcz43_0 : w39.cell? ⟨gb7001, 0, none⟩ = some (.int .u64 a0_0) := bc BK7001 0; have hcz43_1 : w39.cell? ⟨gb7001, 1, none⟩ = some (.int .u64 a0_1) := bc BK7001 1; have hfz43_0 := blk_frozen BK7001.out 0; have hfz43_1 := blk_frozen BK7001.out 1; have hcz44_0 : w39.cell? ⟨gb7002, 0, none⟩ = some (.int .u64 a1_0) := bc BK7002 0; have hcz44_1 : w39.cell? ⟨gb7002, 1, none⟩ = some (.int .u64 a1_1) := bc BK7002 1; have hfz44_0 := blk_frozen BK7002.out 0; have hfz44_1 := blk_frozen BK7002.out 1) | ((with_reducible refine gate_callee (f := 22) rfl ?_); refine kc (some 27) Try.func22 #[.agg #[.int .u64 a0_0, .int .u64 a0_1], .agg #[.int .u64 a1_0, .int .u64 a1_1]] (wide_U128_Sub.calls a0_0 a0_1 a1_0 a1_1 t7008 t7009 t7010 _ A6.out) ?_; intro w45 hb; replace BK7001 := kb BK7001 hb; replace BK7002 := kb BK7002 hb; replace BK7007 := kb (o' := .cells #[.int .u64 t7004, .int .u64 t7005] 24 (0, 0)) BK7007 hb; replace HB := kh HB hb; (try clear hb)) | ((with_reducible refine gate_dst (N := 8) rfl ?_); (try (refine gate_guard (by rfl) ?_; dsimp only)); refine kx 8 #[.int .u64 0, .int .u64 0] 24 ?_; intro gb7011 hg w46 hbox hb; have BK7011 := Aside0.mk (hbox); have GW7011 := kg HB hg; have GE7011 := kg HB hg; have NB7001_7011 := kn BK7001 hg; have NB7011_7001 := km BK7001 hg; have NB7002_7011 := kn BK7002 hg; have NB7011_7002 := km BK7002 hg; have NB7007_7011 := kn BK7007 hg; have NB7011_7007 := km BK7007 hg; replace BK7001 := kb BK7001 hb; replace BK7002 := kb BK7002 hb; replace BK7007 := kb BK7007 hb; replace HB := kh HB hb; clear hb hbox hg; have hnb47 := NB7011_7001.out; have hnc47 := NB7001_7011.out; have hnb48 := NB7011_7002.out; have hnc48 := NB7002_7011.out; have hnb49 := NB7011_7007.out; have hnc49 := NB7007_7011.out; have hcz50_0 : w46.cell? ⟨gb7011, 0, none⟩ = some (.int .u64 0) := bc BK7011 0; have hcz50_1 : w46.cell? ⟨gb7011, 1, none⟩ = some (.int .u64 0) := bc BK7011 1; have hfz50_0 := blk_frozen BK7011.out 0; have hfz50_1 := blk_frozen BK7011.out 1))
                    generalize hW_ : ((w46.setCell ⟨gb7011, 0, none⟩ (.int .u64 t7008)).setCell ⟨gb7011, 1, none⟩ (.int .u64 t7009)) = w51
                    replace BK7001 := kr BK7001 hW_
                    replace BK7002 := kr BK7002 hW_
                    replace BK7007 := kr BK7007 hW_
                    replace BK7011 := kr (o' := .cells #[.int .u64 t7008, .int .u64 t7009] 24 (0, 0)) BK7011 hW_
                    replace HB := kq HB hW_
                    clear hW_
                    replace BK7001 := Aside0.mk (blk_drew BK7001.out)
                    replace BK7002 := Aside0.mk (blk_drew BK7002.out)
                    replace BK7007 := Aside0.mk (blk_drew BK7007.out)
                    replace BK7011 := Aside0.mk (blk_drew BK7011.out)
                    replace HB := Aside0.mk (below_drew1 HB.out)
                    refine start_ (n := 6) (S := fun w' => w'.cell? ⟨gb7001, 0, none⟩ = some (.int .u64 a0_0) ∧ w'.cell? ⟨gb7001, 1, none⟩ = some (.int .u64 a0_1) ∧ w'.cell? ⟨gb7002, 0, none⟩ = some (.int .u64 a1_0) ∧ w'.cell? ⟨gb7002, 1, none⟩ = some (.int .u64 a1_1)) (ds := []) #[false, false, false, false, false, false] (by kernel_rfl) rfl rfl ⟨bc BK7001 0, bc BK7001 1, bc BK7002 0, bc BK7002 1⟩ (fun hHeld => ?_)
                    generalize w51.drew = w52 at BK7001 BK7002 BK7007 BK7011 HB hHeld ⊢
                    refine tak 0 (some 30) #[true, false, false, false, false, false] (by kernel_rfl) hHeld ?_
                    refine tak 2 (some 32) #[true, false, true, false, false, false] (by kernel_rfl) hHeld ?_
                    refine one_ (i := 1) (N := some 31) #[true, true, true, false, false, false] rfl rfl (by kernel_rfl) (by decide) (fun K hK => ?_)
                    refine goes_ Try.func15 (by kernel_rfl) rfl #[.agg #[.int .u64 a0_0, .int .u64 a0_1]] (by rfl) rfl rfl pa ?_
                    with_reducible refine (flyballlaw01_of.calls k a0_0 a0_1 t7012 _ A7.out).mono ?_
                    rintro e w53 ⟨v7013, rfl, ho0, hb⟩
                    refine ⟨_, rfl, ?_⟩
                    have HO7014 := Aside0.mk (Kd.R_lower ho0 (below_size (pl HB)))
                    replace BK7001 := kb BK7001 hb
                    replace BK7002 := kb BK7002 hb
                    replace BK7007 := kb BK7007 hb
                    replace BK7011 := kb BK7011 hb
                    replace HB := kh HB hb
                    (try clear hb)
                    (try clear ho0)
                    refine hK.out _ _ ⟨bc BK7001 0, bc BK7001 1, bc BK7002 0, bc BK7002 1⟩ (fun hHeld => ?_)
                    clear hK K
                    refine nrm (some 31) ?_
                    refine one_ (i := 3) (N := some 33) #[true, true, true, true, false, false] rfl rfl (by kernel_rfl) (by decide) (fun K hK => ?_)
                    refine goes_ Try.func15 (by kernel_rfl) rfl #[.agg #[.int .u64 a1_0, .int .u64 a1_1]] (by rfl) rfl rfl pa ?_
                    with_reducible refine (flyballlaw01_of.calls k a1_0 a1_1 t7015 _ A8.out).mono ?_
                    rintro e w54 ⟨v7016, rfl, ho0, hb⟩
                    refine ⟨_, rfl, ?_⟩
                    have n0_ := Aside0.mk (Kd.R_elder' (by (with_reducible repeat (first | apply Kd.R_alloc | apply Kd.R_drewN | apply Kd.R_drew)); exact HO7014.out) (Kd.R_base ho0) hb)
                    have n1_ := Aside0.mk (Kd.R_lower (Kd.R_new' ho0 (Kd.R_lt (by (with_reducible repeat (first | apply Kd.R_alloc | apply Kd.R_drewN | apply Kd.R_drew)); exact HO7014.out))) (below_size (pl HB)))
                    (first | have n2_ := flyballlaw01_WideAdds.kb0 BK7001 hb | have n2_ := flyballlaw01_WideAdds.kb1 BK7001 hb | have n2_ := flyballlaw01_WideAdds.kb2 BK7001 hb | have n2_ := kb BK7001 hb)
                    (first | have n3_ := flyballlaw01_WideAdds.kb0 BK7002 hb | have n3_ := flyballlaw01_WideAdds.kb1 BK7002 hb | have n3_ := flyballlaw01_WideAdds.kb2 BK7002 hb | have n3_ := kb BK7002 hb)
                    (first | have n4_ := flyballlaw01_WideAdds.kb0 BK7007 hb | have n4_ := flyballlaw01_WideAdds.kb1 BK7007 hb | have n4_ := flyballlaw01_WideAdds.kb2 BK7007 hb | have n4_ := kb BK7007 hb)
                    (first | have n5_ := flyballlaw01_WideAdds.kb0 BK7011 hb | have n5_ := flyballlaw01_WideAdds.kb1 BK7011 hb | have n5_ := flyballlaw01_WideAdds.kb2 BK7011 hb | have n5_ := kb BK7011 hb)
                    have n6_ := kh HB hb
                    clear HO7014
                    clear BK7001
                    clear BK7002
                    clear BK7007
                    clear BK7011
                    clear HB
                    have HO7014 := n0_
                    have HO7017 := n1_
                    have BK7001 := n2_
                    have BK7002 := n3_
                    have BK7007 := n4_
                    have BK7011 := n5_
                    have HB := n6_
                    clear n0_ n1_ n2_ n3_ n4_ n5_ n6_
                    (try clear hb)
                    (try clear ho0)
                    obtain ⟨Ao55, co55, eo55⟩ := Kd.R_slice HO7014.out
                    (first | subst eo55 | (injection eo55 with f1_ f2_ f3_; have f4_ := f1_.symm; have f5_ := f3_.symm; clear f1_ f2_ f3_; subst f4_; subst f5_))
                    obtain ⟨Ao56, co56, eo56⟩ := Kd.R_slice HO7017.out
                    (first | subst eo56 | (injection eo56 with f1_ f2_ f3_; have f4_ := f1_.symm; have f5_ := f3_.symm; clear f1_ f2_ f3_; subst f4_; subst f5_))
                    refine hK.out _ _ ⟨bc BK7001 0, bc BK7001 1, bc BK7002 0, bc BK7002 1⟩ (fun hHeld => ?_)
                    clear hK K
                    refine nrm (some 33) ?_
                    refine one_ (i := 4) (N := some 34) #[true, true, true, true, true, false] rfl rfl (by kernel_rfl) (by decide) (fun K hK => ?_)
                    refine goes_ Try.func31 (by kernel_rfl) rfl #[.slice Ao55 t7012.length co55, .slice Ao56 t7015.length co56] (by rfl) rfl rfl pa ?_
                    with_reducible refine (flyballref01_Add.calls k _ _ t7012 _ _ t7015 t7018 _ ?side1 ?side2 ?side3 ?side4 A9.out).mono ?_
                    (case side1 => repeat (first | exact (Kd.R_reads' HO7014.out).2.2 | (with_reducible refine Kd.C_alloc ?_ _) | (with_reducible refine Kd.C_drewN ?_ _) | (with_reducible refine Kd.C_drew ?_)))
                    (case side2 => exact (Kd.R_reads' HO7014.out).2.1)
                    (case side3 => repeat (first | exact (Kd.R_reads' HO7017.out).2.2 | (with_reducible refine Kd.C_alloc ?_ _) | (with_reducible refine Kd.C_drewN ?_ _) | (with_reducible refine Kd.C_drew ?_)))
                    (case side4 => exact (Kd.R_reads' HO7017.out).2.1)
                    rintro e w57 ⟨v7019, rfl, ho0, hb⟩
                    refine ⟨_, rfl, ?_⟩
                    have n0_ := Aside0.mk (Kd.R_elder' (by (with_reducible repeat (first | apply Kd.R_alloc | apply Kd.R_drewN | apply Kd.R_drew)); exact HO7014.out) (Kd.R_base ho0) hb)
                    have n1_ := Aside0.mk (Kd.R_elder' (by (with_reducible repeat (first | apply Kd.R_alloc | apply Kd.R_drewN | apply Kd.R_drew)); exact HO7017.out) (Kd.R_base ho0) hb)
                    have n2_ := Aside0.mk (Kd.R_lower (Kd.R_new' (Kd.R_new' ho0 (Kd.R_lt (by (with_reducible repeat (first | apply Kd.R_alloc | apply Kd.R_drewN | apply Kd.R_drew)); exact HO7014.out))) (Kd.R_lt (by (with_reducible repeat (first | apply Kd.R_alloc | apply Kd.R_drewN | apply Kd.R_drew)); exact HO7017.out))) (below_size (pl HB)))
                    (first | have n3_ := flyballlaw01_WideAdds.kb0 BK7001 hb | have n3_ := flyballlaw01_WideAdds.kb1 BK7001 hb | have n3_ := flyballlaw01_WideAdds.kb2 BK7001 hb | have n3_ := kb BK7001 hb)
                    (first | have n4_ := flyballlaw01_WideAdds.kb0 BK7002 hb | have n4_ := flyballlaw01_WideAdds.kb1 BK7002 hb | have n4_ := flyballlaw01_WideAdds.kb2 BK7002 hb | have n4_ := kb BK7002 hb)
                    (first | have n5_ := flyballlaw01_WideAdds.kb0 BK7007 hb | have n5_ := flyballlaw01_WideAdds.kb1 BK7007 hb | have n5_ := flyballlaw01_WideAdds.kb2 BK7007 hb | have n5_ := kb BK7007 hb)
                    (first | have n6_ := flyballlaw01_WideAdds.kb0 BK7011 hb | have n6_ := flyballlaw01_WideAdds.kb1 BK7011 hb | have n6_ := flyballlaw01_WideAdds.kb2 BK7011 hb | have n6_ := kb BK7011 hb)
                    have n7_ := kh HB hb
                    clear HO7014
                    clear HO7017
                    clear BK7001
                    clear BK7002
                    clear BK7007
                    clear BK7011
                    clear HB
                    have HO7014 := n0_
                    have HO7017 := n1_
                    have HO7020 := n2_
                    have BK7001 := n3_
                    have BK7002 := n4_
                    have BK7007 := n5_
                    have BK7011 := n6_
                    have HB := n7_
                    clear n0_ n1_ n2_ n3_ n4_ n5_ n6_ n7_
                    (try clear hb)
                    (try clear ho0)
                    refine hK.out _ _ ⟨bc BK7001 0, bc BK7001 1, bc BK7002 0, bc BK7002 1⟩ (fun hHeld => ?_)
                    clear hK K
                    refine nrm (some 34) ?_
                    refine pur 5 (some 10) #[true, true, true, true, true, true] (by kernel_rfl) ?_
                    refine done_ (by kernel_rfl) ?_
                    try go_wp2
                    replace HO7014 := Aside0.mk (Kd.R_drew HO7014.out)
                    replace HO7017 := Aside0.mk (Kd.R_drew HO7017.out)
                    replace HO7020 := Aside0.mk (Kd.R_drew HO7020.out)
                    replace BK7001 := Aside0.mk (blk_drew BK7001.out)
                    replace BK7002 := Aside0.mk (blk_drew BK7002.out)
                    replace BK7007 := Aside0.mk (blk_drew BK7007.out)
                    replace BK7011 := Aside0.mk (blk_drew BK7011.out)
                    replace HB := Aside0.mk (below_drew1 HB.out)
                    refine start_ (n := 10) (S := fun w' => w'.cell? ⟨gb7001, 0, none⟩ = some (.int .u64 a0_0) ∧ w'.cell? ⟨gb7001, 1, none⟩ = some (.int .u64 a0_1) ∧ w'.cell? ⟨gb7002, 0, none⟩ = some (.int .u64 a1_0) ∧ w'.cell? ⟨gb7002, 1, none⟩ = some (.int .u64 a1_1)) (ds := []) #[false, false, false, false, false, false, false, false, false, false] (by kernel_rfl) rfl rfl ⟨bc BK7001 0, bc BK7001 1, bc BK7002 0, bc BK7002 1⟩ (fun hHeld => ?_); refine with_tabW flyballlaw01_WideAdds.tab7 flyballlaw01_WideAdds.bits7 (fun HT_ HW_ => ?_)
                    generalize w57.drew = w58 at HO7014 HO7017 HO7020 BK7001 BK7002 BK7007 BK7011 HB hHeld ⊢
                    refine tak 0 (some 36) #[true, false, false, false, false, false, false, false, false, false] (take_ofW HT_.out HW_.out (by kernel_rfl)) hHeld ?_
                    refine tak 2 (some 38) #[true, false, true, false, false, false, false, false, false, false] (take_ofW HT_.out HW_.out (by kernel_rfl)) hHeld ?_
                    refine one_ (i := 1) (N := some 37) #[true, true, true, false, false, false, false, false, false, false] rfl rfl (one_of HT_.out (by kernel_rfl)) (by decide) (fun K hK => ?_)
                    refine goes_ Try.func15 (by kernel_rfl) rfl #[.agg #[.int .u64 a0_0, .int .u64 a0_1]] (by rfl) rfl rfl pa ?_
                    with_reducible refine (flyballlaw01_of.calls k a0_0 a0_1 t7021 _ A10.out).mono ?_
                    rintro e w59 ⟨v7022, rfl, ho0, hb⟩
                    refine ⟨_, rfl, ?_⟩
                    have n0_ := Aside0.mk (Kd.R_elder' (by (with_reducible repeat (first | apply Kd.R_alloc | apply Kd.R_drewN | apply Kd.R_drew)); exact HO7014.out) (Kd.R_base ho0) hb)
                    have n1_ := Aside0.mk (Kd.R_elder' (by (with_reducible repeat (first | apply Kd.R_alloc | apply Kd.R_drewN | apply Kd.R_drew)); exact HO7017.out) (Kd.R_base ho0) hb)
                    have n2_ := Aside0.mk (Kd.R_elder' (by (with_reducible repeat (first | apply Kd.R_alloc | apply Kd.R_drewN | apply Kd.R_drew)); exact HO7020.out) (Kd.R_base ho0) hb)
                    have n3_ := Aside0.mk (Kd.R_lower (Kd.R_new' (Kd.R_new' (Kd.R_new' ho0 (Kd.R_lt (by (with_reducible repeat (first | apply Kd.R_alloc | apply Kd.R_drewN | apply Kd.R_drew)); exact HO7014.out))) (Kd.R_lt (by (with_reducible repeat (first | apply Kd.R_alloc | apply Kd.R_drewN | apply Kd.R_drew)); exact HO7017.out))) (Kd.R_lt (by (with_reducible repeat (first | apply Kd.R_alloc | apply Kd.R_drewN | apply Kd.R_drew)); exact HO7020.out))) (below_size (pl HB)))
                    (first | have n4_ := flyballlaw01_WideAdds.kb0 BK7001 hb | have n4_ := flyballlaw01_WideAdds.kb1 BK7001 hb | have n4_ := flyballlaw01_WideAdds.kb2 BK7001 hb | have n4_ := kb BK7001 hb)
                    (first | have n5_ := flyballlaw01_WideAdds.kb0 BK7002 hb | have n5_ := flyballlaw01_WideAdds.kb1 BK7002 hb | have n5_ := flyballlaw01_WideAdds.kb2 BK7002 hb | have n5_ := kb BK7002 hb)
                    (first | have n6_ := flyballlaw01_WideAdds.kb0 BK7007 hb | have n6_ := flyballlaw01_WideAdds.kb1 BK7007 hb | have n6_ := flyballlaw01_WideAdds.kb2 BK7007 hb | have n6_ := kb BK7007 hb)
                    (first | have n7_ := flyballlaw01_WideAdds.kb0 BK7011 hb | have n7_ := flyballlaw01_WideAdds.kb1 BK7011 hb | have n7_ := flyballlaw01_WideAdds.kb2 BK7011 hb | have n7_ := kb BK7011 hb)
                    have n8_ := kh HB hb
                    clear HO7014
                    clear HO7017
                    clear HO7020
                    clear BK7001
                    clear BK7002
                    clear BK7007
                    clear BK7011
                    clear HB
                    have HO7014 := n0_
                    have HO7017 := n1_
                    have HO7020 := n2_
                    have HO7023 := n3_
                    have BK7001 := n4_
                    have BK7002 := n5_
                    have BK7007 := n6_
                    have BK7011 := n7_
                    have HB := n8_
                    clear n0_ n1_ n2_ n3_ n4_ n5_ n6_ n7_ n8_
                    (try clear hb)
                    (try clear ho0)
                    refine hK.out _ _ ⟨bc BK7001 0, bc BK7001 1, bc BK7002 0, bc BK7002 1⟩ (fun hHeld => ?_)
                    clear hK K
                    refine nrm (some 37) ?_
                    refine one_ (i := 3) (N := some 39) #[true, true, true, true, false, false, false, false, false, false] rfl rfl (one_of HT_.out (by kernel_rfl)) (by decide) (fun K hK => ?_)
                    refine goes_ Try.func15 (by kernel_rfl) rfl #[.agg #[.int .u64 a1_0, .int .u64 a1_1]] (by rfl) rfl rfl pa ?_
                    with_reducible refine (flyballlaw01_of.calls k a1_0 a1_1 t7024 _ A11.out).mono ?_
                    rintro e w60 ⟨v7025, rfl, ho0, hb⟩
                    refine ⟨_, rfl, ?_⟩
                    have n0_ := Aside0.mk (Kd.R_elder' (by (with_reducible repeat (first | apply Kd.R_alloc | apply Kd.R_drewN | apply Kd.R_drew)); exact HO7014.out) (Kd.R_base ho0) hb)
                    have n1_ := Aside0.mk (Kd.R_elder' (by (with_reducible repeat (first | apply Kd.R_alloc | apply Kd.R_drewN | apply Kd.R_drew)); exact HO7017.out) (Kd.R_base ho0) hb)
                    have n2_ := Aside0.mk (Kd.R_elder' (by (with_reducible repeat (first | apply Kd.R_alloc | apply Kd.R_drewN | apply Kd.R_drew)); exact HO7020.out) (Kd.R_base ho0) hb)
                    have n3_ := Aside0.mk (Kd.R_elder' (by (with_reducible repeat (first | apply Kd.R_alloc | apply Kd.R_drewN | apply Kd.R_drew)); exact HO7023.out) (Kd.R_base ho0) hb)
                    have n4_ := Aside0.mk (Kd.R_lower (Kd.R_new' (Kd.R_new' (Kd.R_new' (Kd.R_new' ho0 (Kd.R_lt (by (with_reducible repeat (first | apply Kd.R_alloc | apply Kd.R_drewN | apply Kd.R_drew)); exact HO7014.out))) (Kd.R_lt (by (with_reducible repeat (first | apply Kd.R_alloc | apply Kd.R_drewN | apply Kd.R_drew)); exact HO7017.out))) (Kd.R_lt (by (with_reducible repeat (first | apply Kd.R_alloc | apply Kd.R_drewN | apply Kd.R_drew)); exact HO7020.out))) (Kd.R_lt (by (with_reducible repeat (first | apply Kd.R_alloc | apply Kd.R_drewN | apply Kd.R_drew)); exact HO7023.out))) (below_size (pl HB)))
                    (first | have n5_ := flyballlaw01_WideAdds.kb0 BK7001 hb | have n5_ := flyballlaw01_WideAdds.kb1 BK7001 hb | have n5_ := flyballlaw01_WideAdds.kb2 BK7001 hb | have n5_ := kb BK7001 hb)
                    (first | have n6_ := flyballlaw01_WideAdds.kb0 BK7002 hb | have n6_ := flyballlaw01_WideAdds.kb1 BK7002 hb | have n6_ := flyballlaw01_WideAdds.kb2 BK7002 hb | have n6_ := kb BK7002 hb)
                    (first | have n7_ := flyballlaw01_WideAdds.kb0 BK7007 hb | have n7_ := flyballlaw01_WideAdds.kb1 BK7007 hb | have n7_ := flyballlaw01_WideAdds.kb2 BK7007 hb | have n7_ := kb BK7007 hb)
                    (first | have n8_ := flyballlaw01_WideAdds.kb0 BK7011 hb | have n8_ := flyballlaw01_WideAdds.kb1 BK7011 hb | have n8_ := flyballlaw01_WideAdds.kb2 BK7011 hb | have n8_ := kb BK7011 hb)
                    have n9_ := kh HB hb
                    clear HO7014
                    clear HO7017
                    clear HO7020
                    clear HO7023
                    clear BK7001
                    clear BK7002
                    clear BK7007
                    clear BK7011
                    clear HB
                    have HO7014 := n0_
                    have HO7017 := n1_
                    have HO7020 := n2_
                    have HO7023 := n3_
                    have HO7026 := n4_
                    have BK7001 := n5_
                    have BK7002 := n6_
                    have BK7007 := n7_
                    have BK7011 := n8_
                    have HB := n9_
                    clear n0_ n1_ n2_ n3_ n4_ n5_ n6_ n7_ n8_ n9_
                    (try clear hb)
                    (try clear ho0)
                    obtain ⟨Ao61, co61, eo61⟩ := Kd.R_slice HO7023.out
                    (first | subst eo61 | (injection eo61 with f1_ f2_ f3_; have f4_ := f1_.symm; have f5_ := f3_.symm; clear f1_ f2_ f3_; subst f4_; subst f5_))
                    obtain ⟨Ao62, co62, eo62⟩ := Kd.R_slice HO7026.out
                    (first | subst eo62 | (injection eo62 with f1_ f2_ f3_; have f4_ := f1_.symm; have f5_ := f3_.symm; clear f1_ f2_ f3_; subst f4_; subst f5_))
                    refine hK.out _ _ ⟨bc BK7001 0, bc BK7001 1, bc BK7002 0, bc BK7002 1⟩ (fun hHeld => ?_)
                    clear hK K
                    refine nrm (some 39) ?_
                    refine one_ (i := 4) (N := some 40) #[true, true, true, true, true, false, false, false, false, false] rfl rfl (one_of HT_.out (by kernel_rfl)) (by decide) (fun K hK => ?_)
                    refine goes_ Try.func32 (by kernel_rfl) rfl #[.slice Ao61 t7021.length co61, .slice Ao62 t7024.length co62, .int .i64 128] (by rfl) rfl rfl pa ?_
                    with_reducible refine (flyballref01_Sub.calls k _ _ t7021 _ _ t7024 128 t7027 t7028 _ ?side1 ?side2 ?side3 ?side4 A12.out).mono ?_
                    (case side1 => repeat (first | exact (Kd.R_reads' HO7023.out).2.2 | (with_reducible refine Kd.C_alloc ?_ _) | (with_reducible refine Kd.C_drewN ?_ _) | (with_reducible refine Kd.C_drew ?_)))
                    (case side2 => exact (Kd.R_reads' HO7023.out).2.1)
                    (case side3 => repeat (first | exact (Kd.R_reads' HO7026.out).2.2 | (with_reducible refine Kd.C_alloc ?_ _) | (with_reducible refine Kd.C_drewN ?_ _) | (with_reducible refine Kd.C_drew ?_)))
                    (case side4 => exact (Kd.R_reads' HO7026.out).2.1)
                    rintro e w63 ⟨v7029, rfl, ho0, hb⟩
                    refine ⟨_, rfl, ?_⟩
                    have n0_ := Aside0.mk (Kd.R_elder' (by (with_reducible repeat (first | apply Kd.R_alloc | apply Kd.R_drewN | apply Kd.R_drew)); exact HO7014.out) (Kd.R_base ho0) hb)
                    have n1_ := Aside0.mk (Kd.R_elder' (by (with_reducible repeat (first | apply Kd.R_alloc | apply Kd.R_drewN | apply Kd.R_drew)); exact HO7017.out) (Kd.R_base ho0) hb)
                    have n2_ := Aside0.mk (Kd.R_elder' (by (with_reducible repeat (first | apply Kd.R_alloc | apply Kd.R_drewN | apply Kd.R_drew)); exact HO7020.out) (Kd.R_base ho0) hb)
                    have n3_ := Aside0.mk (Kd.R_elder' (by (with_reducible repeat (first | apply Kd.R_alloc | apply Kd.R_drewN | apply Kd.R_drew)); exact HO7023.out) (Kd.R_base ho0) hb)
                    have n4_ := Aside0.mk (Kd.R_elder' (by (with_reducible repeat (first | apply Kd.R_alloc | apply Kd.R_drewN | apply Kd.R_drew)); exact HO7026.out) (Kd.R_base ho0) hb)
                    have n5_ := Aside0.mk (Kd.R_lower (Kd.R_new' (Kd.R_new' (Kd.R_new' (Kd.R_new' (Kd.R_new' ho0 (Kd.R_lt (by (with_reducible repeat (first | apply Kd.R_alloc | apply Kd.R_drewN | apply Kd.R_drew)); exact HO7014.out))) (Kd.R_lt (by (with_reducible repeat (first | apply Kd.R_alloc | apply Kd.R_drewN | apply Kd.R_drew)); exact HO7017.out))) (Kd.R_lt (by (with_reducible repeat (first | apply Kd.R_alloc | apply Kd.R_drewN | apply Kd.R_drew)); exact HO7020.out))) (Kd.R_lt (by (with_reducible repeat (first | apply Kd.R_alloc | apply Kd.R_drewN | apply Kd.R_drew)); exact HO7023.out))) (Kd.R_lt (by (with_reducible repeat (first | apply Kd.R_alloc | apply Kd.R_drewN | apply Kd.R_drew)); exact HO7026.out))) (below_size (pl HB)))
                    (first | have n6_ := flyballlaw01_WideAdds.kb0 BK7001 hb | have n6_ := flyballlaw01_WideAdds.kb1 BK7001 hb | have n6_ := flyballlaw01_WideAdds.kb2 BK7001 hb | have n6_ := kb BK7001 hb)
                    (first | have n7_ := flyballlaw01_WideAdds.kb0 BK7002 hb | have n7_ := flyballlaw01_WideAdds.kb1 BK7002 hb | have n7_ := flyballlaw01_WideAdds.kb2 BK7002 hb | have n7_ := kb BK7002 hb)
                    (first | have n8_ := flyballlaw01_WideAdds.kb0 BK7007 hb | have n8_ := flyballlaw01_WideAdds.kb1 BK7007 hb | have n8_ := flyballlaw01_WideAdds.kb2 BK7007 hb | have n8_ := kb BK7007 hb)
                    (first | have n9_ := flyballlaw01_WideAdds.kb0 BK7011 hb | have n9_ := flyballlaw01_WideAdds.kb1 BK7011 hb | have n9_ := flyballlaw01_WideAdds.kb2 BK7011 hb | have n9_ := kb BK7011 hb)
                    have n10_ := kh HB hb
                    clear HO7014
                    clear HO7017
                    clear HO7020
                    clear HO7023
                    clear HO7026
                    clear BK7001
                    clear BK7002
                    clear BK7007
                    clear BK7011
                    clear HB
                    have HO7014 := n0_
                    have HO7017 := n1_
                    have HO7020 := n2_
                    have HO7023 := n3_
                    have HO7026 := n4_
                    have HO7030 := n5_
                    have BK7001 := n6_
                    have BK7002 := n7_
                    have BK7007 := n8_
                    have BK7011 := n9_
                    have HB := n10_
                    clear n0_ n1_ n2_ n3_ n4_ n5_ n6_ n7_ n8_ n9_ n10_
                    (try clear hb)
                    (try clear ho0)
                    refine hK.out _ _ ⟨bc BK7001 0, bc BK7001 1, bc BK7002 0, bc BK7002 1⟩ (fun hHeld => ?_)
                    clear hK K
                    refine nrm (some 40) ?_
                    refine pur 5 (some 35) #[true, true, true, true, true, true, false, false, false, false] (any_of HT_.out (by kernel_rfl)) ?_
                    refine pur 6 (some 41) #[true, true, true, true, true, true, true, false, false, false] (any_of HT_.out (by kernel_rfl)) ?_
                    refine pur 7 (some 42) #[true, true, true, true, true, true, true, true, false, false] (any_of HT_.out (by kernel_rfl)) ?_
                    refine pur 8 (some 11) #[true, true, true, true, true, true, true, true, true, false] (any_of HT_.out (by kernel_rfl)) ?_
                    refine pur 9 (some 12) #[true, true, true, true, true, true, true, true, true, true] (any_of HT_.out (by kernel_rfl)) ?_
                    refine done_ (done_of HT_.out (by kernel_rfl)) ?_
                    try go_wp2
                    replace HO7014 := Aside0.mk (Kd.R_drew HO7014.out)
                    replace HO7017 := Aside0.mk (Kd.R_drew HO7017.out)
                    replace HO7020 := Aside0.mk (Kd.R_drew HO7020.out)
                    replace HO7023 := Aside0.mk (Kd.R_drew HO7023.out)
                    replace HO7026 := Aside0.mk (Kd.R_drew HO7026.out)
                    replace HO7030 := Aside0.mk (Kd.R_drew HO7030.out)
                    replace BK7001 := Aside0.mk (blk_drew BK7001.out)
                    replace BK7002 := Aside0.mk (blk_drew BK7002.out)
                    replace BK7007 := Aside0.mk (blk_drew BK7007.out)
                    replace BK7011 := Aside0.mk (blk_drew BK7011.out)
                    replace HB := Aside0.mk (below_drew1 HB.out)
                    obtain ⟨Ao66, co66, eo66⟩ := Kd.R_slice HO7020.out
                    (first | subst eo66 | (injection eo66 with f1_ f2_ f3_; have f4_ := f1_.symm; have f5_ := f3_.symm; clear f1_ f2_ f3_; subst f4_; subst f5_))
                    have q65 : (128 : Int) ≤ ((t7018.length : Int) : Int) := of_decide_eq_true (by first | (with_reducible assumption) | assumption)
                    obtain ⟨i065, hi065, _, hsz65, _⟩ := info_parts info4
                    have hroom65 : t7018.length ≤ co66 := (Kd.R_reads' HO7020.out).2.1
                    have hC65 : Kd.C Kd.bool _ Ao66 t7018.length t7018 := (Kd.R_reads' HO7020.out).2.2
                    have hcut65 := cut_to (P := Try.prog) 32 4 .i64 Try.underlying32 hi065 Ao66 t7018.length co66 128 (by omega) q65 hroom65
                    have hr65 := Kd.C_take (m := 128) hC65 (by omega)
                    have hy65 : y7031.length = (128 : Int).toNat := (by rw [Ny7031.out, List.length_take]; omega)
                    rw [← Ny7031.out] at hr65
                    rw [← hy65] at hcut65
                    have HR7034 := Aside0.mk hr65
                    have HC7034 := Aside0.mk (show y7031.length ≤ co66 from by omega)
                    clear hr65 hC65 hroom65 hi065 hsz65
                    have KY65 := Aside0.mk hy65
                    clear hy65
                    have KL65 := Aside0.mk (show 128 ≤ t7018.length from by omega)
                    replace q65 := eq_true q65
                    refine start_ (n := 5) (S := fun w' => w'.cell? ⟨gb7007, 0, none⟩ = some (.int .u64 t7004) ∧ w'.cell? ⟨gb7007, 1, none⟩ = some (.int .u64 t7005)) (ds := []) #[false, false, false, false, false] (by kernel_rfl) rfl rfl ⟨bc BK7007 0, bc BK7007 1⟩ (fun hHeld => ?_)
                    generalize w63.drew = w64 at HO7014 HO7017 HO7020 HO7023 HO7026 HO7030 BK7001 BK7002 BK7007 BK7011 HB HR7034 hHeld ⊢
                    refine pur 1 (some 44) #[false, true, false, false, false] (by kernel_rfl) ?_
                    refine pur 2 (some 45) #[false, true, true, false, false] (by kernel_rfl) ?_
                    refine tak 0 (some 43) #[true, true, true, false, false] (by kernel_rfl) hHeld ?_
                    refine one_ (i := 3) (N := some 46) #[true, true, true, true, false] rfl rfl (by kernel_rfl) (by decide) (fun K hK => ?_)
                    refine goes_ Try.func17 (by kernel_rfl) rfl #[.agg #[.int .u64 t7004, .int .u64 t7005], .slice Ao66 y7031.length co66] (by rfl) rfl rfl pa ?_
                    with_reducible refine (flyballlaw01_is.calls k t7004 t7005 _ _ y7031 true _ ?side1 ?side2 A14.out).mono ?_
                    (case side1 => repeat (first | exact (by repeat (first | (with_reducible exact HR7034.out) | (with_reducible refine Kd.C_alloc ?_ _) | (with_reducible refine Kd.C_drewN ?_ _) | (with_reducible refine Kd.C_drew ?_) | exact HR7034.out)) | (with_reducible refine Kd.C_alloc ?_ _) | (with_reducible refine Kd.C_drewN ?_ _) | (with_reducible refine Kd.C_drew ?_)))
                    (case side2 => exact HC7034.out)
                    rintro e w67 ⟨rfl, hb⟩
                    refine ⟨_, rfl, ?_⟩
                    have n0_ := Aside0.mk (Kd.R_below (by (with_reducible repeat (first | apply Kd.R_alloc | apply Kd.R_drewN | apply Kd.R_drew)); exact HO7014.out) hb)
                    have n1_ := Aside0.mk (Kd.R_below (by (with_reducible repeat (first | apply Kd.R_alloc | apply Kd.R_drewN | apply Kd.R_drew)); exact HO7017.out) hb)
                    have n2_ := Aside0.mk (Kd.R_below (by (with_reducible repeat (first | apply Kd.R_alloc | apply Kd.R_drewN | apply Kd.R_drew)); exact HO7020.out) hb)
                    have n3_ := Aside0.mk (Kd.R_below (by (with_reducible repeat (first | apply Kd.R_alloc | apply Kd.R_drewN | apply Kd.R_drew)); exact HO7023.out) hb)
                    have n4_ := Aside0.mk (Kd.R_below (by (with_reducible repeat (first | apply Kd.R_alloc | apply Kd.R_drewN | apply Kd.R_drew)); exact HO7026.out) hb)
                    have n5_ := Aside0.mk (Kd.R_below (by (with_reducible repeat (first | apply Kd.R_alloc | apply Kd.R_drewN | apply Kd.R_drew)); exact HO7030.out) hb)
                    (first | have n6_ := flyballlaw01_WideAdds.kb0 BK7001 hb | have n6_ := flyballlaw01_WideAdds.kb1 BK7001 hb | have n6_ := flyballlaw01_WideAdds.kb2 BK7001 hb | have n6_ := kb BK7001 hb)
                    (first | have n7_ := flyballlaw01_WideAdds.kb0 BK7002 hb | have n7_ := flyballlaw01_WideAdds.kb1 BK7002 hb | have n7_ := flyballlaw01_WideAdds.kb2 BK7002 hb | have n7_ := kb BK7002 hb)
                    (first | have n8_ := flyballlaw01_WideAdds.kb0 BK7007 hb | have n8_ := flyballlaw01_WideAdds.kb1 BK7007 hb | have n8_ := flyballlaw01_WideAdds.kb2 BK7007 hb | have n8_ := kb BK7007 hb)
                    (first | have n9_ := flyballlaw01_WideAdds.kb0 BK7011 hb | have n9_ := flyballlaw01_WideAdds.kb1 BK7011 hb | have n9_ := flyballlaw01_WideAdds.kb2 BK7011 hb | have n9_ := kb BK7011 hb)
                    (first | (with_reducible have n10_ := Aside0.mk (Kd.C_below HR7034.out hb)) | (with_reducible have n10_ := Aside0.mk (Kd.C_below (Kd.C_drewN HR7034.out _) hb)) | (with_reducible have n10_ := Aside0.mk (Kd.C_below (Kd.C_drewN (Kd.C_drewN HR7034.out _) _) hb)))
                    have n11_ := kh HB hb
                    clear HO7014
                    clear HO7017
                    clear HO7020
                    clear HO7023
                    clear HO7026
                    clear HO7030
                    clear BK7001
                    clear BK7002
                    clear BK7007
                    clear BK7011
                    clear HR7034
                    clear HB
                    have HO7014 := n0_
                    have HO7017 := n1_
                    have HO7020 := n2_
                    have HO7023 := n3_
                    have HO7026 := n4_
                    have HO7030 := n5_
                    have BK7001 := n6_
                    have BK7002 := n7_
                    have BK7007 := n8_
                    have BK7011 := n9_
                    have HR7034 := n10_
                    have HB := n11_
                    clear n0_ n1_ n2_ n3_ n4_ n5_ n6_ n7_ n8_ n9_ n10_ n11_
                    (try clear hb)
                    refine hK.out _ _ ⟨bc BK7007 0, bc BK7007 1⟩ (fun hHeld => ?_)
                    clear hK K
                    refine nrm (some 46) ?_
                    refine pur 4 (some 13) #[true, true, true, true, true] (by kernel_rfl) ?_
                    refine done_ (by kernel_rfl) ?_
                    have hcz68_0 : w67.cell? ⟨gb7011, 0, none⟩ = some (.int .u64 t7008) := bc BK7011 0
                    have hcz68_1 : w67.cell? ⟨gb7011, 1, none⟩ = some (.int .u64 t7009) := bc BK7011 1
                    have hfz68_0 := blk_frozen BK7011.out 0
                    have hfz68_1 := blk_frozen BK7011.out 1
                    obtain ⟨Ao69, co69, eo69⟩ := Kd.R_slice HO7030.out
                    subst eo69
                    try go_wp2_with (first | ((with_reducible refine gate_callee (f := 17) rfl ?_); refine goesL_ (some 49) rfl rfl Try.func17 (by kernel_rfl) rfl #[.agg #[.int .u64 t7008, .int .u64 t7009], .slice Ao69 t7027.length co69] rfl pa ?_; (with_reducible refine (flyballlaw01_is.calls k t7008 t7009 _ _ t7027 true _ ?side1 ?side2 A15.out).mono ?_); (case side1 => repeat (first | exact (Kd.R_reads' HO7030.out).2.2 | (with_reducible refine Kd.C_alloc ?_ _) | (with_reducible refine Kd.C_drewN ?_ _) | (with_reducible refine Kd.C_drew ?_))); (case side2 => exact (Kd.R_reads' HO7030.out).2.1); rintro e w70 ⟨rfl, hb⟩; refine ⟨_, rfl, ?_⟩; have n0_ := Aside0.mk (Kd.R_below (by (with_reducible repeat (first | apply Kd.R_alloc | apply Kd.R_drewN | apply Kd.R_drew)); exact HO7014.out) hb); have n1_ := Aside0.mk (Kd.R_below (by (with_reducible repeat (first | apply Kd.R_alloc | apply Kd.R_drewN | apply Kd.R_drew)); exact HO7017.out) hb); have n2_ := Aside0.mk (Kd.R_below (by (with_reducible repeat (first | apply Kd.R_alloc | apply Kd.R_drewN | apply Kd.R_drew)); exact HO7020.out) hb); have n3_ := Aside0.mk (Kd.R_below (by (with_reducible repeat (first | apply Kd.R_alloc | apply Kd.R_drewN | apply Kd.R_drew)); exact HO7023.out) hb); have n4_ := Aside0.mk (Kd.R_below (by (with_reducible repeat (first | apply Kd.R_alloc | apply Kd.R_drewN | apply Kd.R_drew)); exact HO7026.out) hb); have n5_ := Aside0.mk (Kd.R_below (by (with_reducible repeat (first | apply Kd.R_alloc | apply Kd.R_drewN | apply Kd.R_drew)); exact HO7030.out) hb); (first | have n6_ := flyballlaw01_WideAdds.kb0 BK7001 hb | have n6_ := flyballlaw01_WideAdds.kb1 BK7001 hb | have n6_ := flyballlaw01_WideAdds.kb2 BK7001 hb | have n6_ := kb BK7001 hb); (first | have n7_ := flyballlaw01_WideAdds.kb0 BK7002 hb | have n7_ := flyballlaw01_WideAdds.kb1 BK7002 hb | have n7_ := flyballlaw01_WideAdds.kb2 BK7002 hb | have n7_ := kb BK7002 hb); (first | have n8_ := flyballlaw01_WideAdds.kb0 BK7007 hb | have n8_ := flyballlaw01_WideAdds.kb1 BK7007 hb | have n8_ := flyballlaw01_WideAdds.kb2 BK7007 hb | have n8_ := kb BK7007 hb); (first | have n9_ := flyballlaw01_WideAdds.kb0 BK7011 hb | have n9_ := flyballlaw01_WideAdds.kb1 BK7011 hb | have n9_ := flyballlaw01_WideAdds.kb2 BK7011 hb | have n9_ := kb BK7011 hb); (first | (with_reducible have n10_ := Aside0.mk (Kd.C_below HR7034.out hb)) | (with_reducible have n10_ := Aside0.mk (Kd.C_below (Kd.C_drewN HR7034.out _) hb)) | (with_reducible have n10_ := Aside0.mk (Kd.C_below (Kd.C_drewN (Kd.C_drewN HR7034.out _) _) hb))); have n11_ := kh HB hb; clear HO7014; clear HO7017; clear HO7020; clear HO7023; clear HO7026; clear HO7030; clear BK7001; clear BK7002; clear BK7007; clear BK7011; clear HR7034; clear HB; have HO7014 := n0_; have HO7017 := n1_; have HO7020 := n2_; have HO7023 := n3_; have HO7026 := n4_; have HO7030 := n5_; have BK7001 := n6_; have BK7002 := n7_; have BK7007 := n8_; have BK7011 := n9_; have HR7034 := n10_; have HB := n11_; clear n0_ n1_ n2_ n3_ n4_ n5_ n6_ n7_ n8_ n9_ n10_ n11_; (try clear hb)))
                    replace HO7014 := Aside0.mk (Kd.R_drew HO7014.out)
                    replace HO7017 := Aside0.mk (Kd.R_drew HO7017.out)
                    replace HO7020 := Aside0.mk (Kd.R_drew HO7020.out)
                    replace HO7023 := Aside0.mk (Kd.R_drew HO7023.out)
                    replace HO7026 := Aside0.mk (Kd.R_drew HO7026.out)
                    replace HO7030 := Aside0.mk (Kd.R_drew HO7030.out)
                    replace BK7001 := Aside0.mk (blk_drew BK7001.out)
                    replace BK7002 := Aside0.mk (blk_drew BK7002.out)
                    replace BK7007 := Aside0.mk (blk_drew BK7007.out)
                    replace BK7011 := Aside0.mk (blk_drew BK7011.out)
                    replace HR7034 := Aside0.mk (Kd.C_drew HR7034.out)
                    replace HB := Aside0.mk (below_drew1 HB.out)
                    have p7037 : 0 ≤ (128 : Int) := (by omega)
                    have q7037 : 128 < (t7018.length : Int) := of_decide_eq_true (by first | (with_reducible assumption) | assumption)
                    obtain ⟨ad7037, e7037, hx7037_0⟩ := Kd.at_bool (Kd.R_reads' HO7020.out).2.2 128 p7037 q7037
                    cases e7037
                    (try simp only [show (128 : Int).toNat = 128 from rfl, Nat.reduceMul, Nat.reduceEqDiff, Go.Addr.add, ↓reduceIte] at hx7037_0)
                    have qi7037 : (128 < t7018.length) = True := eq_true (by omega)
                    (try rw [show ((128 : Int)).toNat = 128 from rfl] at hx7037_0)
                    replace p7037 := eq_true p7037
                    replace q7037 := eq_true q7037
                    refine start_ (n := 46) (S := fun w' => w'.cell? ⟨gb7001, 0, none⟩ = some (.int .u64 a0_0) ∧ w'.cell? ⟨gb7001, 1, none⟩ = some (.int .u64 a0_1) ∧ w'.cell? ⟨gb7002, 0, none⟩ = some (.int .u64 a1_0) ∧ w'.cell? ⟨gb7002, 1, none⟩ = some (.int .u64 a1_1) ∧ w'.cell? ⟨ad7037.block, ad7037.off + 128, none⟩ = some (.bool (rdOf false t7018 128))) (ds := []) #[false, false, false, false, false, false, false, false, false, false, false, false, false, false, false, false, false, false, false, false, false, false, false, false, false, false, false, false, false, false, false, false, false, false, false, false, false, false, false, false, false, false, false, false, false, false] (by kernel_rfl) rfl rfl ⟨bc BK7001 0, bc BK7001 1, bc BK7002 0, bc BK7002 1, hx7037_0⟩ (fun hHeld => ?_); refine with_tabW flyballlaw01_WideAdds.tab10 flyballlaw01_WideAdds.bits10 (fun HT_ HW_ => ?_)
                    generalize w70.drew = w71 at HO7014 HO7017 HO7020 HO7023 HO7026 HO7030 BK7001 BK7002 BK7007 BK7011 HR7034 HB hx7037_0 hHeld ⊢
                    refine pur 0 (some 50) #[true, false, false, false, false, false, false, false, false, false, false, false, false, false, false, false, false, false, false, false, false, false, false, false, false, false, false, false, false, false, false, false, false, false, false, false, false, false, false, false, false, false, false, false, false, false] (any_of HT_.out (by kernel_rfl)) ?_
                    refine pur 1 (some 51) #[true, true, false, false, false, false, false, false, false, false, false, false, false, false, false, false, false, false, false, false, false, false, false, false, false, false, false, false, false, false, false, false, false, false, false, false, false, false, false, false, false, false, false, false, false, false] (any_of HT_.out (by kernel_rfl)) ?_
                    refine pur 2 (some 52) #[true, true, true, false, false, false, false, false, false, false, false, false, false, false, false, false, false, false, false, false, false, false, false, false, false, false, false, false, false, false, false, false, false, false, false, false, false, false, false, false, false, false, false, false, false, false] (any_of HT_.out (by kernel_rfl)) ?_
                    refine pur 3 (some 53) #[true, true, true, true, false, false, false, false, false, false, false, false, false, false, false, false, false, false, false, false, false, false, false, false, false, false, false, false, false, false, false, false, false, false, false, false, false, false, false, false, false, false, false, false, false, false] (any_of HT_.out (by kernel_rfl)) ?_
                    refine pur 4 (some 54) #[true, true, true, true, true, false, false, false, false, false, false, false, false, false, false, false, false, false, false, false, false, false, false, false, false, false, false, false, false, false, false, false, false, false, false, false, false, false, false, false, false, false, false, false, false, false] (any_of HT_.out (by kernel_rfl)) ?_
                    refine pur 5 (some 55) #[true, true, true, true, true, true, false, false, false, false, false, false, false, false, false, false, false, false, false, false, false, false, false, false, false, false, false, false, false, false, false, false, false, false, false, false, false, false, false, false, false, false, false, false, false, false] (any_of HT_.out (by kernel_rfl)) ?_
                    refine pur 6 (some 56) #[true, true, true, true, true, true, true, false, false, false, false, false, false, false, false, false, false, false, false, false, false, false, false, false, false, false, false, false, false, false, false, false, false, false, false, false, false, false, false, false, false, false, false, false, false, false] (any_of HT_.out (by kernel_rfl)) ?_
                    refine pur 7 (some 57) #[true, true, true, true, true, true, true, true, false, false, false, false, false, false, false, false, false, false, false, false, false, false, false, false, false, false, false, false, false, false, false, false, false, false, false, false, false, false, false, false, false, false, false, false, false, false] (any_of HT_.out (by kernel_rfl)) ?_
                    refine pur 8 (some 58) #[true, true, true, true, true, true, true, true, true, false, false, false, false, false, false, false, false, false, false, false, false, false, false, false, false, false, false, false, false, false, false, false, false, false, false, false, false, false, false, false, false, false, false, false, false, false] (any_of HT_.out (by kernel_rfl)) ?_
                    refine pur 9 (some 59) #[true, true, true, true, true, true, true, true, true, true, false, false, false, false, false, false, false, false, false, false, false, false, false, false, false, false, false, false, false, false, false, false, false, false, false, false, false, false, false, false, false, false, false, false, false, false] (any_of HT_.out (by kernel_rfl)) ?_
                    refine pur 10 (some 60) #[true, true, true, true, true, true, true, true, true, true, true, false, false, false, false, false, false, false, false, false, false, false, false, false, false, false, false, false, false, false, false, false, false, false, false, false, false, false, false, false, false, false, false, false, false, false] (any_of HT_.out (by kernel_rfl)) ?_
                    refine pur 11 (some 61) #[true, true, true, true, true, true, true, true, true, true, true, true, false, false, false, false, false, false, false, false, false, false, false, false, false, false, false, false, false, false, false, false, false, false, false, false, false, false, false, false, false, false, false, false, false, false] (any_of HT_.out (by kernel_rfl)) ?_
                    refine pur 12 (some 62) #[true, true, true, true, true, true, true, true, true, true, true, true, true, false, false, false, false, false, false, false, false, false, false, false, false, false, false, false, false, false, false, false, false, false, false, false, false, false, false, false, false, false, false, false, false, false] (any_of HT_.out (by kernel_rfl)) ?_
                    refine pur 13 (some 63) #[true, true, true, true, true, true, true, true, true, true, true, true, true, true, false, false, false, false, false, false, false, false, false, false, false, false, false, false, false, false, false, false, false, false, false, false, false, false, false, false, false, false, false, false, false, false] (any_of HT_.out (by kernel_rfl)) ?_
                    refine pur 14 (some 64) #[true, true, true, true, true, true, true, true, true, true, true, true, true, true, true, false, false, false, false, false, false, false, false, false, false, false, false, false, false, false, false, false, false, false, false, false, false, false, false, false, false, false, false, false, false, false] (any_of HT_.out (by kernel_rfl)) ?_
                    refine tak 15 (some 65) #[true, true, true, true, true, true, true, true, true, true, true, true, true, true, true, true, false, false, false, false, false, false, false, false, false, false, false, false, false, false, false, false, false, false, false, false, false, false, false, false, false, false, false, false, false, false] (take_ofW HT_.out HW_.out (by kernel_rfl)) hHeld ?_
                    refine pur 16 (some 66) #[true, true, true, true, true, true, true, true, true, true, true, true, true, true, true, true, true, false, false, false, false, false, false, false, false, false, false, false, false, false, false, false, false, false, false, false, false, false, false, false, false, false, false, false, false, false] (any_of HT_.out (by kernel_rfl)) ?_
                    refine one_ (i := 17) (N := some 67) #[true, true, true, true, true, true, true, true, true, true, true, true, true, true, true, true, true, true, false, false, false, false, false, false, false, false, false, false, false, false, false, false, false, false, false, false, false, false, false, false, false, false, false, false, false, false] rfl rfl (one_of HT_.out (by kernel_rfl)) (by decide) (fun K hK => ?_)
                    refine goes_ Try.func33 (by kernel_rfl) rfl #[.bool (rdOf false t7018 128)] (by rfl) rfl rfl pa ?_
                    with_reducible refine (flyballlaw01_one.calls (rdOf false t7018 128) t7038 _ A20.out).mono ?_
                    rintro e w' ⟨rfl, ⟨nd, rfl⟩⟩
                    refine ⟨_, rfl, ?_⟩
                    refine hK.out _ _ ⟨bc BK7001 0, bc BK7001 1, bc BK7002 0, bc BK7002 1, hHeld.2.2.2.2⟩ (fun hHeld => ?_)
                    clear hK K
                    refine nrm (some 67) ?_
                    refine pur 18 (some 68) #[true, true, true, true, true, true, true, true, true, true, true, true, true, true, true, true, true, true, true, false, false, false, false, false, false, false, false, false, false, false, false, false, false, false, false, false, false, false, false, false, false, false, false, false, false, false] (any_of HT_.out (by kernel_rfl)) ?_
                    refine pur 19 (some 69) #[true, true, true, true, true, true, true, true, true, true, true, true, true, true, true, true, true, true, true, true, false, false, false, false, false, false, false, false, false, false, false, false, false, false, false, false, false, false, false, false, false, false, false, false, false, false] (any_of HT_.out (by kernel_rfl)) ?_
                    refine pur 20 (some 70) #[true, true, true, true, true, true, true, true, true, true, true, true, true, true, true, true, true, true, true, true, true, false, false, false, false, false, false, false, false, false, false, false, false, false, false, false, false, false, false, false, false, false, false, false, false, false] (any_of HT_.out (by kernel_rfl)) ?_
                    refine pur 21 (some 71) #[true, true, true, true, true, true, true, true, true, true, true, true, true, true, true, true, true, true, true, true, true, true, false, false, false, false, false, false, false, false, false, false, false, false, false, false, false, false, false, false, false, false, false, false, false, false] (any_of HT_.out (by kernel_rfl)) ?_
                    refine pur 22 (some 72) #[true, true, true, true, true, true, true, true, true, true, true, true, true, true, true, true, true, true, true, true, true, true, true, false, false, false, false, false, false, false, false, false, false, false, false, false, false, false, false, false, false, false, false, false, false, false] (any_of HT_.out (by kernel_rfl)) ?_
                    refine one_ (i := 23) (N := some 73) #[true, true, true, true, true, true, true, true, true, true, true, true, true, true, true, true, true, true, true, true, true, true, true, true, false, false, false, false, false, false, false, false, false, false, false, false, false, false, false, false, false, false, false, false, false, false] rfl rfl (one_of HT_.out (by kernel_rfl)) (by decide) (fun K hK => ?_)
                    refine goes_ Try.func33 (by kernel_rfl) rfl #[.bool t7028] (by rfl) rfl rfl pa ?_
                    with_reducible refine (flyballlaw01_one.calls t7028 t7039 _ A22.out).mono ?_
                    rintro e w' ⟨rfl, ⟨nd, rfl⟩⟩
                    refine ⟨_, rfl, ?_⟩
                    refine hK.out _ _ ⟨bc BK7001 0, bc BK7001 1, bc BK7002 0, bc BK7002 1, hHeld.2.2.2.2⟩ (fun hHeld => ?_)
                    clear hK K
                    refine nrm (some 73) ?_
                    refine pur 24 (some 74) #[true, true, true, true, true, true, true, true, true, true, true, true, true, true, true, true, true, true, true, true, true, true, true, true, true, false, false, false, false, false, false, false, false, false, false, false, false, false, false, false, false, false, false, false, false, false] (any_of HT_.out (by kernel_rfl)) ?_
                    refine pur 25 (some 75) #[true, true, true, true, true, true, true, true, true, true, true, true, true, true, true, true, true, true, true, true, true, true, true, true, true, true, false, false, false, false, false, false, false, false, false, false, false, false, false, false, false, false, false, false, false, false] (any_of HT_.out (by kernel_rfl)) ?_
                    refine pur 26 (some 76) #[true, true, true, true, true, true, true, true, true, true, true, true, true, true, true, true, true, true, true, true, true, true, true, true, true, true, true, false, false, false, false, false, false, false, false, false, false, false, false, false, false, false, false, false, false, false] (any_of HT_.out (by kernel_rfl)) ?_
                    refine tak 27 (some 77) #[true, true, true, true, true, true, true, true, true, true, true, true, true, true, true, true, true, true, true, true, true, true, true, true, true, true, true, true, false, false, false, false, false, false, false, false, false, false, false, false, false, false, false, false, false, false] (take_ofW HT_.out HW_.out (by kernel_rfl)) hHeld ?_
                    refine tak 28 (some 78) #[true, true, true, true, true, true, true, true, true, true, true, true, true, true, true, true, true, true, true, true, true, true, true, true, true, true, true, true, true, false, false, false, false, false, false, false, false, false, false, false, false, false, false, false, false, false] (take_ofW HT_.out HW_.out (by kernel_rfl)) hHeld ?_
                    refine tak 30 (some 80) #[true, true, true, true, true, true, true, true, true, true, true, true, true, true, true, true, true, true, true, true, true, true, true, true, true, true, true, true, true, false, true, false, false, false, false, false, false, false, false, false, false, false, false, false, false, false] (take_ofW HT_.out HW_.out (by kernel_rfl)) hHeld ?_
                    refine tak 32 (some 82) #[true, true, true, true, true, true, true, true, true, true, true, true, true, true, true, true, true, true, true, true, true, true, true, true, true, true, true, true, true, false, true, false, true, false, false, false, false, false, false, false, false, false, false, false, false, false] (take_ofW HT_.out HW_.out (by kernel_rfl)) hHeld ?_
                    refine one_ (i := 29) (N := some 79) #[true, true, true, true, true, true, true, true, true, true, true, true, true, true, true, true, true, true, true, true, true, true, true, true, true, true, true, true, true, true, true, false, true, false, false, false, false, false, false, false, false, false, false, false, false, false] rfl rfl (one_of HT_.out (by kernel_rfl)) (by decide) (fun K hK => ?_)
                    refine goes_ Try.func34 (by kernel_rfl) rfl #[.agg #[.int .u64 a0_0, .int .u64 a0_1], .agg #[.int .u64 a1_0, .int .u64 a1_1]] (by rfl) rfl rfl pa ?_
                    with_reducible refine (wide_U128_Cmp.calls k a0_0 a0_1 a1_0 a1_1 t7040 _ A24.out).mono ?_
                    rintro e w72 ⟨rfl, hb⟩
                    have HS4_ := (hb.cell (World.block_lt_of_cell? _ _ (hHeld.2.2.2.2))).trans (hHeld.2.2.2.2)
                    refine ⟨_, rfl, ?_⟩
                    have n0_ := Aside0.mk (Kd.R_below (by (with_reducible repeat (first | apply Kd.R_alloc | apply Kd.R_drewN | apply Kd.R_drew)); exact HO7014.out) hb)
                    have n1_ := Aside0.mk (Kd.R_below (by (with_reducible repeat (first | apply Kd.R_alloc | apply Kd.R_drewN | apply Kd.R_drew)); exact HO7017.out) hb)
                    have n2_ := Aside0.mk (Kd.R_below (by (with_reducible repeat (first | apply Kd.R_alloc | apply Kd.R_drewN | apply Kd.R_drew)); exact HO7020.out) hb)
                    have n3_ := Aside0.mk (Kd.R_below (by (with_reducible repeat (first | apply Kd.R_alloc | apply Kd.R_drewN | apply Kd.R_drew)); exact HO7023.out) hb)
                    have n4_ := Aside0.mk (Kd.R_below (by (with_reducible repeat (first | apply Kd.R_alloc | apply Kd.R_drewN | apply Kd.R_drew)); exact HO7026.out) hb)
                    have n5_ := Aside0.mk (Kd.R_below (by (with_reducible repeat (first | apply Kd.R_alloc | apply Kd.R_drewN | apply Kd.R_drew)); exact HO7030.out) hb)
                    (first | have n6_ := flyballlaw01_WideAdds.kb0 BK7001 hb | have n6_ := flyballlaw01_WideAdds.kb1 BK7001 hb | have n6_ := flyballlaw01_WideAdds.kb2 BK7001 hb | have n6_ := kb BK7001 hb)
                    (first | have n7_ := flyballlaw01_WideAdds.kb0 BK7002 hb | have n7_ := flyballlaw01_WideAdds.kb1 BK7002 hb | have n7_ := flyballlaw01_WideAdds.kb2 BK7002 hb | have n7_ := kb BK7002 hb)
                    (first | have n8_ := flyballlaw01_WideAdds.kb0 BK7007 hb | have n8_ := flyballlaw01_WideAdds.kb1 BK7007 hb | have n8_ := flyballlaw01_WideAdds.kb2 BK7007 hb | have n8_ := kb BK7007 hb)
                    (first | have n9_ := flyballlaw01_WideAdds.kb0 BK7011 hb | have n9_ := flyballlaw01_WideAdds.kb1 BK7011 hb | have n9_ := flyballlaw01_WideAdds.kb2 BK7011 hb | have n9_ := kb BK7011 hb)
                    (first | (with_reducible have n10_ := Aside0.mk (Kd.C_below HR7034.out hb)) | (with_reducible have n10_ := Aside0.mk (Kd.C_below (Kd.C_drewN HR7034.out _) hb)) | (with_reducible have n10_ := Aside0.mk (Kd.C_below (Kd.C_drewN (Kd.C_drewN HR7034.out _) _) hb)))
                    have n11_ := kh HB hb
                    clear HO7014
                    clear HO7017
                    clear HO7020
                    clear HO7023
                    clear HO7026
                    clear HO7030
                    clear BK7001
                    clear BK7002
                    clear BK7007
                    clear BK7011
                    clear HR7034
                    clear HB
                    have HO7014 := n0_
                    have HO7017 := n1_
                    have HO7020 := n2_
                    have HO7023 := n3_
                    have HO7026 := n4_
                    have HO7030 := n5_
                    have BK7001 := n6_
                    have BK7002 := n7_
                    have BK7007 := n8_
                    have BK7011 := n9_
                    have HR7034 := n10_
                    have HB := n11_
                    clear n0_ n1_ n2_ n3_ n4_ n5_ n6_ n7_ n8_ n9_ n10_ n11_
                    (try clear hb)
                    refine hK.out _ _ ⟨bc BK7001 0, bc BK7001 1, bc BK7002 0, bc BK7002 1, HS4_⟩ (fun hHeld => ?_)
                    clear hK K
                    refine nrm (some 79) ?_
                    refine one_ (i := 31) (N := some 81) #[true, true, true, true, true, true, true, true, true, true, true, true, true, true, true, true, true, true, true, true, true, true, true, true, true, true, true, true, true, true, true, true, true, false, false, false, false, false, false, false, false, false, false, false, false, false] rfl rfl (one_of HT_.out (by kernel_rfl)) (by decide) (fun K hK => ?_)
                    refine goes_ Try.func15 (by kernel_rfl) rfl #[.agg #[.int .u64 a0_0, .int .u64 a0_1]] (by rfl) rfl rfl pa ?_
                    with_reducible refine (flyballlaw01_of.calls k a0_0 a0_1 t7041 _ A25.out).mono ?_
                    rintro e w73 ⟨v7042, rfl, ho0, hb⟩
                    have HS4_ := (hb.cell (World.block_lt_of_cell? _ _ (hHeld.2.2.2.2))).trans (hHeld.2.2.2.2)
                    refine ⟨_, rfl, ?_⟩
                    have n0_ := Aside0.mk (Kd.R_elder' (by (with_reducible repeat (first | apply Kd.R_alloc | apply Kd.R_drewN | apply Kd.R_drew)); exact HO7014.out) (Kd.R_base ho0) hb)
                    have n1_ := Aside0.mk (Kd.R_elder' (by (with_reducible repeat (first | apply Kd.R_alloc | apply Kd.R_drewN | apply Kd.R_drew)); exact HO7017.out) (Kd.R_base ho0) hb)
                    have n2_ := Aside0.mk (Kd.R_elder' (by (with_reducible repeat (first | apply Kd.R_alloc | apply Kd.R_drewN | apply Kd.R_drew)); exact HO7020.out) (Kd.R_base ho0) hb)
                    have n3_ := Aside0.mk (Kd.R_elder' (by (with_reducible repeat (first | apply Kd.R_alloc | apply Kd.R_drewN | apply Kd.R_drew)); exact HO7023.out) (Kd.R_base ho0) hb)
                    have n4_ := Aside0.mk (Kd.R_elder' (by (with_reducible repeat (first | apply Kd.R_alloc | apply Kd.R_drewN | apply Kd.R_drew)); exact HO7026.out) (Kd.R_base ho0) hb)
                    have n5_ := Aside0.mk (Kd.R_elder' (by (with_reducible repeat (first | apply Kd.R_alloc | apply Kd.R_drewN | apply Kd.R_drew)); exact HO7030.out) (Kd.R_base ho0) hb)
                    have n6_ := Aside0.mk (Kd.R_lower (Kd.R_new' (Kd.R_new' (Kd.R_new' (Kd.R_new' (Kd.R_new' (Kd.R_new' ho0 (Kd.R_lt (by (with_reducible repeat (first | apply Kd.R_alloc | apply Kd.R_drewN | apply Kd.R_drew)); exact HO7014.out))) (Kd.R_lt (by (with_reducible repeat (first | apply Kd.R_alloc | apply Kd.R_drewN | apply Kd.R_drew)); exact HO7017.out))) (Kd.R_lt (by (with_reducible repeat (first | apply Kd.R_alloc | apply Kd.R_drewN | apply Kd.R_drew)); exact HO7020.out))) (Kd.R_lt (by (with_reducible repeat (first | apply Kd.R_alloc | apply Kd.R_drewN | apply Kd.R_drew)); exact HO7023.out))) (Kd.R_lt (by (with_reducible repeat (first | apply Kd.R_alloc | apply Kd.R_drewN | apply Kd.R_drew)); exact HO7026.out))) (Kd.R_lt (by (with_reducible repeat (first | apply Kd.R_alloc | apply Kd.R_drewN | apply Kd.R_drew)); exact HO7030.out))) (below_size (pl HB)))
                    (first | have n7_ := flyballlaw01_WideAdds.kb0 BK7001 hb | have n7_ := flyballlaw01_WideAdds.kb1 BK7001 hb | have n7_ := flyballlaw01_WideAdds.kb2 BK7001 hb | have n7_ := kb BK7001 hb)
                    (first | have n8_ := flyballlaw01_WideAdds.kb0 BK7002 hb | have n8_ := flyballlaw01_WideAdds.kb1 BK7002 hb | have n8_ := flyballlaw01_WideAdds.kb2 BK7002 hb | have n8_ := kb BK7002 hb)
                    (first | have n9_ := flyballlaw01_WideAdds.kb0 BK7007 hb | have n9_ := flyballlaw01_WideAdds.kb1 BK7007 hb | have n9_ := flyballlaw01_WideAdds.kb2 BK7007 hb | have n9_ := kb BK7007 hb)
                    (first | have n10_ := flyballlaw01_WideAdds.kb0 BK7011 hb | have n10_ := flyballlaw01_WideAdds.kb1 BK7011 hb | have n10_ := flyballlaw01_WideAdds.kb2 BK7011 hb | have n10_ := kb BK7011 hb)
                    (first | (with_reducible have n11_ := Aside0.mk (Kd.C_below HR7034.out hb)) | (with_reducible have n11_ := Aside0.mk (Kd.C_below (Kd.C_drewN HR7034.out _) hb)) | (with_reducible have n11_ := Aside0.mk (Kd.C_below (Kd.C_drewN (Kd.C_drewN HR7034.out _) _) hb)))
                    have n12_ := kh HB hb
                    clear HO7014
                    clear HO7017
                    clear HO7020
                    clear HO7023
                    clear HO7026
                    clear HO7030
                    clear BK7001
                    clear BK7002
                    clear BK7007
                    clear BK7011
                    clear HR7034
                    clear HB
                    have HO7014 := n0_
                    have HO7017 := n1_
                    have HO7020 := n2_
                    have HO7023 := n3_
                    have HO7026 := n4_
                    have HO7030 := n5_
                    have HO7043 := n6_
                    have BK7001 := n7_
                    have BK7002 := n8_
                    have BK7007 := n9_
                    have BK7011 := n10_
                    have HR7034 := n11_
                    have HB := n12_
                    clear n0_ n1_ n2_ n3_ n4_ n5_ n6_ n7_ n8_ n9_ n10_ n11_ n12_
                    (try clear hb)
                    (try clear ho0)
                    refine hK.out _ _ ⟨bc BK7001 0, bc BK7001 1, bc BK7002 0, bc BK7002 1, HS4_⟩ (fun hHeld => ?_)
                    clear hK K
                    refine nrm (some 81) ?_
                    refine one_ (i := 33) (N := some 83) #[true, true, true, true, true, true, true, true, true, true, true, true, true, true, true, true, true, true, true, true, true, true, true, true, true, true, true, true, true, true, true, true, true, true, false, false, false, false, false, false, false, false, false, false, false, false] rfl rfl (one_of HT_.out (by kernel_rfl)) (by decide) (fun K hK => ?_)
                    refine goes_ Try.func15 (by kernel_rfl) rfl #[.agg #[.int .u64 a1_0, .int .u64 a1_1]] (by rfl) rfl rfl pa ?_
                    with_reducible refine (flyballlaw01_of.calls k a1_0 a1_1 t7044 _ A26.out).mono ?_
                    rintro e w74 ⟨v7045, rfl, ho0, hb⟩
                    have HS4_ := (hb.cell (World.block_lt_of_cell? _ _ (hHeld.2.2.2.2))).trans (hHeld.2.2.2.2)
                    refine ⟨_, rfl, ?_⟩
                    have n0_ := Aside0.mk (Kd.R_elder' (by (with_reducible repeat (first | apply Kd.R_alloc | apply Kd.R_drewN | apply Kd.R_drew)); exact HO7014.out) (Kd.R_base ho0) hb)
                    have n1_ := Aside0.mk (Kd.R_elder' (by (with_reducible repeat (first | apply Kd.R_alloc | apply Kd.R_drewN | apply Kd.R_drew)); exact HO7017.out) (Kd.R_base ho0) hb)
                    have n2_ := Aside0.mk (Kd.R_elder' (by (with_reducible repeat (first | apply Kd.R_alloc | apply Kd.R_drewN | apply Kd.R_drew)); exact HO7020.out) (Kd.R_base ho0) hb)
                    have n3_ := Aside0.mk (Kd.R_elder' (by (with_reducible repeat (first | apply Kd.R_alloc | apply Kd.R_drewN | apply Kd.R_drew)); exact HO7023.out) (Kd.R_base ho0) hb)
                    have n4_ := Aside0.mk (Kd.R_elder' (by (with_reducible repeat (first | apply Kd.R_alloc | apply Kd.R_drewN | apply Kd.R_drew)); exact HO7026.out) (Kd.R_base ho0) hb)
                    have n5_ := Aside0.mk (Kd.R_elder' (by (with_reducible repeat (first | apply Kd.R_alloc | apply Kd.R_drewN | apply Kd.R_drew)); exact HO7030.out) (Kd.R_base ho0) hb)
                    have n6_ := Aside0.mk (Kd.R_elder' (by (with_reducible repeat (first | apply Kd.R_alloc | apply Kd.R_drewN | apply Kd.R_drew)); exact HO7043.out) (Kd.R_base ho0) hb)
                    have n7_ := Aside0.mk (Kd.R_lower (Kd.R_new' (Kd.R_new' (Kd.R_new' (Kd.R_new' (Kd.R_new' (Kd.R_new' (Kd.R_new' ho0 (Kd.R_lt (by (with_reducible repeat (first | apply Kd.R_alloc | apply Kd.R_drewN | apply Kd.R_drew)); exact HO7014.out))) (Kd.R_lt (by (with_reducible repeat (first | apply Kd.R_alloc | apply Kd.R_drewN | apply Kd.R_drew)); exact HO7017.out))) (Kd.R_lt (by (with_reducible repeat (first | apply Kd.R_alloc | apply Kd.R_drewN | apply Kd.R_drew)); exact HO7020.out))) (Kd.R_lt (by (with_reducible repeat (first | apply Kd.R_alloc | apply Kd.R_drewN | apply Kd.R_drew)); exact HO7023.out))) (Kd.R_lt (by (with_reducible repeat (first | apply Kd.R_alloc | apply Kd.R_drewN | apply Kd.R_drew)); exact HO7026.out))) (Kd.R_lt (by (with_reducible repeat (first | apply Kd.R_alloc | apply Kd.R_drewN | apply Kd.R_drew)); exact HO7030.out))) (Kd.R_lt (by (with_reducible repeat (first | apply Kd.R_alloc | apply Kd.R_drewN | apply Kd.R_drew)); exact HO7043.out))) (below_size (pl HB)))
                    (first | have n8_ := flyballlaw01_WideAdds.kb0 BK7001 hb | have n8_ := flyballlaw01_WideAdds.kb1 BK7001 hb | have n8_ := flyballlaw01_WideAdds.kb2 BK7001 hb | have n8_ := kb BK7001 hb)
                    (first | have n9_ := flyballlaw01_WideAdds.kb0 BK7002 hb | have n9_ := flyballlaw01_WideAdds.kb1 BK7002 hb | have n9_ := flyballlaw01_WideAdds.kb2 BK7002 hb | have n9_ := kb BK7002 hb)
                    (first | have n10_ := flyballlaw01_WideAdds.kb0 BK7007 hb | have n10_ := flyballlaw01_WideAdds.kb1 BK7007 hb | have n10_ := flyballlaw01_WideAdds.kb2 BK7007 hb | have n10_ := kb BK7007 hb)
                    (first | have n11_ := flyballlaw01_WideAdds.kb0 BK7011 hb | have n11_ := flyballlaw01_WideAdds.kb1 BK7011 hb | have n11_ := flyballlaw01_WideAdds.kb2 BK7011 hb | have n11_ := kb BK7011 hb)
                    (first | (with_reducible have n12_ := Aside0.mk (Kd.C_below HR7034.out hb)) | (with_reducible have n12_ := Aside0.mk (Kd.C_below (Kd.C_drewN HR7034.out _) hb)) | (with_reducible have n12_ := Aside0.mk (Kd.C_below (Kd.C_drewN (Kd.C_drewN HR7034.out _) _) hb)))
                    have n13_ := kh HB hb
                    clear HO7014
                    clear HO7017
                    clear HO7020
                    clear HO7023
                    clear HO7026
                    clear HO7030
                    clear HO7043
                    clear BK7001
                    clear BK7002
                    clear BK7007
                    clear BK7011
                    clear HR7034
                    clear HB
                    have HO7014 := n0_
                    have HO7017 := n1_
                    have HO7020 := n2_
                    have HO7023 := n3_
                    have HO7026 := n4_
                    have HO7030 := n5_
                    have HO7043 := n6_
                    have HO7046 := n7_
                    have BK7001 := n8_
                    have BK7002 := n9_
                    have BK7007 := n10_
                    have BK7011 := n11_
                    have HR7034 := n12_
                    have HB := n13_
                    clear n0_ n1_ n2_ n3_ n4_ n5_ n6_ n7_ n8_ n9_ n10_ n11_ n12_ n13_
                    (try clear hb)
                    (try clear ho0)
                    obtain ⟨Ao75, co75, eo75⟩ := Kd.R_slice HO7043.out
                    (first | subst eo75 | (injection eo75 with f1_ f2_ f3_; have f4_ := f1_.symm; have f5_ := f3_.symm; clear f1_ f2_ f3_; subst f4_; subst f5_))
                    obtain ⟨Ao76, co76, eo76⟩ := Kd.R_slice HO7046.out
                    (first | subst eo76 | (injection eo76 with f1_ f2_ f3_; have f4_ := f1_.symm; have f5_ := f3_.symm; clear f1_ f2_ f3_; subst f4_; subst f5_))
                    refine hK.out _ _ ⟨bc BK7001 0, bc BK7001 1, bc BK7002 0, bc BK7002 1, HS4_⟩ (fun hHeld => ?_)
                    clear hK K
                    refine nrm (some 83) ?_
                    refine one_ (i := 34) (N := some 84) #[true, true, true, true, true, true, true, true, true, true, true, true, true, true, true, true, true, true, true, true, true, true, true, true, true, true, true, true, true, true, true, true, true, true, true, false, false, false, false, false, false, false, false, false, false, false] rfl rfl (one_of HT_.out (by kernel_rfl)) (by decide) (fun K hK => ?_)
                    refine goes_ Try.func18 (by kernel_rfl) rfl #[.slice Ao75 t7041.length co75, .slice Ao76 t7044.length co76] (by rfl) rfl rfl pa ?_
                    with_reducible refine (flyballref01_Cmp.calls k _ _ t7041 _ _ t7044 t7047 _ ?side1 ?side2 ?side3 ?side4 A27.out).mono ?_
                    (case side1 => repeat (first | exact (Kd.R_reads' HO7043.out).2.2 | (with_reducible refine Kd.C_alloc ?_ _) | (with_reducible refine Kd.C_drewN ?_ _) | (with_reducible refine Kd.C_drew ?_)))
                    (case side2 => exact (Kd.R_reads' HO7043.out).2.1)
                    (case side3 => repeat (first | exact (Kd.R_reads' HO7046.out).2.2 | (with_reducible refine Kd.C_alloc ?_ _) | (with_reducible refine Kd.C_drewN ?_ _) | (with_reducible refine Kd.C_drew ?_)))
                    (case side4 => exact (Kd.R_reads' HO7046.out).2.1)
                    rintro e w77 ⟨rfl, hb⟩
                    have HS4_ := (hb.cell (World.block_lt_of_cell? _ _ (hHeld.2.2.2.2))).trans (hHeld.2.2.2.2)
                    refine ⟨_, rfl, ?_⟩
                    have n0_ := Aside0.mk (Kd.R_below (by (with_reducible repeat (first | apply Kd.R_alloc | apply Kd.R_drewN | apply Kd.R_drew)); exact HO7014.out) hb)
                    have n1_ := Aside0.mk (Kd.R_below (by (with_reducible repeat (first | apply Kd.R_alloc | apply Kd.R_drewN | apply Kd.R_drew)); exact HO7017.out) hb)
                    have n2_ := Aside0.mk (Kd.R_below (by (with_reducible repeat (first | apply Kd.R_alloc | apply Kd.R_drewN | apply Kd.R_drew)); exact HO7020.out) hb)
                    have n3_ := Aside0.mk (Kd.R_below (by (with_reducible repeat (first | apply Kd.R_alloc | apply Kd.R_drewN | apply Kd.R_drew)); exact HO7023.out) hb)
                    have n4_ := Aside0.mk (Kd.R_below (by (with_reducible repeat (first | apply Kd.R_alloc | apply Kd.R_drewN | apply Kd.R_drew)); exact HO7026.out) hb)
                    have n5_ := Aside0.mk (Kd.R_below (by (with_reducible repeat (first | apply Kd.R_alloc | apply Kd.R_drewN | apply Kd.R_drew)); exact HO7030.out) hb)
                    have n6_ := Aside0.mk (Kd.R_below (by (with_reducible repeat (first | apply Kd.R_alloc | apply Kd.R_drewN | apply Kd.R_drew)); exact HO7043.out) hb)
                    have n7_ := Aside0.mk (Kd.R_below (by (with_reducible repeat (first | apply Kd.R_alloc | apply Kd.R_drewN | apply Kd.R_drew)); exact HO7046.out) hb)
                    (first | have n8_ := flyballlaw01_WideAdds.kb0 BK7001 hb | have n8_ := flyballlaw01_WideAdds.kb1 BK7001 hb | have n8_ := flyballlaw01_WideAdds.kb2 BK7001 hb | have n8_ := kb BK7001 hb)
                    (first | have n9_ := flyballlaw01_WideAdds.kb0 BK7002 hb | have n9_ := flyballlaw01_WideAdds.kb1 BK7002 hb | have n9_ := flyballlaw01_WideAdds.kb2 BK7002 hb | have n9_ := kb BK7002 hb)
                    (first | have n10_ := flyballlaw01_WideAdds.kb0 BK7007 hb | have n10_ := flyballlaw01_WideAdds.kb1 BK7007 hb | have n10_ := flyballlaw01_WideAdds.kb2 BK7007 hb | have n10_ := kb BK7007 hb)
                    (first | have n11_ := flyballlaw01_WideAdds.kb0 BK7011 hb | have n11_ := flyballlaw01_WideAdds.kb1 BK7011 hb | have n11_ := flyballlaw01_WideAdds.kb2 BK7011 hb | have n11_ := kb BK7011 hb)
                    (first | (with_reducible have n12_ := Aside0.mk (Kd.C_below HR7034.out hb)) | (with_reducible have n12_ := Aside0.mk (Kd.C_below (Kd.C_drewN HR7034.out _) hb)) | (with_reducible have n12_ := Aside0.mk (Kd.C_below (Kd.C_drewN (Kd.C_drewN HR7034.out _) _) hb)))
                    have n13_ := kh HB hb
                    clear HO7014
                    clear HO7017
                    clear HO7020
                    clear HO7023
                    clear HO7026
                    clear HO7030
                    clear HO7043
                    clear HO7046
                    clear BK7001
                    clear BK7002
                    clear BK7007
                    clear BK7011
                    clear HR7034
                    clear HB
                    have HO7014 := n0_
                    have HO7017 := n1_
                    have HO7020 := n2_
                    have HO7023 := n3_
                    have HO7026 := n4_
                    have HO7030 := n5_
                    have HO7043 := n6_
                    have HO7046 := n7_
                    have BK7001 := n8_
                    have BK7002 := n9_
                    have BK7007 := n10_
                    have BK7011 := n11_
                    have HR7034 := n12_
                    have HB := n13_
                    clear n0_ n1_ n2_ n3_ n4_ n5_ n6_ n7_ n8_ n9_ n10_ n11_ n12_ n13_
                    (try clear hb)
                    refine hK.out _ _ ⟨bc BK7001 0, bc BK7001 1, bc BK7002 0, bc BK7002 1, HS4_⟩ (fun hHeld => ?_)
                    clear hK K
                    refine nrm (some 84) ?_
                    refine pur 35 (some 85) #[true, true, true, true, true, true, true, true, true, true, true, true, true, true, true, true, true, true, true, true, true, true, true, true, true, true, true, true, true, true, true, true, true, true, true, true, false, false, false, false, false, false, false, false, false, false] (any_of HT_.out (by kernel_rfl)) ?_
                    refine pur 36 (some 86) #[true, true, true, true, true, true, true, true, true, true, true, true, true, true, true, true, true, true, true, true, true, true, true, true, true, true, true, true, true, true, true, true, true, true, true, true, true, false, false, false, false, false, false, false, false, false] (any_of HT_.out (by kernel_rfl)) ?_
                    refine pur 37 (some 87) #[true, true, true, true, true, true, true, true, true, true, true, true, true, true, true, true, true, true, true, true, true, true, true, true, true, true, true, true, true, true, true, true, true, true, true, true, true, true, false, false, false, false, false, false, false, false] (any_of HT_.out (by kernel_rfl)) ?_
                    refine tak 38 (some 88) #[true, true, true, true, true, true, true, true, true, true, true, true, true, true, true, true, true, true, true, true, true, true, true, true, true, true, true, true, true, true, true, true, true, true, true, true, true, true, true, false, false, false, false, false, false, false] (take_ofW HT_.out HW_.out (by kernel_rfl)) hHeld ?_
                    refine tak 40 (some 90) #[true, true, true, true, true, true, true, true, true, true, true, true, true, true, true, true, true, true, true, true, true, true, true, true, true, true, true, true, true, true, true, true, true, true, true, true, true, true, true, false, true, false, false, false, false, false] (take_ofW HT_.out HW_.out (by kernel_rfl)) hHeld ?_
                    refine one_ (i := 39) (N := some 89) #[true, true, true, true, true, true, true, true, true, true, true, true, true, true, true, true, true, true, true, true, true, true, true, true, true, true, true, true, true, true, true, true, true, true, true, true, true, true, true, true, true, false, false, false, false, false] rfl rfl (one_of HT_.out (by kernel_rfl)) (by decide) (fun K hK => ?_)
                    refine goes_ Try.func24 (by kernel_rfl) rfl #[.agg #[.int .u64 a0_0, .int .u64 a0_1]] (by rfl) rfl rfl pa ?_
                    with_reducible refine (wide_U128_Len.calls k a0_0 a0_1 t7048 _ A29.out).mono ?_
                    rintro e w78 ⟨rfl, hb⟩
                    have HS4_ := (hb.cell (World.block_lt_of_cell? _ _ (hHeld.2.2.2.2))).trans (hHeld.2.2.2.2)
                    refine ⟨_, rfl, ?_⟩
                    have n0_ := Aside0.mk (Kd.R_below (by (with_reducible repeat (first | apply Kd.R_alloc | apply Kd.R_drewN | apply Kd.R_drew)); exact HO7014.out) hb)
                    have n1_ := Aside0.mk (Kd.R_below (by (with_reducible repeat (first | apply Kd.R_alloc | apply Kd.R_drewN | apply Kd.R_drew)); exact HO7017.out) hb)
                    have n2_ := Aside0.mk (Kd.R_below (by (with_reducible repeat (first | apply Kd.R_alloc | apply Kd.R_drewN | apply Kd.R_drew)); exact HO7020.out) hb)
                    have n3_ := Aside0.mk (Kd.R_below (by (with_reducible repeat (first | apply Kd.R_alloc | apply Kd.R_drewN | apply Kd.R_drew)); exact HO7023.out) hb)
                    have n4_ := Aside0.mk (Kd.R_below (by (with_reducible repeat (first | apply Kd.R_alloc | apply Kd.R_drewN | apply Kd.R_drew)); exact HO7026.out) hb)
                    have n5_ := Aside0.mk (Kd.R_below (by (with_reducible repeat (first | apply Kd.R_alloc | apply Kd.R_drewN | apply Kd.R_drew)); exact HO7030.out) hb)
                    have n6_ := Aside0.mk (Kd.R_below (by (with_reducible repeat (first | apply Kd.R_alloc | apply Kd.R_drewN | apply Kd.R_drew)); exact HO7043.out) hb)
                    have n7_ := Aside0.mk (Kd.R_below (by (with_reducible repeat (first | apply Kd.R_alloc | apply Kd.R_drewN | apply Kd.R_drew)); exact HO7046.out) hb)
                    (first | have n8_ := flyballlaw01_WideAdds.kb0 BK7001 hb | have n8_ := flyballlaw01_WideAdds.kb1 BK7001 hb | have n8_ := flyballlaw01_WideAdds.kb2 BK7001 hb | have n8_ := kb BK7001 hb)
                    (first | have n9_ := flyballlaw01_WideAdds.kb0 BK7002 hb | have n9_ := flyballlaw01_WideAdds.kb1 BK7002 hb | have n9_ := flyballlaw01_WideAdds.kb2 BK7002 hb | have n9_ := kb BK7002 hb)
                    (first | have n10_ := flyballlaw01_WideAdds.kb0 BK7007 hb | have n10_ := flyballlaw01_WideAdds.kb1 BK7007 hb | have n10_ := flyballlaw01_WideAdds.kb2 BK7007 hb | have n10_ := kb BK7007 hb)
                    (first | have n11_ := flyballlaw01_WideAdds.kb0 BK7011 hb | have n11_ := flyballlaw01_WideAdds.kb1 BK7011 hb | have n11_ := flyballlaw01_WideAdds.kb2 BK7011 hb | have n11_ := kb BK7011 hb)
                    (first | (with_reducible have n12_ := Aside0.mk (Kd.C_below HR7034.out hb)) | (with_reducible have n12_ := Aside0.mk (Kd.C_below (Kd.C_drewN HR7034.out _) hb)) | (with_reducible have n12_ := Aside0.mk (Kd.C_below (Kd.C_drewN (Kd.C_drewN HR7034.out _) _) hb)))
                    have n13_ := kh HB hb
                    clear HO7014
                    clear HO7017
                    clear HO7020
                    clear HO7023
                    clear HO7026
                    clear HO7030
                    clear HO7043
                    clear HO7046
                    clear BK7001
                    clear BK7002
                    clear BK7007
                    clear BK7011
                    clear HR7034
                    clear HB
                    have HO7014 := n0_
                    have HO7017 := n1_
                    have HO7020 := n2_
                    have HO7023 := n3_
                    have HO7026 := n4_
                    have HO7030 := n5_
                    have HO7043 := n6_
                    have HO7046 := n7_
                    have BK7001 := n8_
                    have BK7002 := n9_
                    have BK7007 := n10_
                    have BK7011 := n11_
                    have HR7034 := n12_
                    have HB := n13_
                    clear n0_ n1_ n2_ n3_ n4_ n5_ n6_ n7_ n8_ n9_ n10_ n11_ n12_ n13_
                    (try clear hb)
                    refine hK.out _ _ ⟨bc BK7001 0, bc BK7001 1, bc BK7002 0, bc BK7002 1, HS4_⟩ (fun hHeld => ?_)
                    clear hK K
                    refine nrm (some 89) ?_
                    refine one_ (i := 41) (N := some 91) #[true, true, true, true, true, true, true, true, true, true, true, true, true, true, true, true, true, true, true, true, true, true, true, true, true, true, true, true, true, true, true, true, true, true, true, true, true, true, true, true, true, true, false, false, false, false] rfl rfl (one_of HT_.out (by kernel_rfl)) (by decide) (fun K hK => ?_)
                    refine goes_ Try.func15 (by kernel_rfl) rfl #[.agg #[.int .u64 a0_0, .int .u64 a0_1]] (by rfl) rfl rfl pa ?_
                    with_reducible refine (flyballlaw01_of.calls k a0_0 a0_1 t7049 _ A30.out).mono ?_
                    rintro e w79 ⟨v7050, rfl, ho0, hb⟩
                    have HS4_ := (hb.cell (World.block_lt_of_cell? _ _ (hHeld.2.2.2.2))).trans (hHeld.2.2.2.2)
                    refine ⟨_, rfl, ?_⟩
                    have n0_ := Aside0.mk (Kd.R_elder' (by (with_reducible repeat (first | apply Kd.R_alloc | apply Kd.R_drewN | apply Kd.R_drew)); exact HO7014.out) (Kd.R_base ho0) hb)
                    have n1_ := Aside0.mk (Kd.R_elder' (by (with_reducible repeat (first | apply Kd.R_alloc | apply Kd.R_drewN | apply Kd.R_drew)); exact HO7017.out) (Kd.R_base ho0) hb)
                    have n2_ := Aside0.mk (Kd.R_elder' (by (with_reducible repeat (first | apply Kd.R_alloc | apply Kd.R_drewN | apply Kd.R_drew)); exact HO7020.out) (Kd.R_base ho0) hb)
                    have n3_ := Aside0.mk (Kd.R_elder' (by (with_reducible repeat (first | apply Kd.R_alloc | apply Kd.R_drewN | apply Kd.R_drew)); exact HO7023.out) (Kd.R_base ho0) hb)
                    have n4_ := Aside0.mk (Kd.R_elder' (by (with_reducible repeat (first | apply Kd.R_alloc | apply Kd.R_drewN | apply Kd.R_drew)); exact HO7026.out) (Kd.R_base ho0) hb)
                    have n5_ := Aside0.mk (Kd.R_elder' (by (with_reducible repeat (first | apply Kd.R_alloc | apply Kd.R_drewN | apply Kd.R_drew)); exact HO7030.out) (Kd.R_base ho0) hb)
                    have n6_ := Aside0.mk (Kd.R_elder' (by (with_reducible repeat (first | apply Kd.R_alloc | apply Kd.R_drewN | apply Kd.R_drew)); exact HO7043.out) (Kd.R_base ho0) hb)
                    have n7_ := Aside0.mk (Kd.R_elder' (by (with_reducible repeat (first | apply Kd.R_alloc | apply Kd.R_drewN | apply Kd.R_drew)); exact HO7046.out) (Kd.R_base ho0) hb)
                    have n8_ := Aside0.mk (Kd.R_lower (Kd.R_new' (Kd.R_new' (Kd.R_new' (Kd.R_new' (Kd.R_new' (Kd.R_new' (Kd.R_new' (Kd.R_new' ho0 (Kd.R_lt (by (with_reducible repeat (first | apply Kd.R_alloc | apply Kd.R_drewN | apply Kd.R_drew)); exact HO7014.out))) (Kd.R_lt (by (with_reducible repeat (first | apply Kd.R_alloc | apply Kd.R_drewN | apply Kd.R_drew)); exact HO7017.out))) (Kd.R_lt (by (with_reducible repeat (first | apply Kd.R_alloc | apply Kd.R_drewN | apply Kd.R_drew)); exact HO7020.out))) (Kd.R_lt (by (with_reducible repeat (first | apply Kd.R_alloc | apply Kd.R_drewN | apply Kd.R_drew)); exact HO7023.out))) (Kd.R_lt (by (with_reducible repeat (first | apply Kd.R_alloc | apply Kd.R_drewN | apply Kd.R_drew)); exact HO7026.out))) (Kd.R_lt (by (with_reducible repeat (first | apply Kd.R_alloc | apply Kd.R_drewN | apply Kd.R_drew)); exact HO7030.out))) (Kd.R_lt (by (with_reducible repeat (first | apply Kd.R_alloc | apply Kd.R_drewN | apply Kd.R_drew)); exact HO7043.out))) (Kd.R_lt (by (with_reducible repeat (first | apply Kd.R_alloc | apply Kd.R_drewN | apply Kd.R_drew)); exact HO7046.out))) (below_size (pl HB)))
                    (first | have n9_ := flyballlaw01_WideAdds.kb0 BK7001 hb | have n9_ := flyballlaw01_WideAdds.kb1 BK7001 hb | have n9_ := flyballlaw01_WideAdds.kb2 BK7001 hb | have n9_ := kb BK7001 hb)
                    (first | have n10_ := flyballlaw01_WideAdds.kb0 BK7002 hb | have n10_ := flyballlaw01_WideAdds.kb1 BK7002 hb | have n10_ := flyballlaw01_WideAdds.kb2 BK7002 hb | have n10_ := kb BK7002 hb)
                    (first | have n11_ := flyballlaw01_WideAdds.kb0 BK7007 hb | have n11_ := flyballlaw01_WideAdds.kb1 BK7007 hb | have n11_ := flyballlaw01_WideAdds.kb2 BK7007 hb | have n11_ := kb BK7007 hb)
                    (first | have n12_ := flyballlaw01_WideAdds.kb0 BK7011 hb | have n12_ := flyballlaw01_WideAdds.kb1 BK7011 hb | have n12_ := flyballlaw01_WideAdds.kb2 BK7011 hb | have n12_ := kb BK7011 hb)
                    (first | (with_reducible have n13_ := Aside0.mk (Kd.C_below HR7034.out hb)) | (with_reducible have n13_ := Aside0.mk (Kd.C_below (Kd.C_drewN HR7034.out _) hb)) | (with_reducible have n13_ := Aside0.mk (Kd.C_below (Kd.C_drewN (Kd.C_drewN HR7034.out _) _) hb)))
                    have n14_ := kh HB hb
                    clear HO7014
                    clear HO7017
                    clear HO7020
                    clear HO7023
                    clear HO7026
                    clear HO7030
                    clear HO7043
                    clear HO7046
                    clear BK7001
                    clear BK7002
                    clear BK7007
                    clear BK7011
                    clear HR7034
                    clear HB
                    have HO7014 := n0_
                    have HO7017 := n1_
                    have HO7020 := n2_
                    have HO7023 := n3_
                    have HO7026 := n4_
                    have HO7030 := n5_
                    have HO7043 := n6_
                    have HO7046 := n7_
                    have HO7051 := n8_
                    have BK7001 := n9_
                    have BK7002 := n10_
                    have BK7007 := n11_
                    have BK7011 := n12_
                    have HR7034 := n13_
                    have HB := n14_
                    clear n0_ n1_ n2_ n3_ n4_ n5_ n6_ n7_ n8_ n9_ n10_ n11_ n12_ n13_ n14_
                    (try clear hb)
                    (try clear ho0)
                    obtain ⟨Ao80, co80, eo80⟩ := Kd.R_slice HO7051.out
                    (first | subst eo80 | (injection eo80 with f1_ f2_ f3_; have f4_ := f1_.symm; have f5_ := f3_.symm; clear f1_ f2_ f3_; subst f4_; subst f5_))
                    refine hK.out _ _ ⟨bc BK7001 0, bc BK7001 1, bc BK7002 0, bc BK7002 1, HS4_⟩ (fun hHeld => ?_)
                    clear hK K
                    refine nrm (some 91) ?_
                    refine one_ (i := 42) (N := some 92) #[true, true, true, true, true, true, true, true, true, true, true, true, true, true, true, true, true, true, true, true, true, true, true, true, true, true, true, true, true, true, true, true, true, true, true, true, true, true, true, true, true, true, true, false, false, false] rfl rfl (one_of HT_.out (by kernel_rfl)) (by decide) (fun K hK => ?_)
                    refine goes_ Try.func35 (by kernel_rfl) rfl #[.slice Ao80 t7049.length co80] (by rfl) rfl rfl pa ?_
                    with_reducible refine (flyballref01_Len.calls k _ _ t7049 t7052 _ ?side1 ?side2 A31.out).mono ?_
                    (case side1 => repeat (first | exact (Kd.R_reads' HO7051.out).2.2 | (with_reducible refine Kd.C_alloc ?_ _) | (with_reducible refine Kd.C_drewN ?_ _) | (with_reducible refine Kd.C_drew ?_)))
                    (case side2 => exact (Kd.R_reads' HO7051.out).2.1)
                    rintro e w' ⟨rfl, ⟨nd, rfl⟩⟩
                    refine ⟨_, rfl, ?_⟩
                    refine hK.out _ _ ⟨bc BK7001 0, bc BK7001 1, bc BK7002 0, bc BK7002 1, hHeld.2.2.2.2⟩ (fun hHeld => ?_)
                    clear hK K
                    refine nrm (some 92) ?_
                    refine pur 43 (some 93) #[true, true, true, true, true, true, true, true, true, true, true, true, true, true, true, true, true, true, true, true, true, true, true, true, true, true, true, true, true, true, true, true, true, true, true, true, true, true, true, true, true, true, true, true, false, false] (any_of HT_.out (by kernel_rfl)) ?_
                    refine pur 44 (some 94) #[true, true, true, true, true, true, true, true, true, true, true, true, true, true, true, true, true, true, true, true, true, true, true, true, true, true, true, true, true, true, true, true, true, true, true, true, true, true, true, true, true, true, true, true, true, false] (any_of HT_.out (by kernel_rfl)) ?_
                    refine pur 45 (some 4) #[true, true, true, true, true, true, true, true, true, true, true, true, true, true, true, true, true, true, true, true, true, true, true, true, true, true, true, true, true, true, true, true, true, true, true, true, true, true, true, true, true, true, true, true, true, true] (any_of HT_.out (by kernel_rfl)) ?_
                    refine done_ (done_of HT_.out (by kernel_rfl)) ?_
                    try go_wp2
                    go_ret
                    exact ⟨pe, pl HB⟩
                  · rw [if_neg c28] at H
                    exact absurd H (by simp)
                · rw [if_neg c23] at H
                  exact absurd H (by simp)
              · rw [if_neg c21] at H
                exact absurd H (by simp)
            · rw [if_neg c19] at H
              exact absurd H (by simp)
          · rw [if_neg c18] at H
            have c18b0 : decide (128 < (t7018.length : Int)) = false := decide_eq_false c18
            have c18b1 : decide (128 < t7018.length) = false := decide_eq_false (by omega)
            clear c18
            obtain ⟨t7053, A810, H⟩ := Option.bind_eq_some_iff.mp H
            have A81 := Aside0.mk A810
            clear A810
            (try dsimp only at H)
            by_cases c82 : t7006 = t7053
            · rw [if_pos c82] at H
              have c82b0 : (t7006 == t7053) = true := beq_iff_eq.mpr c82
              have c82b1 : (t7006 != t7053) = false := bne_eq_false_iff_eq.mpr c82
              clear c82
              obtain ⟨t7054, A830, H⟩ := Option.bind_eq_some_iff.mp H
              have A83 := Aside0.mk A830
              clear A830
              (try dsimp only at H)
              by_cases c84 : t7010 = t7054
              · rw [if_pos c84] at H
                have c84b0 : (t7010 == t7054) = true := beq_iff_eq.mpr c84
                have c84b1 : (t7010 != t7054) = false := bne_eq_false_iff_eq.mpr c84
                clear c84
                obtain ⟨t7055, A850, H⟩ := Option.bind_eq_some_iff.mp H
                have A85 := Aside0.mk A850
                clear A850
                (try dsimp only at H)
                obtain ⟨t7056, A860, H⟩ := Option.bind_eq_some_iff.mp H
                have A86 := Aside0.mk A860
                clear A860
                (try dsimp only at H)
                obtain ⟨t7059, A870, H⟩ := Option.bind_eq_some_iff.mp H
                have A87 := Aside0.mk A870
                clear A870
                (try dsimp only at H)
                obtain ⟨t7062, A880, H⟩ := Option.bind_eq_some_iff.mp H
                have A88 := Aside0.mk A880
                clear A880
                (try dsimp only at H)
                by_cases c89 : t7055 = t7062
                · rw [if_pos c89] at H
                  have c89b0 : (t7055 == t7062) = true := beq_iff_eq.mpr c89
                  have c89b1 : (t7055 != t7062) = false := bne_eq_false_iff_eq.mpr c89
                  clear c89
                  obtain ⟨t7063, A900, H⟩ := Option.bind_eq_some_iff.mp H
                  have A90 := Aside0.mk A900
                  clear A900
                  (try dsimp only at H)
                  obtain ⟨t7064, A910, H⟩ := Option.bind_eq_some_iff.mp H
                  have A91 := Aside0.mk A910
                  clear A910
                  (try dsimp only at H)
                  obtain ⟨t7067, A920, H⟩ := Option.bind_eq_some_iff.mp H
                  have A92 := Aside0.mk A920
                  clear A920
                  (try dsimp only at H)
                  obtain rfl := Option.some.inj H
                  go_enter Try.func7, Try.ntmps7
                  try go_wp2_with (first | ((with_reducible refine gate_dst (N := 2) rfl ?_); (try (refine gate_guard (by rfl) ?_; dsimp only)); refine kx 2 #[.int .u64 a0_0, .int .u64 a0_1] 24 ?_; intro gb7001 hg w93 hbox hb; have BK7001 := Aside0.mk (hbox); have GW7001 := kg HB hg; have GE7001 := kg HB hg; replace HB := kh HB hb; clear hb hbox hg) | ((with_reducible refine gate_dst (N := 3) rfl ?_); (try (refine gate_guard (by rfl) ?_; dsimp only)); refine kx 3 #[.int .u64 a1_0, .int .u64 a1_1] 24 ?_; intro gb7002 hg w94 hbox hb; have BK7002 := Aside0.mk (hbox); have GW7002 := kg HB hg; have GE7002 := kg HB hg; have NB7001_7002 := kn BK7001 hg; have NB7002_7001 := km BK7001 hg; replace BK7001 := kb BK7001 hb; replace HB := kh HB hb; clear hb hbox hg) | ((with_reducible refine gate_callee (f := 11) rfl ?_); refine kc (some 15) Try.func11 #[] (flyballlaw01_works.calls k  true _ A3.out) ?_; intro w95 hb; replace BK7001 := kb BK7001 hb; replace BK7002 := kb BK7002 hb; replace HB := kh HB hb; (try clear hb); have hnb96 := NB7001_7002.out; have hnc96 := NB7002_7001.out; have hcz97_0 : w95.cell? ⟨gb7001, 0, none⟩ = some (.int .u64 a0_0) := bc BK7001 0; have hcz97_1 : w95.cell? ⟨gb7001, 1, none⟩ = some (.int .u64 a0_1) := bc BK7001 1; have hfz97_0 := blk_frozen BK7001.out 0; have hfz97_1 := blk_frozen BK7001.out 1; have hcz98_0 : w95.cell? ⟨gb7002, 0, none⟩ = some (.int .u64 a1_0) := bc BK7002 0; have hcz98_1 : w95.cell? ⟨gb7002, 1, none⟩ = some (.int .u64 a1_1) := bc BK7002 1; have hfz98_0 := blk_frozen BK7002.out 0; have hfz98_1 := blk_frozen BK7002.out 1) | ((with_reducible refine gate_callee (f := 21) rfl ?_); refine kc (some 21) Try.func21 #[.agg #[.int .u64 a0_0, .int .u64 a0_1], .agg #[.int .u64 a1_0, .int .u64 a1_1]] (wide_U128_Add.calls a0_0 a0_1 a1_0 a1_1 t7004 t7005 t7006 _ A5.out) ?_; intro w99 hb; replace BK7001 := kb BK7001 hb; replace BK7002 := kb BK7002 hb; replace HB := kh HB hb; (try clear hb)) | ((with_reducible refine gate_dst (N := 6) rfl ?_); (try (refine gate_guard (by rfl) ?_; dsimp only)); refine kx 6 #[.int .u64 0, .int .u64 0] 24 ?_; intro gb7007 hg w100 hbox hb; have BK7007 := Aside0.mk (hbox); have GW7007 := kg HB hg; have GE7007 := kg HB hg; have NB7001_7007 := kn BK7001 hg; have NB7007_7001 := km BK7001 hg; have NB7002_7007 := kn BK7002 hg; have NB7007_7002 := km BK7002 hg; replace BK7001 := kb BK7001 hb; replace BK7002 := kb BK7002 hb; replace HB := kh HB hb; clear hb hbox hg; have hnb101 := NB7007_7001.out; have hnc101 := NB7001_7007.out; have hnb102 := NB7007_7002.out; have hnc102 := NB7002_7007.out; have hcz103_0 : w100.cell? ⟨gb7007, 0, none⟩ = some (.int .u64 0) := bc BK7007 0; have hcz103_1 : w100.cell? ⟨gb7007, 1, none⟩ = some (.int .u64 0) := bc BK7007 1; have hfz103_0 := blk_frozen BK7007.out 0; have hfz103_1 := blk_frozen BK7007.out 1; have hcz104_0 : w100.cell? ⟨gb7001, 0, none⟩ = some (.int .u64 a0_0) := bc BK7001 0; have hcz104_1 : w100.cell? ⟨gb7001, 1, none⟩ = some (.int .u64 a0_1) := bc BK7001 1; have hfz104_0 := blk_frozen BK7001.out 0; have hfz104_1 := blk_frozen BK7001.out 1; have hcz105_0 : w100.cell? ⟨gb7002, 0, none⟩ = some (.int .u64 a1_0) := bc BK7002 0; have hcz105_1 : w100.cell? ⟨gb7002, 1, none⟩ = some (.int .u64 a1_1) := bc BK7002 1; have hfz105_0 := blk_frozen BK7002.out 0; have hfz105_1 := blk_frozen BK7002.out 1) | ((with_reducible refine gate_callee (f := 22) rfl ?_); refine kc (some 27) Try.func22 #[.agg #[.int .u64 a0_0, .int .u64 a0_1], .agg #[.int .u64 a1_0, .int .u64 a1_1]] (wide_U128_Sub.calls a0_0 a0_1 a1_0 a1_1 t7008 t7009 t7010 _ A6.out) ?_; intro w106 hb; replace BK7001 := kb BK7001 hb; replace BK7002 := kb BK7002 hb; replace BK7007 := kb (o' := .cells #[.int .u64 t7004, .int .u64 t7005] 24 (0, 0)) BK7007 hb; replace HB := kh HB hb; (try clear hb)) | ((with_reducible refine gate_dst (N := 8) rfl ?_); (try (refine gate_guard (by rfl) ?_; dsimp only)); refine kx 8 #[.int .u64 0, .int .u64 0] 24 ?_; intro gb7011 hg w107 hbox hb; have BK7011 := Aside0.mk (hbox); have GW7011 := kg HB hg; have GE7011 := kg HB hg; have NB7001_7011 := kn BK7001 hg; have NB7011_7001 := km BK7001 hg; have NB7002_7011 := kn BK7002 hg; have NB7011_7002 := km BK7002 hg; have NB7007_7011 := kn BK7007 hg; have NB7011_7007 := km BK7007 hg; replace BK7001 := kb BK7001 hb; replace BK7002 := kb BK7002 hb; replace BK7007 := kb BK7007 hb; replace HB := kh HB hb; clear hb hbox hg; have hnb108 := NB7011_7001.out; have hnc108 := NB7001_7011.out; have hnb109 := NB7011_7002.out; have hnc109 := NB7002_7011.out; have hnb110 := NB7011_7007.out; have hnc110 := NB7007_7011.out; have hcz111_0 : w107.cell? ⟨gb7011, 0, none⟩ = some (.int .u64 0) := bc BK7011 0; have hcz111_1 : w107.cell? ⟨gb7011, 1, none⟩ = some (.int .u64 0) := bc BK7011 1; have hfz111_0 := blk_frozen BK7011.out 0; have hfz111_1 := blk_frozen BK7011.out 1))
                  generalize hW_ : ((w107.setCell ⟨gb7011, 0, none⟩ (.int .u64 t7008)).setCell ⟨gb7011, 1, none⟩ (.int .u64 t7009)) = w112
                  replace BK7001 := kr BK7001 hW_
                  replace BK7002 := kr BK7002 hW_
                  replace BK7007 := kr BK7007 hW_
                  replace BK7011 := kr (o' := .cells #[.int .u64 t7008, .int .u64 t7009] 24 (0, 0)) BK7011 hW_
                  replace HB := kq HB hW_
                  clear hW_
                  replace BK7001 := Aside0.mk (blk_drew BK7001.out)
                  replace BK7002 := Aside0.mk (blk_drew BK7002.out)
                  replace BK7007 := Aside0.mk (blk_drew BK7007.out)
                  replace BK7011 := Aside0.mk (blk_drew BK7011.out)
                  replace HB := Aside0.mk (below_drew1 HB.out)
                  refine start_ (n := 6) (S := fun w' => w'.cell? ⟨gb7001, 0, none⟩ = some (.int .u64 a0_0) ∧ w'.cell? ⟨gb7001, 1, none⟩ = some (.int .u64 a0_1) ∧ w'.cell? ⟨gb7002, 0, none⟩ = some (.int .u64 a1_0) ∧ w'.cell? ⟨gb7002, 1, none⟩ = some (.int .u64 a1_1)) (ds := []) #[false, false, false, false, false, false] (by kernel_rfl) rfl rfl ⟨bc BK7001 0, bc BK7001 1, bc BK7002 0, bc BK7002 1⟩ (fun hHeld => ?_)
                  generalize w112.drew = w113 at BK7001 BK7002 BK7007 BK7011 HB hHeld ⊢
                  refine tak 0 (some 30) #[true, false, false, false, false, false] (by kernel_rfl) hHeld ?_
                  refine tak 2 (some 32) #[true, false, true, false, false, false] (by kernel_rfl) hHeld ?_
                  refine one_ (i := 1) (N := some 31) #[true, true, true, false, false, false] rfl rfl (by kernel_rfl) (by decide) (fun K hK => ?_)
                  refine goes_ Try.func15 (by kernel_rfl) rfl #[.agg #[.int .u64 a0_0, .int .u64 a0_1]] (by rfl) rfl rfl pa ?_
                  with_reducible refine (flyballlaw01_of.calls k a0_0 a0_1 t7012 _ A7.out).mono ?_
                  rintro e w114 ⟨v7013, rfl, ho0, hb⟩
                  refine ⟨_, rfl, ?_⟩
                  have HO7014 := Aside0.mk (Kd.R_lower ho0 (below_size (pl HB)))
                  replace BK7001 := kb BK7001 hb
                  replace BK7002 := kb BK7002 hb
                  replace BK7007 := kb BK7007 hb
                  replace BK7011 := kb BK7011 hb
                  replace HB := kh HB hb
                  (try clear hb)
                  (try clear ho0)
                  refine hK.out _ _ ⟨bc BK7001 0, bc BK7001 1, bc BK7002 0, bc BK7002 1⟩ (fun hHeld => ?_)
                  clear hK K
                  refine nrm (some 31) ?_
                  refine one_ (i := 3) (N := some 33) #[true, true, true, true, false, false] rfl rfl (by kernel_rfl) (by decide) (fun K hK => ?_)
                  refine goes_ Try.func15 (by kernel_rfl) rfl #[.agg #[.int .u64 a1_0, .int .u64 a1_1]] (by rfl) rfl rfl pa ?_
                  with_reducible refine (flyballlaw01_of.calls k a1_0 a1_1 t7015 _ A8.out).mono ?_
                  rintro e w115 ⟨v7016, rfl, ho0, hb⟩
                  refine ⟨_, rfl, ?_⟩
                  have n0_ := Aside0.mk (Kd.R_elder' (by (with_reducible repeat (first | apply Kd.R_alloc | apply Kd.R_drewN | apply Kd.R_drew)); exact HO7014.out) (Kd.R_base ho0) hb)
                  have n1_ := Aside0.mk (Kd.R_lower (Kd.R_new' ho0 (Kd.R_lt (by (with_reducible repeat (first | apply Kd.R_alloc | apply Kd.R_drewN | apply Kd.R_drew)); exact HO7014.out))) (below_size (pl HB)))
                  (first | have n2_ := flyballlaw01_WideAdds.kb0 BK7001 hb | have n2_ := flyballlaw01_WideAdds.kb1 BK7001 hb | have n2_ := flyballlaw01_WideAdds.kb2 BK7001 hb | have n2_ := kb BK7001 hb)
                  (first | have n3_ := flyballlaw01_WideAdds.kb0 BK7002 hb | have n3_ := flyballlaw01_WideAdds.kb1 BK7002 hb | have n3_ := flyballlaw01_WideAdds.kb2 BK7002 hb | have n3_ := kb BK7002 hb)
                  (first | have n4_ := flyballlaw01_WideAdds.kb0 BK7007 hb | have n4_ := flyballlaw01_WideAdds.kb1 BK7007 hb | have n4_ := flyballlaw01_WideAdds.kb2 BK7007 hb | have n4_ := kb BK7007 hb)
                  (first | have n5_ := flyballlaw01_WideAdds.kb0 BK7011 hb | have n5_ := flyballlaw01_WideAdds.kb1 BK7011 hb | have n5_ := flyballlaw01_WideAdds.kb2 BK7011 hb | have n5_ := kb BK7011 hb)
                  have n6_ := kh HB hb
                  clear HO7014
                  clear BK7001
                  clear BK7002
                  clear BK7007
                  clear BK7011
                  clear HB
                  have HO7014 := n0_
                  have HO7017 := n1_
                  have BK7001 := n2_
                  have BK7002 := n3_
                  have BK7007 := n4_
                  have BK7011 := n5_
                  have HB := n6_
                  clear n0_ n1_ n2_ n3_ n4_ n5_ n6_
                  (try clear hb)
                  (try clear ho0)
                  obtain ⟨Ao116, co116, eo116⟩ := Kd.R_slice HO7014.out
                  (first | subst eo116 | (injection eo116 with f1_ f2_ f3_; have f4_ := f1_.symm; have f5_ := f3_.symm; clear f1_ f2_ f3_; subst f4_; subst f5_))
                  obtain ⟨Ao117, co117, eo117⟩ := Kd.R_slice HO7017.out
                  (first | subst eo117 | (injection eo117 with f1_ f2_ f3_; have f4_ := f1_.symm; have f5_ := f3_.symm; clear f1_ f2_ f3_; subst f4_; subst f5_))
                  refine hK.out _ _ ⟨bc BK7001 0, bc BK7001 1, bc BK7002 0, bc BK7002 1⟩ (fun hHeld => ?_)
                  clear hK K
                  refine nrm (some 33) ?_
                  refine one_ (i := 4) (N := some 34) #[true, true, true, true, true, false] rfl rfl (by kernel_rfl) (by decide) (fun K hK => ?_)
                  refine goes_ Try.func31 (by kernel_rfl) rfl #[.slice Ao116 t7012.length co116, .slice Ao117 t7015.length co117] (by rfl) rfl rfl pa ?_
                  with_reducible refine (flyballref01_Add.calls k _ _ t7012 _ _ t7015 t7018 _ ?side1 ?side2 ?side3 ?side4 A9.out).mono ?_
                  (case side1 => repeat (first | exact (Kd.R_reads' HO7014.out).2.2 | (with_reducible refine Kd.C_alloc ?_ _) | (with_reducible refine Kd.C_drewN ?_ _) | (with_reducible refine Kd.C_drew ?_)))
                  (case side2 => exact (Kd.R_reads' HO7014.out).2.1)
                  (case side3 => repeat (first | exact (Kd.R_reads' HO7017.out).2.2 | (with_reducible refine Kd.C_alloc ?_ _) | (with_reducible refine Kd.C_drewN ?_ _) | (with_reducible refine Kd.C_drew ?_)))
                  (case side4 => exact (Kd.R_reads' HO7017.out).2.1)
                  rintro e w118 ⟨v7019, rfl, ho0, hb⟩
                  refine ⟨_, rfl, ?_⟩
                  have n0_ := Aside0.mk (Kd.R_elder' (by (with_reducible repeat (first | apply Kd.R_alloc | apply Kd.R_drewN | apply Kd.R_drew)); exact HO7014.out) (Kd.R_base ho0) hb)
                  have n1_ := Aside0.mk (Kd.R_elder' (by (with_reducible repeat (first | apply Kd.R_alloc | apply Kd.R_drewN | apply Kd.R_drew)); exact HO7017.out) (Kd.R_base ho0) hb)
                  have n2_ := Aside0.mk (Kd.R_lower (Kd.R_new' (Kd.R_new' ho0 (Kd.R_lt (by (with_reducible repeat (first | apply Kd.R_alloc | apply Kd.R_drewN | apply Kd.R_drew)); exact HO7014.out))) (Kd.R_lt (by (with_reducible repeat (first | apply Kd.R_alloc | apply Kd.R_drewN | apply Kd.R_drew)); exact HO7017.out))) (below_size (pl HB)))
                  (first | have n3_ := flyballlaw01_WideAdds.kb0 BK7001 hb | have n3_ := flyballlaw01_WideAdds.kb1 BK7001 hb | have n3_ := flyballlaw01_WideAdds.kb2 BK7001 hb | have n3_ := kb BK7001 hb)
                  (first | have n4_ := flyballlaw01_WideAdds.kb0 BK7002 hb | have n4_ := flyballlaw01_WideAdds.kb1 BK7002 hb | have n4_ := flyballlaw01_WideAdds.kb2 BK7002 hb | have n4_ := kb BK7002 hb)
                  (first | have n5_ := flyballlaw01_WideAdds.kb0 BK7007 hb | have n5_ := flyballlaw01_WideAdds.kb1 BK7007 hb | have n5_ := flyballlaw01_WideAdds.kb2 BK7007 hb | have n5_ := kb BK7007 hb)
                  (first | have n6_ := flyballlaw01_WideAdds.kb0 BK7011 hb | have n6_ := flyballlaw01_WideAdds.kb1 BK7011 hb | have n6_ := flyballlaw01_WideAdds.kb2 BK7011 hb | have n6_ := kb BK7011 hb)
                  have n7_ := kh HB hb
                  clear HO7014
                  clear HO7017
                  clear BK7001
                  clear BK7002
                  clear BK7007
                  clear BK7011
                  clear HB
                  have HO7014 := n0_
                  have HO7017 := n1_
                  have HO7020 := n2_
                  have BK7001 := n3_
                  have BK7002 := n4_
                  have BK7007 := n5_
                  have BK7011 := n6_
                  have HB := n7_
                  clear n0_ n1_ n2_ n3_ n4_ n5_ n6_ n7_
                  (try clear hb)
                  (try clear ho0)
                  refine hK.out _ _ ⟨bc BK7001 0, bc BK7001 1, bc BK7002 0, bc BK7002 1⟩ (fun hHeld => ?_)
                  clear hK K
                  refine nrm (some 34) ?_
                  refine pur 5 (some 10) #[true, true, true, true, true, true] (by kernel_rfl) ?_
                  refine done_ (by kernel_rfl) ?_
                  try go_wp2
                  replace HO7014 := Aside0.mk (Kd.R_drew HO7014.out)
                  replace HO7017 := Aside0.mk (Kd.R_drew HO7017.out)
                  replace HO7020 := Aside0.mk (Kd.R_drew HO7020.out)
                  replace BK7001 := Aside0.mk (blk_drew BK7001.out)
                  replace BK7002 := Aside0.mk (blk_drew BK7002.out)
                  replace BK7007 := Aside0.mk (blk_drew BK7007.out)
                  replace BK7011 := Aside0.mk (blk_drew BK7011.out)
                  replace HB := Aside0.mk (below_drew1 HB.out)
                  refine start_ (n := 10) (S := fun w' => w'.cell? ⟨gb7001, 0, none⟩ = some (.int .u64 a0_0) ∧ w'.cell? ⟨gb7001, 1, none⟩ = some (.int .u64 a0_1) ∧ w'.cell? ⟨gb7002, 0, none⟩ = some (.int .u64 a1_0) ∧ w'.cell? ⟨gb7002, 1, none⟩ = some (.int .u64 a1_1)) (ds := []) #[false, false, false, false, false, false, false, false, false, false] (by kernel_rfl) rfl rfl ⟨bc BK7001 0, bc BK7001 1, bc BK7002 0, bc BK7002 1⟩ (fun hHeld => ?_); refine with_tabW flyballlaw01_WideAdds.tab7 flyballlaw01_WideAdds.bits7 (fun HT_ HW_ => ?_)
                  generalize w118.drew = w119 at HO7014 HO7017 HO7020 BK7001 BK7002 BK7007 BK7011 HB hHeld ⊢
                  refine tak 0 (some 36) #[true, false, false, false, false, false, false, false, false, false] (take_ofW HT_.out HW_.out (by kernel_rfl)) hHeld ?_
                  refine tak 2 (some 38) #[true, false, true, false, false, false, false, false, false, false] (take_ofW HT_.out HW_.out (by kernel_rfl)) hHeld ?_
                  refine one_ (i := 1) (N := some 37) #[true, true, true, false, false, false, false, false, false, false] rfl rfl (one_of HT_.out (by kernel_rfl)) (by decide) (fun K hK => ?_)
                  refine goes_ Try.func15 (by kernel_rfl) rfl #[.agg #[.int .u64 a0_0, .int .u64 a0_1]] (by rfl) rfl rfl pa ?_
                  with_reducible refine (flyballlaw01_of.calls k a0_0 a0_1 t7021 _ A10.out).mono ?_
                  rintro e w120 ⟨v7022, rfl, ho0, hb⟩
                  refine ⟨_, rfl, ?_⟩
                  have n0_ := Aside0.mk (Kd.R_elder' (by (with_reducible repeat (first | apply Kd.R_alloc | apply Kd.R_drewN | apply Kd.R_drew)); exact HO7014.out) (Kd.R_base ho0) hb)
                  have n1_ := Aside0.mk (Kd.R_elder' (by (with_reducible repeat (first | apply Kd.R_alloc | apply Kd.R_drewN | apply Kd.R_drew)); exact HO7017.out) (Kd.R_base ho0) hb)
                  have n2_ := Aside0.mk (Kd.R_elder' (by (with_reducible repeat (first | apply Kd.R_alloc | apply Kd.R_drewN | apply Kd.R_drew)); exact HO7020.out) (Kd.R_base ho0) hb)
                  have n3_ := Aside0.mk (Kd.R_lower (Kd.R_new' (Kd.R_new' (Kd.R_new' ho0 (Kd.R_lt (by (with_reducible repeat (first | apply Kd.R_alloc | apply Kd.R_drewN | apply Kd.R_drew)); exact HO7014.out))) (Kd.R_lt (by (with_reducible repeat (first | apply Kd.R_alloc | apply Kd.R_drewN | apply Kd.R_drew)); exact HO7017.out))) (Kd.R_lt (by (with_reducible repeat (first | apply Kd.R_alloc | apply Kd.R_drewN | apply Kd.R_drew)); exact HO7020.out))) (below_size (pl HB)))
                  (first | have n4_ := flyballlaw01_WideAdds.kb0 BK7001 hb | have n4_ := flyballlaw01_WideAdds.kb1 BK7001 hb | have n4_ := flyballlaw01_WideAdds.kb2 BK7001 hb | have n4_ := kb BK7001 hb)
                  (first | have n5_ := flyballlaw01_WideAdds.kb0 BK7002 hb | have n5_ := flyballlaw01_WideAdds.kb1 BK7002 hb | have n5_ := flyballlaw01_WideAdds.kb2 BK7002 hb | have n5_ := kb BK7002 hb)
                  (first | have n6_ := flyballlaw01_WideAdds.kb0 BK7007 hb | have n6_ := flyballlaw01_WideAdds.kb1 BK7007 hb | have n6_ := flyballlaw01_WideAdds.kb2 BK7007 hb | have n6_ := kb BK7007 hb)
                  (first | have n7_ := flyballlaw01_WideAdds.kb0 BK7011 hb | have n7_ := flyballlaw01_WideAdds.kb1 BK7011 hb | have n7_ := flyballlaw01_WideAdds.kb2 BK7011 hb | have n7_ := kb BK7011 hb)
                  have n8_ := kh HB hb
                  clear HO7014
                  clear HO7017
                  clear HO7020
                  clear BK7001
                  clear BK7002
                  clear BK7007
                  clear BK7011
                  clear HB
                  have HO7014 := n0_
                  have HO7017 := n1_
                  have HO7020 := n2_
                  have HO7023 := n3_
                  have BK7001 := n4_
                  have BK7002 := n5_
                  have BK7007 := n6_
                  have BK7011 := n7_
                  have HB := n8_
                  clear n0_ n1_ n2_ n3_ n4_ n5_ n6_ n7_ n8_
                  (try clear hb)
                  (try clear ho0)
                  refine hK.out _ _ ⟨bc BK7001 0, bc BK7001 1, bc BK7002 0, bc BK7002 1⟩ (fun hHeld => ?_)
                  clear hK K
                  refine nrm (some 37) ?_
                  refine one_ (i := 3) (N := some 39) #[true, true, true, true, false, false, false, false, false, false] rfl rfl (one_of HT_.out (by kernel_rfl)) (by decide) (fun K hK => ?_)
                  refine goes_ Try.func15 (by kernel_rfl) rfl #[.agg #[.int .u64 a1_0, .int .u64 a1_1]] (by rfl) rfl rfl pa ?_
                  with_reducible refine (flyballlaw01_of.calls k a1_0 a1_1 t7024 _ A11.out).mono ?_
                  rintro e w121 ⟨v7025, rfl, ho0, hb⟩
                  refine ⟨_, rfl, ?_⟩
                  have n0_ := Aside0.mk (Kd.R_elder' (by (with_reducible repeat (first | apply Kd.R_alloc | apply Kd.R_drewN | apply Kd.R_drew)); exact HO7014.out) (Kd.R_base ho0) hb)
                  have n1_ := Aside0.mk (Kd.R_elder' (by (with_reducible repeat (first | apply Kd.R_alloc | apply Kd.R_drewN | apply Kd.R_drew)); exact HO7017.out) (Kd.R_base ho0) hb)
                  have n2_ := Aside0.mk (Kd.R_elder' (by (with_reducible repeat (first | apply Kd.R_alloc | apply Kd.R_drewN | apply Kd.R_drew)); exact HO7020.out) (Kd.R_base ho0) hb)
                  have n3_ := Aside0.mk (Kd.R_elder' (by (with_reducible repeat (first | apply Kd.R_alloc | apply Kd.R_drewN | apply Kd.R_drew)); exact HO7023.out) (Kd.R_base ho0) hb)
                  have n4_ := Aside0.mk (Kd.R_lower (Kd.R_new' (Kd.R_new' (Kd.R_new' (Kd.R_new' ho0 (Kd.R_lt (by (with_reducible repeat (first | apply Kd.R_alloc | apply Kd.R_drewN | apply Kd.R_drew)); exact HO7014.out))) (Kd.R_lt (by (with_reducible repeat (first | apply Kd.R_alloc | apply Kd.R_drewN | apply Kd.R_drew)); exact HO7017.out))) (Kd.R_lt (by (with_reducible repeat (first | apply Kd.R_alloc | apply Kd.R_drewN | apply Kd.R_drew)); exact HO7020.out))) (Kd.R_lt (by (with_reducible repeat (first | apply Kd.R_alloc | apply Kd.R_drewN | apply Kd.R_drew)); exact HO7023.out))) (below_size (pl HB)))
                  (first | have n5_ := flyballlaw01_WideAdds.kb0 BK7001 hb | have n5_ := flyballlaw01_WideAdds.kb1 BK7001 hb | have n5_ := flyballlaw01_WideAdds.kb2 BK7001 hb | have n5_ := kb BK7001 hb)
                  (first | have n6_ := flyballlaw01_WideAdds.kb0 BK7002 hb | have n6_ := flyballlaw01_WideAdds.kb1 BK7002 hb | have n6_ := flyballlaw01_WideAdds.kb2 BK7002 hb | have n6_ := kb BK7002 hb)
                  (first | have n7_ := flyballlaw01_WideAdds.kb0 BK7007 hb | have n7_ := flyballlaw01_WideAdds.kb1 BK7007 hb | have n7_ := flyballlaw01_WideAdds.kb2 BK7007 hb | have n7_ := kb BK7007 hb)
                  (first | have n8_ := flyballlaw01_WideAdds.kb0 BK7011 hb | have n8_ := flyballlaw01_WideAdds.kb1 BK7011 hb | have n8_ := flyballlaw01_WideAdds.kb2 BK7011 hb | have n8_ := kb BK7011 hb)
                  have n9_ := kh HB hb
                  clear HO7014
                  clear HO7017
                  clear HO7020
                  clear HO7023
                  clear BK7001
                  clear BK7002
                  clear BK7007
                  clear BK7011
                  clear HB
                  have HO7014 := n0_
                  have HO7017 := n1_
                  have HO7020 := n2_
                  have HO7023 := n3_
                  have HO7026 := n4_
                  have BK7001 := n5_
                  have BK7002 := n6_
                  have BK7007 := n7_
                  have BK7011 := n8_
                  have HB := n9_
                  clear n0_ n1_ n2_ n3_ n4_ n5_ n6_ n7_ n8_ n9_
                  (try clear hb)
                  (try clear ho0)
                  obtain ⟨Ao122, co122, eo122⟩ := Kd.R_slice HO7023.out
                  (first | subst eo122 | (injection eo122 with f1_ f2_ f3_; have f4_ := f1_.symm; have f5_ := f3_.symm; clear f1_ f2_ f3_; subst f4_; subst f5_))
                  obtain ⟨Ao123, co123, eo123⟩ := Kd.R_slice HO7026.out
                  (first | subst eo123 | (injection eo123 with f1_ f2_ f3_; have f4_ := f1_.symm; have f5_ := f3_.symm; clear f1_ f2_ f3_; subst f4_; subst f5_))
                  refine hK.out _ _ ⟨bc BK7001 0, bc BK7001 1, bc BK7002 0, bc BK7002 1⟩ (fun hHeld => ?_)
                  clear hK K
                  refine nrm (some 39) ?_
                  refine one_ (i := 4) (N := some 40) #[true, true, true, true, true, false, false, false, false, false] rfl rfl (one_of HT_.out (by kernel_rfl)) (by decide) (fun K hK => ?_)
                  refine goes_ Try.func32 (by kernel_rfl) rfl #[.slice Ao122 t7021.length co122, .slice Ao123 t7024.length co123, .int .i64 128] (by rfl) rfl rfl pa ?_
                  with_reducible refine (flyballref01_Sub.calls k _ _ t7021 _ _ t7024 128 t7027 t7028 _ ?side1 ?side2 ?side3 ?side4 A12.out).mono ?_
                  (case side1 => repeat (first | exact (Kd.R_reads' HO7023.out).2.2 | (with_reducible refine Kd.C_alloc ?_ _) | (with_reducible refine Kd.C_drewN ?_ _) | (with_reducible refine Kd.C_drew ?_)))
                  (case side2 => exact (Kd.R_reads' HO7023.out).2.1)
                  (case side3 => repeat (first | exact (Kd.R_reads' HO7026.out).2.2 | (with_reducible refine Kd.C_alloc ?_ _) | (with_reducible refine Kd.C_drewN ?_ _) | (with_reducible refine Kd.C_drew ?_)))
                  (case side4 => exact (Kd.R_reads' HO7026.out).2.1)
                  rintro e w124 ⟨v7029, rfl, ho0, hb⟩
                  refine ⟨_, rfl, ?_⟩
                  have n0_ := Aside0.mk (Kd.R_elder' (by (with_reducible repeat (first | apply Kd.R_alloc | apply Kd.R_drewN | apply Kd.R_drew)); exact HO7014.out) (Kd.R_base ho0) hb)
                  have n1_ := Aside0.mk (Kd.R_elder' (by (with_reducible repeat (first | apply Kd.R_alloc | apply Kd.R_drewN | apply Kd.R_drew)); exact HO7017.out) (Kd.R_base ho0) hb)
                  have n2_ := Aside0.mk (Kd.R_elder' (by (with_reducible repeat (first | apply Kd.R_alloc | apply Kd.R_drewN | apply Kd.R_drew)); exact HO7020.out) (Kd.R_base ho0) hb)
                  have n3_ := Aside0.mk (Kd.R_elder' (by (with_reducible repeat (first | apply Kd.R_alloc | apply Kd.R_drewN | apply Kd.R_drew)); exact HO7023.out) (Kd.R_base ho0) hb)
                  have n4_ := Aside0.mk (Kd.R_elder' (by (with_reducible repeat (first | apply Kd.R_alloc | apply Kd.R_drewN | apply Kd.R_drew)); exact HO7026.out) (Kd.R_base ho0) hb)
                  have n5_ := Aside0.mk (Kd.R_lower (Kd.R_new' (Kd.R_new' (Kd.R_new' (Kd.R_new' (Kd.R_new' ho0 (Kd.R_lt (by (with_reducible repeat (first | apply Kd.R_alloc | apply Kd.R_drewN | apply Kd.R_drew)); exact HO7014.out))) (Kd.R_lt (by (with_reducible repeat (first | apply Kd.R_alloc | apply Kd.R_drewN | apply Kd.R_drew)); exact HO7017.out))) (Kd.R_lt (by (with_reducible repeat (first | apply Kd.R_alloc | apply Kd.R_drewN | apply Kd.R_drew)); exact HO7020.out))) (Kd.R_lt (by (with_reducible repeat (first | apply Kd.R_alloc | apply Kd.R_drewN | apply Kd.R_drew)); exact HO7023.out))) (Kd.R_lt (by (with_reducible repeat (first | apply Kd.R_alloc | apply Kd.R_drewN | apply Kd.R_drew)); exact HO7026.out))) (below_size (pl HB)))
                  (first | have n6_ := flyballlaw01_WideAdds.kb0 BK7001 hb | have n6_ := flyballlaw01_WideAdds.kb1 BK7001 hb | have n6_ := flyballlaw01_WideAdds.kb2 BK7001 hb | have n6_ := kb BK7001 hb)
                  (first | have n7_ := flyballlaw01_WideAdds.kb0 BK7002 hb | have n7_ := flyballlaw01_WideAdds.kb1 BK7002 hb | have n7_ := flyballlaw01_WideAdds.kb2 BK7002 hb | have n7_ := kb BK7002 hb)
                  (first | have n8_ := flyballlaw01_WideAdds.kb0 BK7007 hb | have n8_ := flyballlaw01_WideAdds.kb1 BK7007 hb | have n8_ := flyballlaw01_WideAdds.kb2 BK7007 hb | have n8_ := kb BK7007 hb)
                  (first | have n9_ := flyballlaw01_WideAdds.kb0 BK7011 hb | have n9_ := flyballlaw01_WideAdds.kb1 BK7011 hb | have n9_ := flyballlaw01_WideAdds.kb2 BK7011 hb | have n9_ := kb BK7011 hb)
                  have n10_ := kh HB hb
                  clear HO7014
                  clear HO7017
                  clear HO7020
                  clear HO7023
                  clear HO7026
                  clear BK7001
                  clear BK7002
                  clear BK7007
                  clear BK7011
                  clear HB
                  have HO7014 := n0_
                  have HO7017 := n1_
                  have HO7020 := n2_
                  have HO7023 := n3_
                  have HO7026 := n4_
                  have HO7030 := n5_
                  have BK7001 := n6_
                  have BK7002 := n7_
                  have BK7007 := n8_
                  have BK7011 := n9_
                  have HB := n10_
                  clear n0_ n1_ n2_ n3_ n4_ n5_ n6_ n7_ n8_ n9_ n10_
                  (try clear hb)
                  (try clear ho0)
                  refine hK.out _ _ ⟨bc BK7001 0, bc BK7001 1, bc BK7002 0, bc BK7002 1⟩ (fun hHeld => ?_)
                  clear hK K
                  refine nrm (some 40) ?_
                  refine pur 5 (some 35) #[true, true, true, true, true, true, false, false, false, false] (any_of HT_.out (by kernel_rfl)) ?_
                  refine pur 6 (some 41) #[true, true, true, true, true, true, true, false, false, false] (any_of HT_.out (by kernel_rfl)) ?_
                  refine pur 7 (some 42) #[true, true, true, true, true, true, true, true, false, false] (any_of HT_.out (by kernel_rfl)) ?_
                  refine pur 8 (some 11) #[true, true, true, true, true, true, true, true, true, false] (any_of HT_.out (by kernel_rfl)) ?_
                  refine pur 9 (some 12) #[true, true, true, true, true, true, true, true, true, true] (any_of HT_.out (by kernel_rfl)) ?_
                  refine done_ (done_of HT_.out (by kernel_rfl)) ?_
                  try go_wp2
                  replace HO7014 := Aside0.mk (Kd.R_drew HO7014.out)
                  replace HO7017 := Aside0.mk (Kd.R_drew HO7017.out)
                  replace HO7020 := Aside0.mk (Kd.R_drew HO7020.out)
                  replace HO7023 := Aside0.mk (Kd.R_drew HO7023.out)
                  replace HO7026 := Aside0.mk (Kd.R_drew HO7026.out)
                  replace HO7030 := Aside0.mk (Kd.R_drew HO7030.out)
                  replace BK7001 := Aside0.mk (blk_drew BK7001.out)
                  replace BK7002 := Aside0.mk (blk_drew BK7002.out)
                  replace BK7007 := Aside0.mk (blk_drew BK7007.out)
                  replace BK7011 := Aside0.mk (blk_drew BK7011.out)
                  replace HB := Aside0.mk (below_drew1 HB.out)
                  obtain ⟨Ao127, co127, eo127⟩ := Kd.R_slice HO7020.out
                  (first | subst eo127 | (injection eo127 with f1_ f2_ f3_; have f4_ := f1_.symm; have f5_ := f3_.symm; clear f1_ f2_ f3_; subst f4_; subst f5_))
                  have q126 : (128 : Int) ≤ ((t7018.length : Int) : Int) := of_decide_eq_true (by first | (with_reducible assumption) | assumption)
                  obtain ⟨i0126, hi0126, _, hsz126, _⟩ := info_parts info4
                  have hroom126 : t7018.length ≤ co127 := (Kd.R_reads' HO7020.out).2.1
                  have hC126 : Kd.C Kd.bool _ Ao127 t7018.length t7018 := (Kd.R_reads' HO7020.out).2.2
                  have hcut126 := cut_to (P := Try.prog) 32 4 .i64 Try.underlying32 hi0126 Ao127 t7018.length co127 128 (by omega) q126 hroom126
                  have hr126 := Kd.C_take (m := 128) hC126 (by omega)
                  have hy126 : y7031.length = (128 : Int).toNat := (by rw [Ny7031.out, List.length_take]; omega)
                  rw [← Ny7031.out] at hr126
                  rw [← hy126] at hcut126
                  have HR7034 := Aside0.mk hr126
                  have HC7034 := Aside0.mk (show y7031.length ≤ co127 from by omega)
                  clear hr126 hC126 hroom126 hi0126 hsz126
                  have KY126 := Aside0.mk hy126
                  clear hy126
                  have KL126 := Aside0.mk (show 128 ≤ t7018.length from by omega)
                  replace q126 := eq_true q126
                  refine start_ (n := 5) (S := fun w' => w'.cell? ⟨gb7007, 0, none⟩ = some (.int .u64 t7004) ∧ w'.cell? ⟨gb7007, 1, none⟩ = some (.int .u64 t7005)) (ds := []) #[false, false, false, false, false] (by kernel_rfl) rfl rfl ⟨bc BK7007 0, bc BK7007 1⟩ (fun hHeld => ?_)
                  generalize w124.drew = w125 at HO7014 HO7017 HO7020 HO7023 HO7026 HO7030 BK7001 BK7002 BK7007 BK7011 HB HR7034 hHeld ⊢
                  refine pur 1 (some 44) #[false, true, false, false, false] (by kernel_rfl) ?_
                  refine pur 2 (some 45) #[false, true, true, false, false] (by kernel_rfl) ?_
                  refine tak 0 (some 43) #[true, true, true, false, false] (by kernel_rfl) hHeld ?_
                  refine one_ (i := 3) (N := some 46) #[true, true, true, true, false] rfl rfl (by kernel_rfl) (by decide) (fun K hK => ?_)
                  refine goes_ Try.func17 (by kernel_rfl) rfl #[.agg #[.int .u64 t7004, .int .u64 t7005], .slice Ao127 y7031.length co127] (by rfl) rfl rfl pa ?_
                  with_reducible refine (flyballlaw01_is.calls k t7004 t7005 _ _ y7031 true _ ?side1 ?side2 A14.out).mono ?_
                  (case side1 => repeat (first | exact (by repeat (first | (with_reducible exact HR7034.out) | (with_reducible refine Kd.C_alloc ?_ _) | (with_reducible refine Kd.C_drewN ?_ _) | (with_reducible refine Kd.C_drew ?_) | exact HR7034.out)) | (with_reducible refine Kd.C_alloc ?_ _) | (with_reducible refine Kd.C_drewN ?_ _) | (with_reducible refine Kd.C_drew ?_)))
                  (case side2 => exact HC7034.out)
                  rintro e w128 ⟨rfl, hb⟩
                  refine ⟨_, rfl, ?_⟩
                  have n0_ := Aside0.mk (Kd.R_below (by (with_reducible repeat (first | apply Kd.R_alloc | apply Kd.R_drewN | apply Kd.R_drew)); exact HO7014.out) hb)
                  have n1_ := Aside0.mk (Kd.R_below (by (with_reducible repeat (first | apply Kd.R_alloc | apply Kd.R_drewN | apply Kd.R_drew)); exact HO7017.out) hb)
                  have n2_ := Aside0.mk (Kd.R_below (by (with_reducible repeat (first | apply Kd.R_alloc | apply Kd.R_drewN | apply Kd.R_drew)); exact HO7020.out) hb)
                  have n3_ := Aside0.mk (Kd.R_below (by (with_reducible repeat (first | apply Kd.R_alloc | apply Kd.R_drewN | apply Kd.R_drew)); exact HO7023.out) hb)
                  have n4_ := Aside0.mk (Kd.R_below (by (with_reducible repeat (first | apply Kd.R_alloc | apply Kd.R_drewN | apply Kd.R_drew)); exact HO7026.out) hb)
                  have n5_ := Aside0.mk (Kd.R_below (by (with_reducible repeat (first | apply Kd.R_alloc | apply Kd.R_drewN | apply Kd.R_drew)); exact HO7030.out) hb)
                  (first | have n6_ := flyballlaw01_WideAdds.kb0 BK7001 hb | have n6_ := flyballlaw01_WideAdds.kb1 BK7001 hb | have n6_ := flyballlaw01_WideAdds.kb2 BK7001 hb | have n6_ := kb BK7001 hb)
                  (first | have n7_ := flyballlaw01_WideAdds.kb0 BK7002 hb | have n7_ := flyballlaw01_WideAdds.kb1 BK7002 hb | have n7_ := flyballlaw01_WideAdds.kb2 BK7002 hb | have n7_ := kb BK7002 hb)
                  (first | have n8_ := flyballlaw01_WideAdds.kb0 BK7007 hb | have n8_ := flyballlaw01_WideAdds.kb1 BK7007 hb | have n8_ := flyballlaw01_WideAdds.kb2 BK7007 hb | have n8_ := kb BK7007 hb)
                  (first | have n9_ := flyballlaw01_WideAdds.kb0 BK7011 hb | have n9_ := flyballlaw01_WideAdds.kb1 BK7011 hb | have n9_ := flyballlaw01_WideAdds.kb2 BK7011 hb | have n9_ := kb BK7011 hb)
                  (first | (with_reducible have n10_ := Aside0.mk (Kd.C_below HR7034.out hb)) | (with_reducible have n10_ := Aside0.mk (Kd.C_below (Kd.C_drewN HR7034.out _) hb)) | (with_reducible have n10_ := Aside0.mk (Kd.C_below (Kd.C_drewN (Kd.C_drewN HR7034.out _) _) hb)))
                  have n11_ := kh HB hb
                  clear HO7014
                  clear HO7017
                  clear HO7020
                  clear HO7023
                  clear HO7026
                  clear HO7030
                  clear BK7001
                  clear BK7002
                  clear BK7007
                  clear BK7011
                  clear HR7034
                  clear HB
                  have HO7014 := n0_
                  have HO7017 := n1_
                  have HO7020 := n2_
                  have HO7023 := n3_
                  have HO7026 := n4_
                  have HO7030 := n5_
                  have BK7001 := n6_
                  have BK7002 := n7_
                  have BK7007 := n8_
                  have BK7011 := n9_
                  have HR7034 := n10_
                  have HB := n11_
                  clear n0_ n1_ n2_ n3_ n4_ n5_ n6_ n7_ n8_ n9_ n10_ n11_
                  (try clear hb)
                  refine hK.out _ _ ⟨bc BK7007 0, bc BK7007 1⟩ (fun hHeld => ?_)
                  clear hK K
                  refine nrm (some 46) ?_
                  refine pur 4 (some 13) #[true, true, true, true, true] (by kernel_rfl) ?_
                  refine done_ (by kernel_rfl) ?_
                  have hcz129_0 : w128.cell? ⟨gb7011, 0, none⟩ = some (.int .u64 t7008) := bc BK7011 0
                  have hcz129_1 : w128.cell? ⟨gb7011, 1, none⟩ = some (.int .u64 t7009) := bc BK7011 1
                  have hfz129_0 := blk_frozen BK7011.out 0
                  have hfz129_1 := blk_frozen BK7011.out 1
                  obtain ⟨Ao130, co130, eo130⟩ := Kd.R_slice HO7030.out
                  subst eo130
                  try go_wp2_with (first | ((with_reducible refine gate_callee (f := 17) rfl ?_); refine goesL_ (some 49) rfl rfl Try.func17 (by kernel_rfl) rfl #[.agg #[.int .u64 t7008, .int .u64 t7009], .slice Ao130 t7027.length co130] rfl pa ?_; (with_reducible refine (flyballlaw01_is.calls k t7008 t7009 _ _ t7027 true _ ?side1 ?side2 A15.out).mono ?_); (case side1 => repeat (first | exact (Kd.R_reads' HO7030.out).2.2 | (with_reducible refine Kd.C_alloc ?_ _) | (with_reducible refine Kd.C_drewN ?_ _) | (with_reducible refine Kd.C_drew ?_))); (case side2 => exact (Kd.R_reads' HO7030.out).2.1); rintro e w131 ⟨rfl, hb⟩; refine ⟨_, rfl, ?_⟩; have n0_ := Aside0.mk (Kd.R_below (by (with_reducible repeat (first | apply Kd.R_alloc | apply Kd.R_drewN | apply Kd.R_drew)); exact HO7014.out) hb); have n1_ := Aside0.mk (Kd.R_below (by (with_reducible repeat (first | apply Kd.R_alloc | apply Kd.R_drewN | apply Kd.R_drew)); exact HO7017.out) hb); have n2_ := Aside0.mk (Kd.R_below (by (with_reducible repeat (first | apply Kd.R_alloc | apply Kd.R_drewN | apply Kd.R_drew)); exact HO7020.out) hb); have n3_ := Aside0.mk (Kd.R_below (by (with_reducible repeat (first | apply Kd.R_alloc | apply Kd.R_drewN | apply Kd.R_drew)); exact HO7023.out) hb); have n4_ := Aside0.mk (Kd.R_below (by (with_reducible repeat (first | apply Kd.R_alloc | apply Kd.R_drewN | apply Kd.R_drew)); exact HO7026.out) hb); have n5_ := Aside0.mk (Kd.R_below (by (with_reducible repeat (first | apply Kd.R_alloc | apply Kd.R_drewN | apply Kd.R_drew)); exact HO7030.out) hb); (first | have n6_ := flyballlaw01_WideAdds.kb0 BK7001 hb | have n6_ := flyballlaw01_WideAdds.kb1 BK7001 hb | have n6_ := flyballlaw01_WideAdds.kb2 BK7001 hb | have n6_ := kb BK7001 hb); (first | have n7_ := flyballlaw01_WideAdds.kb0 BK7002 hb | have n7_ := flyballlaw01_WideAdds.kb1 BK7002 hb | have n7_ := flyballlaw01_WideAdds.kb2 BK7002 hb | have n7_ := kb BK7002 hb); (first | have n8_ := flyballlaw01_WideAdds.kb0 BK7007 hb | have n8_ := flyballlaw01_WideAdds.kb1 BK7007 hb | have n8_ := flyballlaw01_WideAdds.kb2 BK7007 hb | have n8_ := kb BK7007 hb); (first | have n9_ := flyballlaw01_WideAdds.kb0 BK7011 hb | have n9_ := flyballlaw01_WideAdds.kb1 BK7011 hb | have n9_ := flyballlaw01_WideAdds.kb2 BK7011 hb | have n9_ := kb BK7011 hb); (first | (with_reducible have n10_ := Aside0.mk (Kd.C_below HR7034.out hb)) | (with_reducible have n10_ := Aside0.mk (Kd.C_below (Kd.C_drewN HR7034.out _) hb)) | (with_reducible have n10_ := Aside0.mk (Kd.C_below (Kd.C_drewN (Kd.C_drewN HR7034.out _) _) hb))); have n11_ := kh HB hb; clear HO7014; clear HO7017; clear HO7020; clear HO7023; clear HO7026; clear HO7030; clear BK7001; clear BK7002; clear BK7007; clear BK7011; clear HR7034; clear HB; have HO7014 := n0_; have HO7017 := n1_; have HO7020 := n2_; have HO7023 := n3_; have HO7026 := n4_; have HO7030 := n5_; have BK7001 := n6_; have BK7002 := n7_; have BK7007 := n8_; have BK7011 := n9_; have HR7034 := n10_; have HB := n11_; clear n0_ n1_ n2_ n3_ n4_ n5_ n6_ n7_ n8_ n9_ n10_ n11_; (try clear hb)))
                  replace HO7014 := Aside0.mk (Kd.R_drew HO7014.out)
                  replace HO7017 := Aside0.mk (Kd.R_drew HO7017.out)
                  replace HO7020 := Aside0.mk (Kd.R_drew HO7020.out)
                  replace HO7023 := Aside0.mk (Kd.R_drew HO7023.out)
                  replace HO7026 := Aside0.mk (Kd.R_drew HO7026.out)
                  replace HO7030 := Aside0.mk (Kd.R_drew HO7030.out)
                  replace BK7001 := Aside0.mk (blk_drew BK7001.out)
                  replace BK7002 := Aside0.mk (blk_drew BK7002.out)
                  replace BK7007 := Aside0.mk (blk_drew BK7007.out)
                  replace BK7011 := Aside0.mk (blk_drew BK7011.out)
                  replace HR7034 := Aside0.mk (Kd.C_drew HR7034.out)
                  replace HB := Aside0.mk (below_drew1 HB.out)
                  refine start_ (n := 46) (S := fun w' => w'.cell? ⟨gb7001, 0, none⟩ = some (.int .u64 a0_0) ∧ w'.cell? ⟨gb7001, 1, none⟩ = some (.int .u64 a0_1) ∧ w'.cell? ⟨gb7002, 0, none⟩ = some (.int .u64 a1_0) ∧ w'.cell? ⟨gb7002, 1, none⟩ = some (.int .u64 a1_1)) (ds := []) #[false, false, false, false, false, false, false, false, false, false, false, false, false, false, false, false, false, false, false, false, false, false, false, false, false, false, false, false, false, false, false, false, false, false, false, false, false, false, false, false, false, false, false, false, false, false] (by kernel_rfl) rfl rfl ⟨bc BK7001 0, bc BK7001 1, bc BK7002 0, bc BK7002 1⟩ (fun hHeld => ?_); refine with_tabW flyballlaw01_WideAdds.tab10 flyballlaw01_WideAdds.bits10 (fun HT_ HW_ => ?_)
                  generalize w131.drew = w132 at HO7014 HO7017 HO7020 HO7023 HO7026 HO7030 BK7001 BK7002 BK7007 BK7011 HR7034 HB hHeld ⊢
                  refine pur 0 (some 50) #[true, false, false, false, false, false, false, false, false, false, false, false, false, false, false, false, false, false, false, false, false, false, false, false, false, false, false, false, false, false, false, false, false, false, false, false, false, false, false, false, false, false, false, false, false, false] (any_of HT_.out (by kernel_rfl)) ?_
                  refine pur 1 (some 51) #[true, true, false, false, false, false, false, false, false, false, false, false, false, false, false, false, false, false, false, false, false, false, false, false, false, false, false, false, false, false, false, false, false, false, false, false, false, false, false, false, false, false, false, false, false, false] (any_of HT_.out (by kernel_rfl)) ?_
                  refine pur 2 (some 52) #[true, true, true, false, false, false, false, false, false, false, false, false, false, false, false, false, false, false, false, false, false, false, false, false, false, false, false, false, false, false, false, false, false, false, false, false, false, false, false, false, false, false, false, false, false, false] (any_of HT_.out (by kernel_rfl)) ?_
                  refine pur 3 (some 53) #[true, true, true, true, false, false, false, false, false, false, false, false, false, false, false, false, false, false, false, false, false, false, false, false, false, false, false, false, false, false, false, false, false, false, false, false, false, false, false, false, false, false, false, false, false, false] (any_of HT_.out (by kernel_rfl)) ?_
                  refine pur 4 (some 54) #[true, true, true, true, true, false, false, false, false, false, false, false, false, false, false, false, false, false, false, false, false, false, false, false, false, false, false, false, false, false, false, false, false, false, false, false, false, false, false, false, false, false, false, false, false, false] (any_of HT_.out (by kernel_rfl)) ?_
                  refine pur 5 (some 55) #[true, true, true, true, true, true, false, false, false, false, false, false, false, false, false, false, false, false, false, false, false, false, false, false, false, false, false, false, false, false, false, false, false, false, false, false, false, false, false, false, false, false, false, false, false, false] (any_of HT_.out (by kernel_rfl)) ?_
                  refine pur 6 (some 56) #[true, true, true, true, true, true, true, false, false, false, false, false, false, false, false, false, false, false, false, false, false, false, false, false, false, false, false, false, false, false, false, false, false, false, false, false, false, false, false, false, false, false, false, false, false, false] (any_of HT_.out (by kernel_rfl)) ?_
                  refine pur 7 (some 57) #[true, true, true, true, true, true, true, true, false, false, false, false, false, false, false, false, false, false, false, false, false, false, false, false, false, false, false, false, false, false, false, false, false, false, false, false, false, false, false, false, false, false, false, false, false, false] (any_of HT_.out (by kernel_rfl)) ?_
                  refine pur 8 (some 58) #[true, true, true, true, true, true, true, true, true, false, false, false, false, false, false, false, false, false, false, false, false, false, false, false, false, false, false, false, false, false, false, false, false, false, false, false, false, false, false, false, false, false, false, false, false, false] (any_of HT_.out (by kernel_rfl)) ?_
                  refine pur 9 (some 59) #[true, true, true, true, true, true, true, true, true, true, false, false, false, false, false, false, false, false, false, false, false, false, false, false, false, false, false, false, false, false, false, false, false, false, false, false, false, false, false, false, false, false, false, false, false, false] (any_of HT_.out (by kernel_rfl)) ?_
                  refine pur 10 (some 60) #[true, true, true, true, true, true, true, true, true, true, true, false, false, false, false, false, false, false, false, false, false, false, false, false, false, false, false, false, false, false, false, false, false, false, false, false, false, false, false, false, false, false, false, false, false, false] (any_of HT_.out (by kernel_rfl)) ?_
                  refine pur 11 (some 61) #[true, true, true, true, true, true, true, true, true, true, true, true, false, false, false, false, false, false, false, false, false, false, false, false, false, false, false, false, false, false, false, false, false, false, false, false, false, false, false, false, false, false, false, false, false, false] (any_of HT_.out (by kernel_rfl)) ?_
                  refine pur 12 (some 62) #[true, true, true, true, true, true, true, true, true, true, true, true, true, false, false, false, false, false, false, false, false, false, false, false, false, false, false, false, false, false, false, false, false, false, false, false, false, false, false, false, false, false, false, false, false, false] (any_of HT_.out (by kernel_rfl)) ?_
                  refine pure_ (i := 13) (N := some 63) (v := undef) (a' := ?_) #[true, true, true, true, true, true, true, true, true, true, true, true, true, true, false, false, false, false, false, false, false, false, false, false, false, false, false, false, false, false, false, false, false, false, false, false, false, false, false, false, false, false, false, false, false, false] rfl rfl (any_of HT_.out (by kernel_rfl)) (fun _ _ _ h => h) (Or.inr ⟨by rfl, rfl⟩) ?_ ?_
                  rotate_left
                  · simp only [Act.put, List.setIfInBounds_toArray, List.set_cons_zero, List.set_cons_succ, i64_w, i32_w]
                    rfl
                  refine pure_ (i := 14) (N := some 64) (v := undef) (a' := ?_) #[true, true, true, true, true, true, true, true, true, true, true, true, true, true, true, false, false, false, false, false, false, false, false, false, false, false, false, false, false, false, false, false, false, false, false, false, false, false, false, false, false, false, false, false, false, false] rfl rfl (any_of HT_.out (by kernel_rfl)) (fun _ _ _ h => h) (Or.inr ⟨by rfl, rfl⟩) ?_ ?_
                  rotate_left
                  · simp only [Act.put, List.setIfInBounds_toArray, List.set_cons_zero, List.set_cons_succ, i64_w, i32_w]
                    rfl
                  refine pure_ (i := 15) (N := some 65) (v := undef) (a' := ?_) #[true, true, true, true, true, true, true, true, true, true, true, true, true, true, true, true, false, false, false, false, false, false, false, false, false, false, false, false, false, false, false, false, false, false, false, false, false, false, false, false, false, false, false, false, false, false] rfl rfl (any_of HT_.out (by kernel_rfl)) (fun _ _ _ h => h) (Or.inr ⟨by rfl, rfl⟩) ?_ ?_
                  rotate_left
                  · simp only [Act.put, List.setIfInBounds_toArray, List.set_cons_zero, List.set_cons_succ, i64_w, i32_w]
                    rfl
                  refine pur 16 (some 66) #[true, true, true, true, true, true, true, true, true, true, true, true, true, true, true, true, true, false, false, false, false, false, false, false, false, false, false, false, false, false, false, false, false, false, false, false, false, false, false, false, false, false, false, false, false, false] (any_of HT_.out (by kernel_rfl)) ?_
                  refine one_ (i := 17) (N := some 67) #[true, true, true, true, true, true, true, true, true, true, true, true, true, true, true, true, true, true, false, false, false, false, false, false, false, false, false, false, false, false, false, false, false, false, false, false, false, false, false, false, false, false, false, false, false, false] rfl rfl (one_of HT_.out (by kernel_rfl)) (by decide) (fun K hK => ?_)
                  refine goes_ Try.func33 (by kernel_rfl) rfl #[.bool false] (by rfl) rfl rfl pa ?_
                  with_reducible refine (flyballlaw01_one.calls false t7053 _ A81.out).mono ?_
                  rintro e w' ⟨rfl, ⟨nd, rfl⟩⟩
                  refine ⟨_, rfl, ?_⟩
                  refine hK.out _ _ ⟨bc BK7001 0, bc BK7001 1, bc BK7002 0, bc BK7002 1⟩ (fun hHeld => ?_)
                  clear hK K
                  refine nrm (some 67) ?_
                  refine pur 18 (some 68) #[true, true, true, true, true, true, true, true, true, true, true, true, true, true, true, true, true, true, true, false, false, false, false, false, false, false, false, false, false, false, false, false, false, false, false, false, false, false, false, false, false, false, false, false, false, false] (any_of HT_.out (by kernel_rfl)) ?_
                  refine pur 19 (some 69) #[true, true, true, true, true, true, true, true, true, true, true, true, true, true, true, true, true, true, true, true, false, false, false, false, false, false, false, false, false, false, false, false, false, false, false, false, false, false, false, false, false, false, false, false, false, false] (any_of HT_.out (by kernel_rfl)) ?_
                  refine pur 20 (some 70) #[true, true, true, true, true, true, true, true, true, true, true, true, true, true, true, true, true, true, true, true, true, false, false, false, false, false, false, false, false, false, false, false, false, false, false, false, false, false, false, false, false, false, false, false, false, false] (any_of HT_.out (by kernel_rfl)) ?_
                  refine pur 21 (some 71) #[true, true, true, true, true, true, true, true, true, true, true, true, true, true, true, true, true, true, true, true, true, true, false, false, false, false, false, false, false, false, false, false, false, false, false, false, false, false, false, false, false, false, false, false, false, false] (any_of HT_.out (by kernel_rfl)) ?_
                  refine pur 22 (some 72) #[true, true, true, true, true, true, true, true, true, true, true, true, true, true, true, true, true, true, true, true, true, true, true, false, false, false, false, false, false, false, false, false, false, false, false, false, false, false, false, false, false, false, false, false, false, false] (any_of HT_.out (by kernel_rfl)) ?_
                  refine one_ (i := 23) (N := some 73) #[true, true, true, true, true, true, true, true, true, true, true, true, true, true, true, true, true, true, true, true, true, true, true, true, false, false, false, false, false, false, false, false, false, false, false, false, false, false, false, false, false, false, false, false, false, false] rfl rfl (one_of HT_.out (by kernel_rfl)) (by decide) (fun K hK => ?_)
                  refine goes_ Try.func33 (by kernel_rfl) rfl #[.bool t7028] (by rfl) rfl rfl pa ?_
                  with_reducible refine (flyballlaw01_one.calls t7028 t7054 _ A83.out).mono ?_
                  rintro e w' ⟨rfl, ⟨nd, rfl⟩⟩
                  refine ⟨_, rfl, ?_⟩
                  refine hK.out _ _ ⟨bc BK7001 0, bc BK7001 1, bc BK7002 0, bc BK7002 1⟩ (fun hHeld => ?_)
                  clear hK K
                  refine nrm (some 73) ?_
                  refine pur 24 (some 74) #[true, true, true, true, true, true, true, true, true, true, true, true, true, true, true, true, true, true, true, true, true, true, true, true, true, false, false, false, false, false, false, false, false, false, false, false, false, false, false, false, false, false, false, false, false, false] (any_of HT_.out (by kernel_rfl)) ?_
                  refine pur 25 (some 75) #[true, true, true, true, true, true, true, true, true, true, true, true, true, true, true, true, true, true, true, true, true, true, true, true, true, true, false, false, false, false, false, false, false, false, false, false, false, false, false, false, false, false, false, false, false, false] (any_of HT_.out (by kernel_rfl)) ?_
                  refine pur 26 (some 76) #[true, true, true, true, true, true, true, true, true, true, true, true, true, true, true, true, true, true, true, true, true, true, true, true, true, true, true, false, false, false, false, false, false, false, false, false, false, false, false, false, false, false, false, false, false, false] (any_of HT_.out (by kernel_rfl)) ?_
                  refine tak 27 (some 77) #[true, true, true, true, true, true, true, true, true, true, true, true, true, true, true, true, true, true, true, true, true, true, true, true, true, true, true, true, false, false, false, false, false, false, false, false, false, false, false, false, false, false, false, false, false, false] (take_ofW HT_.out HW_.out (by kernel_rfl)) hHeld ?_
                  refine tak 28 (some 78) #[true, true, true, true, true, true, true, true, true, true, true, true, true, true, true, true, true, true, true, true, true, true, true, true, true, true, true, true, true, false, false, false, false, false, false, false, false, false, false, false, false, false, false, false, false, false] (take_ofW HT_.out HW_.out (by kernel_rfl)) hHeld ?_
                  refine tak 30 (some 80) #[true, true, true, true, true, true, true, true, true, true, true, true, true, true, true, true, true, true, true, true, true, true, true, true, true, true, true, true, true, false, true, false, false, false, false, false, false, false, false, false, false, false, false, false, false, false] (take_ofW HT_.out HW_.out (by kernel_rfl)) hHeld ?_
                  refine tak 32 (some 82) #[true, true, true, true, true, true, true, true, true, true, true, true, true, true, true, true, true, true, true, true, true, true, true, true, true, true, true, true, true, false, true, false, true, false, false, false, false, false, false, false, false, false, false, false, false, false] (take_ofW HT_.out HW_.out (by kernel_rfl)) hHeld ?_
                  refine one_ (i := 29) (N := some 79) #[true, true, true, true, true, true, true, true, true, true, true, true, true, true, true, true, true, true, true, true, true, true, true, true, true, true, true, true, true, true, true, false, true, false, false, false, false, false, false, false, false, false, false, false, false, false] rfl rfl (one_of HT_.out (by kernel_rfl)) (by decide) (fun K hK => ?_)
                  refine gc Try.func34 #[.agg #[.int .u64 a0_0, .int .u64 a0_1], .agg #[.int .u64 a1_0, .int .u64 a1_1]] (wide_U128_Cmp.calls k a0_0 a0_1 a1_0 a1_1 t7055 _ A85.out) ?_
                  intro w133 hb
                  have n0_ := Aside0.mk (Kd.R_below (by (with_reducible repeat (first | apply Kd.R_alloc | apply Kd.R_drewN | apply Kd.R_drew)); exact HO7014.out) hb)
                  have n1_ := Aside0.mk (Kd.R_below (by (with_reducible repeat (first | apply Kd.R_alloc | apply Kd.R_drewN | apply Kd.R_drew)); exact HO7017.out) hb)
                  have n2_ := Aside0.mk (Kd.R_below (by (with_reducible repeat (first | apply Kd.R_alloc | apply Kd.R_drewN | apply Kd.R_drew)); exact HO7020.out) hb)
                  have n3_ := Aside0.mk (Kd.R_below (by (with_reducible repeat (first | apply Kd.R_alloc | apply Kd.R_drewN | apply Kd.R_drew)); exact HO7023.out) hb)
                  have n4_ := Aside0.mk (Kd.R_below (by (with_reducible repeat (first | apply Kd.R_alloc | apply Kd.R_drewN | apply Kd.R_drew)); exact HO7026.out) hb)
                  have n5_ := Aside0.mk (Kd.R_below (by (with_reducible repeat (first | apply Kd.R_alloc | apply Kd.R_drewN | apply Kd.R_drew)); exact HO7030.out) hb)
                  (first | have n6_ := flyballlaw01_WideAdds.kb0 BK7001 hb | have n6_ := flyballlaw01_WideAdds.kb1 BK7001 hb | have n6_ := flyballlaw01_WideAdds.kb2 BK7001 hb | have n6_ := kb BK7001 hb)
                  (first | have n7_ := flyballlaw01_WideAdds.kb0 BK7002 hb | have n7_ := flyballlaw01_WideAdds.kb1 BK7002 hb | have n7_ := flyballlaw01_WideAdds.kb2 BK7002 hb | have n7_ := kb BK7002 hb)
                  (first | have n8_ := flyballlaw01_WideAdds.kb0 BK7007 hb | have n8_ := flyballlaw01_WideAdds.kb1 BK7007 hb | have n8_ := flyballlaw01_WideAdds.kb2 BK7007 hb | have n8_ := kb BK7007 hb)
                  (first | have n9_ := flyballlaw01_WideAdds.kb0 BK7011 hb | have n9_ := flyballlaw01_WideAdds.kb1 BK7011 hb | have n9_ := flyballlaw01_WideAdds.kb2 BK7011 hb | have n9_ := kb BK7011 hb)
                  (first | (with_reducible have n10_ := Aside0.mk (Kd.C_below HR7034.out hb)) | (with_reducible have n10_ := Aside0.mk (Kd.C_below (Kd.C_drewN HR7034.out _) hb)) | (with_reducible have n10_ := Aside0.mk (Kd.C_below (Kd.C_drewN (Kd.C_drewN HR7034.out _) _) hb)))
                  have n11_ := kh HB hb
                  clear HO7014
                  clear HO7017
                  clear HO7020
                  clear HO7023
                  clear HO7026
                  clear HO7030
                  clear BK7001
                  clear BK7002
                  clear BK7007
                  clear BK7011
                  clear HR7034
                  clear HB
                  have HO7014 := n0_
                  have HO7017 := n1_
                  have HO7020 := n2_
                  have HO7023 := n3_
                  have HO7026 := n4_
                  have HO7030 := n5_
                  have BK7001 := n6_
                  have BK7002 := n7_
                  have BK7007 := n8_
                  have BK7011 := n9_
                  have HR7034 := n10_
                  have HB := n11_
                  clear n0_ n1_ n2_ n3_ n4_ n5_ n6_ n7_ n8_ n9_ n10_ n11_
                  (try clear hb)
                  refine hK.out _ _ ⟨bc BK7001 0, bc BK7001 1, bc BK7002 0, bc BK7002 1⟩ (fun hHeld => ?_)
                  clear hK K
                  refine nrm (some 79) ?_
                  refine one_ (i := 31) (N := some 81) #[true, true, true, true, true, true, true, true, true, true, true, true, true, true, true, true, true, true, true, true, true, true, true, true, true, true, true, true, true, true, true, true, true, false, false, false, false, false, false, false, false, false, false, false, false, false] rfl rfl (one_of HT_.out (by kernel_rfl)) (by decide) (fun K hK => ?_)
                  refine goes_ Try.func15 (by kernel_rfl) rfl #[.agg #[.int .u64 a0_0, .int .u64 a0_1]] (by rfl) rfl rfl pa ?_
                  with_reducible refine (flyballlaw01_of.calls k a0_0 a0_1 t7056 _ A86.out).mono ?_
                  rintro e w134 ⟨v7057, rfl, ho0, hb⟩
                  refine ⟨_, rfl, ?_⟩
                  have n0_ := Aside0.mk (Kd.R_elder' (by (with_reducible repeat (first | apply Kd.R_alloc | apply Kd.R_drewN | apply Kd.R_drew)); exact HO7014.out) (Kd.R_base ho0) hb)
                  have n1_ := Aside0.mk (Kd.R_elder' (by (with_reducible repeat (first | apply Kd.R_alloc | apply Kd.R_drewN | apply Kd.R_drew)); exact HO7017.out) (Kd.R_base ho0) hb)
                  have n2_ := Aside0.mk (Kd.R_elder' (by (with_reducible repeat (first | apply Kd.R_alloc | apply Kd.R_drewN | apply Kd.R_drew)); exact HO7020.out) (Kd.R_base ho0) hb)
                  have n3_ := Aside0.mk (Kd.R_elder' (by (with_reducible repeat (first | apply Kd.R_alloc | apply Kd.R_drewN | apply Kd.R_drew)); exact HO7023.out) (Kd.R_base ho0) hb)
                  have n4_ := Aside0.mk (Kd.R_elder' (by (with_reducible repeat (first | apply Kd.R_alloc | apply Kd.R_drewN | apply Kd.R_drew)); exact HO7026.out) (Kd.R_base ho0) hb)
                  have n5_ := Aside0.mk (Kd.R_elder' (by (with_reducible repeat (first | apply Kd.R_alloc | apply Kd.R_drewN | apply Kd.R_drew)); exact HO7030.out) (Kd.R_base ho0) hb)
                  have n6_ := Aside0.mk (Kd.R_lower (Kd.R_new' (Kd.R_new' (Kd.R_new' (Kd.R_new' (Kd.R_new' (Kd.R_new' ho0 (Kd.R_lt (by (with_reducible repeat (first | apply Kd.R_alloc | apply Kd.R_drewN | apply Kd.R_drew)); exact HO7014.out))) (Kd.R_lt (by (with_reducible repeat (first | apply Kd.R_alloc | apply Kd.R_drewN | apply Kd.R_drew)); exact HO7017.out))) (Kd.R_lt (by (with_reducible repeat (first | apply Kd.R_alloc | apply Kd.R_drewN | apply Kd.R_drew)); exact HO7020.out))) (Kd.R_lt (by (with_reducible repeat (first | apply Kd.R_alloc | apply Kd.R_drewN | apply Kd.R_drew)); exact HO7023.out))) (Kd.R_lt (by (with_reducible repeat (first | apply Kd.R_alloc | apply Kd.R_drewN | apply Kd.R_drew)); exact HO7026.out))) (Kd.R_lt (by (with_reducible repeat (first | apply Kd.R_alloc | apply Kd.R_drewN | apply Kd.R_drew)); exact HO7030.out))) (below_size (pl HB)))
                  (first | have n7_ := flyballlaw01_WideAdds.kb0 BK7001 hb | have n7_ := flyballlaw01_WideAdds.kb1 BK7001 hb | have n7_ := flyballlaw01_WideAdds.kb2 BK7001 hb | have n7_ := kb BK7001 hb)
                  (first | have n8_ := flyballlaw01_WideAdds.kb0 BK7002 hb | have n8_ := flyballlaw01_WideAdds.kb1 BK7002 hb | have n8_ := flyballlaw01_WideAdds.kb2 BK7002 hb | have n8_ := kb BK7002 hb)
                  (first | have n9_ := flyballlaw01_WideAdds.kb0 BK7007 hb | have n9_ := flyballlaw01_WideAdds.kb1 BK7007 hb | have n9_ := flyballlaw01_WideAdds.kb2 BK7007 hb | have n9_ := kb BK7007 hb)
                  (first | have n10_ := flyballlaw01_WideAdds.kb0 BK7011 hb | have n10_ := flyballlaw01_WideAdds.kb1 BK7011 hb | have n10_ := flyballlaw01_WideAdds.kb2 BK7011 hb | have n10_ := kb BK7011 hb)
                  (first | (with_reducible have n11_ := Aside0.mk (Kd.C_below HR7034.out hb)) | (with_reducible have n11_ := Aside0.mk (Kd.C_below (Kd.C_drewN HR7034.out _) hb)) | (with_reducible have n11_ := Aside0.mk (Kd.C_below (Kd.C_drewN (Kd.C_drewN HR7034.out _) _) hb)))
                  have n12_ := kh HB hb
                  clear HO7014
                  clear HO7017
                  clear HO7020
                  clear HO7023
                  clear HO7026
                  clear HO7030
                  clear BK7001
                  clear BK7002
                  clear BK7007
                  clear BK7011
                  clear HR7034
                  clear HB
                  have HO7014 := n0_
                  have HO7017 := n1_
                  have HO7020 := n2_
                  have HO7023 := n3_
                  have HO7026 := n4_
                  have HO7030 := n5_
                  have HO7058 := n6_
                  have BK7001 := n7_
                  have BK7002 := n8_
                  have BK7007 := n9_
                  have BK7011 := n10_
                  have HR7034 := n11_
                  have HB := n12_
                  clear n0_ n1_ n2_ n3_ n4_ n5_ n6_ n7_ n8_ n9_ n10_ n11_ n12_
                  (try clear hb)
                  (try clear ho0)
                  refine hK.out _ _ ⟨bc BK7001 0, bc BK7001 1, bc BK7002 0, bc BK7002 1⟩ (fun hHeld => ?_)
                  clear hK K
                  refine nrm (some 81) ?_
                  refine one_ (i := 33) (N := some 83) #[true, true, true, true, true, true, true, true, true, true, true, true, true, true, true, true, true, true, true, true, true, true, true, true, true, true, true, true, true, true, true, true, true, true, false, false, false, false, false, false, false, false, false, false, false, false] rfl rfl (one_of HT_.out (by kernel_rfl)) (by decide) (fun K hK => ?_)
                  refine goes_ Try.func15 (by kernel_rfl) rfl #[.agg #[.int .u64 a1_0, .int .u64 a1_1]] (by rfl) rfl rfl pa ?_
                  with_reducible refine (flyballlaw01_of.calls k a1_0 a1_1 t7059 _ A87.out).mono ?_
                  rintro e w135 ⟨v7060, rfl, ho0, hb⟩
                  refine ⟨_, rfl, ?_⟩
                  have n0_ := Aside0.mk (Kd.R_elder' (by (with_reducible repeat (first | apply Kd.R_alloc | apply Kd.R_drewN | apply Kd.R_drew)); exact HO7014.out) (Kd.R_base ho0) hb)
                  have n1_ := Aside0.mk (Kd.R_elder' (by (with_reducible repeat (first | apply Kd.R_alloc | apply Kd.R_drewN | apply Kd.R_drew)); exact HO7017.out) (Kd.R_base ho0) hb)
                  have n2_ := Aside0.mk (Kd.R_elder' (by (with_reducible repeat (first | apply Kd.R_alloc | apply Kd.R_drewN | apply Kd.R_drew)); exact HO7020.out) (Kd.R_base ho0) hb)
                  have n3_ := Aside0.mk (Kd.R_elder' (by (with_reducible repeat (first | apply Kd.R_alloc | apply Kd.R_drewN | apply Kd.R_drew)); exact HO7023.out) (Kd.R_base ho0) hb)
                  have n4_ := Aside0.mk (Kd.R_elder' (by (with_reducible repeat (first | apply Kd.R_alloc | apply Kd.R_drewN | apply Kd.R_drew)); exact HO7026.out) (Kd.R_base ho0) hb)
                  have n5_ := Aside0.mk (Kd.R_elder' (by (with_reducible repeat (first | apply Kd.R_alloc | apply Kd.R_drewN | apply Kd.R_drew)); exact HO7030.out) (Kd.R_base ho0) hb)
                  have n6_ := Aside0.mk (Kd.R_elder' (by (with_reducible repeat (first | apply Kd.R_alloc | apply Kd.R_drewN | apply Kd.R_drew)); exact HO7058.out) (Kd.R_base ho0) hb)
                  have n7_ := Aside0.mk (Kd.R_lower (Kd.R_new' (Kd.R_new' (Kd.R_new' (Kd.R_new' (Kd.R_new' (Kd.R_new' (Kd.R_new' ho0 (Kd.R_lt (by (with_reducible repeat (first | apply Kd.R_alloc | apply Kd.R_drewN | apply Kd.R_drew)); exact HO7014.out))) (Kd.R_lt (by (with_reducible repeat (first | apply Kd.R_alloc | apply Kd.R_drewN | apply Kd.R_drew)); exact HO7017.out))) (Kd.R_lt (by (with_reducible repeat (first | apply Kd.R_alloc | apply Kd.R_drewN | apply Kd.R_drew)); exact HO7020.out))) (Kd.R_lt (by (with_reducible repeat (first | apply Kd.R_alloc | apply Kd.R_drewN | apply Kd.R_drew)); exact HO7023.out))) (Kd.R_lt (by (with_reducible repeat (first | apply Kd.R_alloc | apply Kd.R_drewN | apply Kd.R_drew)); exact HO7026.out))) (Kd.R_lt (by (with_reducible repeat (first | apply Kd.R_alloc | apply Kd.R_drewN | apply Kd.R_drew)); exact HO7030.out))) (Kd.R_lt (by (with_reducible repeat (first | apply Kd.R_alloc | apply Kd.R_drewN | apply Kd.R_drew)); exact HO7058.out))) (below_size (pl HB)))
                  (first | have n8_ := flyballlaw01_WideAdds.kb0 BK7001 hb | have n8_ := flyballlaw01_WideAdds.kb1 BK7001 hb | have n8_ := flyballlaw01_WideAdds.kb2 BK7001 hb | have n8_ := kb BK7001 hb)
                  (first | have n9_ := flyballlaw01_WideAdds.kb0 BK7002 hb | have n9_ := flyballlaw01_WideAdds.kb1 BK7002 hb | have n9_ := flyballlaw01_WideAdds.kb2 BK7002 hb | have n9_ := kb BK7002 hb)
                  (first | have n10_ := flyballlaw01_WideAdds.kb0 BK7007 hb | have n10_ := flyballlaw01_WideAdds.kb1 BK7007 hb | have n10_ := flyballlaw01_WideAdds.kb2 BK7007 hb | have n10_ := kb BK7007 hb)
                  (first | have n11_ := flyballlaw01_WideAdds.kb0 BK7011 hb | have n11_ := flyballlaw01_WideAdds.kb1 BK7011 hb | have n11_ := flyballlaw01_WideAdds.kb2 BK7011 hb | have n11_ := kb BK7011 hb)
                  (first | (with_reducible have n12_ := Aside0.mk (Kd.C_below HR7034.out hb)) | (with_reducible have n12_ := Aside0.mk (Kd.C_below (Kd.C_drewN HR7034.out _) hb)) | (with_reducible have n12_ := Aside0.mk (Kd.C_below (Kd.C_drewN (Kd.C_drewN HR7034.out _) _) hb)))
                  have n13_ := kh HB hb
                  clear HO7014
                  clear HO7017
                  clear HO7020
                  clear HO7023
                  clear HO7026
                  clear HO7030
                  clear HO7058
                  clear BK7001
                  clear BK7002
                  clear BK7007
                  clear BK7011
                  clear HR7034
                  clear HB
                  have HO7014 := n0_
                  have HO7017 := n1_
                  have HO7020 := n2_
                  have HO7023 := n3_
                  have HO7026 := n4_
                  have HO7030 := n5_
                  have HO7058 := n6_
                  have HO7061 := n7_
                  have BK7001 := n8_
                  have BK7002 := n9_
                  have BK7007 := n10_
                  have BK7011 := n11_
                  have HR7034 := n12_
                  have HB := n13_
                  clear n0_ n1_ n2_ n3_ n4_ n5_ n6_ n7_ n8_ n9_ n10_ n11_ n12_ n13_
                  (try clear hb)
                  (try clear ho0)
                  obtain ⟨Ao136, co136, eo136⟩ := Kd.R_slice HO7058.out
                  (first | subst eo136 | (injection eo136 with f1_ f2_ f3_; have f4_ := f1_.symm; have f5_ := f3_.symm; clear f1_ f2_ f3_; subst f4_; subst f5_))
                  obtain ⟨Ao137, co137, eo137⟩ := Kd.R_slice HO7061.out
                  (first | subst eo137 | (injection eo137 with f1_ f2_ f3_; have f4_ := f1_.symm; have f5_ := f3_.symm; clear f1_ f2_ f3_; subst f4_; subst f5_))
                  refine hK.out _ _ ⟨bc BK7001 0, bc BK7001 1, bc BK7002 0, bc BK7002 1⟩ (fun hHeld => ?_)
                  clear hK K
                  refine nrm (some 83) ?_
                  refine one_ (i := 34) (N := some 84) #[true, true, true, true, true, true, true, true, true, true, true, true, true, true, true, true, true, true, true, true, true, true, true, true, true, true, true, true, true, true, true, true, true, true, true, false, false, false, false, false, false, false, false, false, false, false] rfl rfl (one_of HT_.out (by kernel_rfl)) (by decide) (fun K hK => ?_)
                  refine goes_ Try.func18 (by kernel_rfl) rfl #[.slice Ao136 t7056.length co136, .slice Ao137 t7059.length co137] (by rfl) rfl rfl pa ?_
                  with_reducible refine (flyballref01_Cmp.calls k _ _ t7056 _ _ t7059 t7062 _ ?side1 ?side2 ?side3 ?side4 A88.out).mono ?_
                  (case side1 => repeat (first | exact (Kd.R_reads' HO7058.out).2.2 | (with_reducible refine Kd.C_alloc ?_ _) | (with_reducible refine Kd.C_drewN ?_ _) | (with_reducible refine Kd.C_drew ?_)))
                  (case side2 => exact (Kd.R_reads' HO7058.out).2.1)
                  (case side3 => repeat (first | exact (Kd.R_reads' HO7061.out).2.2 | (with_reducible refine Kd.C_alloc ?_ _) | (with_reducible refine Kd.C_drewN ?_ _) | (with_reducible refine Kd.C_drew ?_)))
                  (case side4 => exact (Kd.R_reads' HO7061.out).2.1)
                  rintro e w138 ⟨rfl, hb⟩
                  refine ⟨_, rfl, ?_⟩
                  have n0_ := Aside0.mk (Kd.R_below (by (with_reducible repeat (first | apply Kd.R_alloc | apply Kd.R_drewN | apply Kd.R_drew)); exact HO7014.out) hb)
                  have n1_ := Aside0.mk (Kd.R_below (by (with_reducible repeat (first | apply Kd.R_alloc | apply Kd.R_drewN | apply Kd.R_drew)); exact HO7017.out) hb)
                  have n2_ := Aside0.mk (Kd.R_below (by (with_reducible repeat (first | apply Kd.R_alloc | apply Kd.R_drewN | apply Kd.R_drew)); exact HO7020.out) hb)
                  have n3_ := Aside0.mk (Kd.R_below (by (with_reducible repeat (first | apply Kd.R_alloc | apply Kd.R_drewN | apply Kd.R_drew)); exact HO7023.out) hb)
                  have n4_ := Aside0.mk (Kd.R_below (by (with_reducible repeat (first | apply Kd.R_alloc | apply Kd.R_drewN | apply Kd.R_drew)); exact HO7026.out) hb)
                  have n5_ := Aside0.mk (Kd.R_below (by (with_reducible repeat (first | apply Kd.R_alloc | apply Kd.R_drewN | apply Kd.R_drew)); exact HO7030.out) hb)
                  have n6_ := Aside0.mk (Kd.R_below (by (with_reducible repeat (first | apply Kd.R_alloc | apply Kd.R_drewN | apply Kd.R_drew)); exact HO7058.out) hb)
                  have n7_ := Aside0.mk (Kd.R_below (by (with_reducible repeat (first | apply Kd.R_alloc | apply Kd.R_drewN | apply Kd.R_drew)); exact HO7061.out) hb)
                  (first | have n8_ := flyballlaw01_WideAdds.kb0 BK7001 hb | have n8_ := flyballlaw01_WideAdds.kb1 BK7001 hb | have n8_ := flyballlaw01_WideAdds.kb2 BK7001 hb | have n8_ := kb BK7001 hb)
                  (first | have n9_ := flyballlaw01_WideAdds.kb0 BK7002 hb | have n9_ := flyballlaw01_WideAdds.kb1 BK7002 hb | have n9_ := flyballlaw01_WideAdds.kb2 BK7002 hb | have n9_ := kb BK7002 hb)
                  (first | have n10_ := flyballlaw01_WideAdds.kb0 BK7007 hb | have n10_ := flyballlaw01_WideAdds.kb1 BK7007 hb | have n10_ := flyballlaw01_WideAdds.kb2 BK7007 hb | have n10_ := kb BK7007 hb)
                  (first | have n11_ := flyballlaw01_WideAdds.kb0 BK7011 hb | have n11_ := flyballlaw01_WideAdds.kb1 BK7011 hb | have n11_ := flyballlaw01_WideAdds.kb2 BK7011 hb | have n11_ := kb BK7011 hb)
                  (first | (with_reducible have n12_ := Aside0.mk (Kd.C_below HR7034.out hb)) | (with_reducible have n12_ := Aside0.mk (Kd.C_below (Kd.C_drewN HR7034.out _) hb)) | (with_reducible have n12_ := Aside0.mk (Kd.C_below (Kd.C_drewN (Kd.C_drewN HR7034.out _) _) hb)))
                  have n13_ := kh HB hb
                  clear HO7014
                  clear HO7017
                  clear HO7020
                  clear HO7023
                  clear HO7026
                  clear HO7030
                  clear HO7058
                  clear HO7061
                  clear BK7001
                  clear BK7002
                  clear BK7007
                  clear BK7011
                  clear HR7034
                  clear HB
                  have HO7014 := n0_
                  have HO7017 := n1_
                  have HO7020 := n2_
                  have HO7023 := n3_
                  have HO7026 := n4_
                  have HO7030 := n5_
                  have HO7058 := n6_
                  have HO7061 := n7_
                  have BK7001 := n8_
                  have BK7002 := n9_
                  have BK7007 := n10_
                  have BK7011 := n11_
                  have HR7034 := n12_
                  have HB := n13_
                  clear n0_ n1_ n2_ n3_ n4_ n5_ n6_ n7_ n8_ n9_ n10_ n11_ n12_ n13_
                  (try clear hb)
                  refine hK.out _ _ ⟨bc BK7001 0, bc BK7001 1, bc BK7002 0, bc BK7002 1⟩ (fun hHeld => ?_)
                  clear hK K
                  refine nrm (some 84) ?_
                  refine pur 35 (some 85) #[true, true, true, true, true, true, true, true, true, true, true, true, true, true, true, true, true, true, true, true, true, true, true, true, true, true, true, true, true, true, true, true, true, true, true, true, false, false, false, false, false, false, false, false, false, false] (any_of HT_.out (by kernel_rfl)) ?_
                  refine pur 36 (some 86) #[true, true, true, true, true, true, true, true, true, true, true, true, true, true, true, true, true, true, true, true, true, true, true, true, true, true, true, true, true, true, true, true, true, true, true, true, true, false, false, false, false, false, false, false, false, false] (any_of HT_.out (by kernel_rfl)) ?_
                  refine pur 37 (some 87) #[true, true, true, true, true, true, true, true, true, true, true, true, true, true, true, true, true, true, true, true, true, true, true, true, true, true, true, true, true, true, true, true, true, true, true, true, true, true, false, false, false, false, false, false, false, false] (any_of HT_.out (by kernel_rfl)) ?_
                  refine tak 38 (some 88) #[true, true, true, true, true, true, true, true, true, true, true, true, true, true, true, true, true, true, true, true, true, true, true, true, true, true, true, true, true, true, true, true, true, true, true, true, true, true, true, false, false, false, false, false, false, false] (take_ofW HT_.out HW_.out (by kernel_rfl)) hHeld ?_
                  refine tak 40 (some 90) #[true, true, true, true, true, true, true, true, true, true, true, true, true, true, true, true, true, true, true, true, true, true, true, true, true, true, true, true, true, true, true, true, true, true, true, true, true, true, true, false, true, false, false, false, false, false] (take_ofW HT_.out HW_.out (by kernel_rfl)) hHeld ?_
                  refine one_ (i := 39) (N := some 89) #[true, true, true, true, true, true, true, true, true, true, true, true, true, true, true, true, true, true, true, true, true, true, true, true, true, true, true, true, true, true, true, true, true, true, true, true, true, true, true, true, true, false, false, false, false, false] rfl rfl (one_of HT_.out (by kernel_rfl)) (by decide) (fun K hK => ?_)
                  refine gc Try.func24 #[.agg #[.int .u64 a0_0, .int .u64 a0_1]] (wide_U128_Len.calls k a0_0 a0_1 t7063 _ A90.out) ?_
                  intro w139 hb
                  have n0_ := Aside0.mk (Kd.R_below (by (with_reducible repeat (first | apply Kd.R_alloc | apply Kd.R_drewN | apply Kd.R_drew)); exact HO7014.out) hb)
                  have n1_ := Aside0.mk (Kd.R_below (by (with_reducible repeat (first | apply Kd.R_alloc | apply Kd.R_drewN | apply Kd.R_drew)); exact HO7017.out) hb)
                  have n2_ := Aside0.mk (Kd.R_below (by (with_reducible repeat (first | apply Kd.R_alloc | apply Kd.R_drewN | apply Kd.R_drew)); exact HO7020.out) hb)
                  have n3_ := Aside0.mk (Kd.R_below (by (with_reducible repeat (first | apply Kd.R_alloc | apply Kd.R_drewN | apply Kd.R_drew)); exact HO7023.out) hb)
                  have n4_ := Aside0.mk (Kd.R_below (by (with_reducible repeat (first | apply Kd.R_alloc | apply Kd.R_drewN | apply Kd.R_drew)); exact HO7026.out) hb)
                  have n5_ := Aside0.mk (Kd.R_below (by (with_reducible repeat (first | apply Kd.R_alloc | apply Kd.R_drewN | apply Kd.R_drew)); exact HO7030.out) hb)
                  have n6_ := Aside0.mk (Kd.R_below (by (with_reducible repeat (first | apply Kd.R_alloc | apply Kd.R_drewN | apply Kd.R_drew)); exact HO7058.out) hb)
                  have n7_ := Aside0.mk (Kd.R_below (by (with_reducible repeat (first | apply Kd.R_alloc | apply Kd.R_drewN | apply Kd.R_drew)); exact HO7061.out) hb)
                  (first | have n8_ := flyballlaw01_WideAdds.kb0 BK7001 hb | have n8_ := flyballlaw01_WideAdds.kb1 BK7001 hb | have n8_ := flyballlaw01_WideAdds.kb2 BK7001 hb | have n8_ := kb BK7001 hb)
                  (first | have n9_ := flyballlaw01_WideAdds.kb0 BK7002 hb | have n9_ := flyballlaw01_WideAdds.kb1 BK7002 hb | have n9_ := flyballlaw01_WideAdds.kb2 BK7002 hb | have n9_ := kb BK7002 hb)
                  (first | have n10_ := flyballlaw01_WideAdds.kb0 BK7007 hb | have n10_ := flyballlaw01_WideAdds.kb1 BK7007 hb | have n10_ := flyballlaw01_WideAdds.kb2 BK7007 hb | have n10_ := kb BK7007 hb)
                  (first | have n11_ := flyballlaw01_WideAdds.kb0 BK7011 hb | have n11_ := flyballlaw01_WideAdds.kb1 BK7011 hb | have n11_ := flyballlaw01_WideAdds.kb2 BK7011 hb | have n11_ := kb BK7011 hb)
                  (first | (with_reducible have n12_ := Aside0.mk (Kd.C_below HR7034.out hb)) | (with_reducible have n12_ := Aside0.mk (Kd.C_below (Kd.C_drewN HR7034.out _) hb)) | (with_reducible have n12_ := Aside0.mk (Kd.C_below (Kd.C_drewN (Kd.C_drewN HR7034.out _) _) hb)))
                  have n13_ := kh HB hb
                  clear HO7014
                  clear HO7017
                  clear HO7020
                  clear HO7023
                  clear HO7026
                  clear HO7030
                  clear HO7058
                  clear HO7061
                  clear BK7001
                  clear BK7002
                  clear BK7007
                  clear BK7011
                  clear HR7034
                  clear HB
                  have HO7014 := n0_
                  have HO7017 := n1_
                  have HO7020 := n2_
                  have HO7023 := n3_
                  have HO7026 := n4_
                  have HO7030 := n5_
                  have HO7058 := n6_
                  have HO7061 := n7_
                  have BK7001 := n8_
                  have BK7002 := n9_
                  have BK7007 := n10_
                  have BK7011 := n11_
                  have HR7034 := n12_
                  have HB := n13_
                  clear n0_ n1_ n2_ n3_ n4_ n5_ n6_ n7_ n8_ n9_ n10_ n11_ n12_ n13_
                  (try clear hb)
                  refine hK.out _ _ ⟨bc BK7001 0, bc BK7001 1, bc BK7002 0, bc BK7002 1⟩ (fun hHeld => ?_)
                  clear hK K
                  refine nrm (some 89) ?_
                  refine one_ (i := 41) (N := some 91) #[true, true, true, true, true, true, true, true, true, true, true, true, true, true, true, true, true, true, true, true, true, true, true, true, true, true, true, true, true, true, true, true, true, true, true, true, true, true, true, true, true, true, false, false, false, false] rfl rfl (one_of HT_.out (by kernel_rfl)) (by decide) (fun K hK => ?_)
                  refine goes_ Try.func15 (by kernel_rfl) rfl #[.agg #[.int .u64 a0_0, .int .u64 a0_1]] (by rfl) rfl rfl pa ?_
                  with_reducible refine (flyballlaw01_of.calls k a0_0 a0_1 t7064 _ A91.out).mono ?_
                  rintro e w140 ⟨v7065, rfl, ho0, hb⟩
                  refine ⟨_, rfl, ?_⟩
                  have n0_ := Aside0.mk (Kd.R_elder' (by (with_reducible repeat (first | apply Kd.R_alloc | apply Kd.R_drewN | apply Kd.R_drew)); exact HO7014.out) (Kd.R_base ho0) hb)
                  have n1_ := Aside0.mk (Kd.R_elder' (by (with_reducible repeat (first | apply Kd.R_alloc | apply Kd.R_drewN | apply Kd.R_drew)); exact HO7017.out) (Kd.R_base ho0) hb)
                  have n2_ := Aside0.mk (Kd.R_elder' (by (with_reducible repeat (first | apply Kd.R_alloc | apply Kd.R_drewN | apply Kd.R_drew)); exact HO7020.out) (Kd.R_base ho0) hb)
                  have n3_ := Aside0.mk (Kd.R_elder' (by (with_reducible repeat (first | apply Kd.R_alloc | apply Kd.R_drewN | apply Kd.R_drew)); exact HO7023.out) (Kd.R_base ho0) hb)
                  have n4_ := Aside0.mk (Kd.R_elder' (by (with_reducible repeat (first | apply Kd.R_alloc | apply Kd.R_drewN | apply Kd.R_drew)); exact HO7026.out) (Kd.R_base ho0) hb)
                  have n5_ := Aside0.mk (Kd.R_elder' (by (with_reducible repeat (first | apply Kd.R_alloc | apply Kd.R_drewN | apply Kd.R_drew)); exact HO7030.out) (Kd.R_base ho0) hb)
                  have n6_ := Aside0.mk (Kd.R_elder' (by (with_reducible repeat (first | apply Kd.R_alloc | apply Kd.R_drewN | apply Kd.R_drew)); exact HO7058.out) (Kd.R_base ho0) hb)
                  have n7_ := Aside0.mk (Kd.R_elder' (by (with_reducible repeat (first | apply Kd.R_alloc | apply Kd.R_drewN | apply Kd.R_drew)); exact HO7061.out) (Kd.R_base ho0) hb)
                  have n8_ := Aside0.mk (Kd.R_lower (Kd.R_new' (Kd.R_new' (Kd.R_new' (Kd.R_new' (Kd.R_new' (Kd.R_new' (Kd.R_new' (Kd.R_new' ho0 (Kd.R_lt (by (with_reducible repeat (first | apply Kd.R_alloc | apply Kd.R_drewN | apply Kd.R_drew)); exact HO7014.out))) (Kd.R_lt (by (with_reducible repeat (first | apply Kd.R_alloc | apply Kd.R_drewN | apply Kd.R_drew)); exact HO7017.out))) (Kd.R_lt (by (with_reducible repeat (first | apply Kd.R_alloc | apply Kd.R_drewN | apply Kd.R_drew)); exact HO7020.out))) (Kd.R_lt (by (with_reducible repeat (first | apply Kd.R_alloc | apply Kd.R_drewN | apply Kd.R_drew)); exact HO7023.out))) (Kd.R_lt (by (with_reducible repeat (first | apply Kd.R_alloc | apply Kd.R_drewN | apply Kd.R_drew)); exact HO7026.out))) (Kd.R_lt (by (with_reducible repeat (first | apply Kd.R_alloc | apply Kd.R_drewN | apply Kd.R_drew)); exact HO7030.out))) (Kd.R_lt (by (with_reducible repeat (first | apply Kd.R_alloc | apply Kd.R_drewN | apply Kd.R_drew)); exact HO7058.out))) (Kd.R_lt (by (with_reducible repeat (first | apply Kd.R_alloc | apply Kd.R_drewN | apply Kd.R_drew)); exact HO7061.out))) (below_size (pl HB)))
                  (first | have n9_ := flyballlaw01_WideAdds.kb0 BK7001 hb | have n9_ := flyballlaw01_WideAdds.kb1 BK7001 hb | have n9_ := flyballlaw01_WideAdds.kb2 BK7001 hb | have n9_ := kb BK7001 hb)
                  (first | have n10_ := flyballlaw01_WideAdds.kb0 BK7002 hb | have n10_ := flyballlaw01_WideAdds.kb1 BK7002 hb | have n10_ := flyballlaw01_WideAdds.kb2 BK7002 hb | have n10_ := kb BK7002 hb)
                  (first | have n11_ := flyballlaw01_WideAdds.kb0 BK7007 hb | have n11_ := flyballlaw01_WideAdds.kb1 BK7007 hb | have n11_ := flyballlaw01_WideAdds.kb2 BK7007 hb | have n11_ := kb BK7007 hb)
                  (first | have n12_ := flyballlaw01_WideAdds.kb0 BK7011 hb | have n12_ := flyballlaw01_WideAdds.kb1 BK7011 hb | have n12_ := flyballlaw01_WideAdds.kb2 BK7011 hb | have n12_ := kb BK7011 hb)
                  (first | (with_reducible have n13_ := Aside0.mk (Kd.C_below HR7034.out hb)) | (with_reducible have n13_ := Aside0.mk (Kd.C_below (Kd.C_drewN HR7034.out _) hb)) | (with_reducible have n13_ := Aside0.mk (Kd.C_below (Kd.C_drewN (Kd.C_drewN HR7034.out _) _) hb)))
                  have n14_ := kh HB hb
                  clear HO7014
                  clear HO7017
                  clear HO7020
                  clear HO7023
                  clear HO7026
                  clear HO7030
                  clear HO7058
                  clear HO7061
                  clear BK7001
                  clear BK7002
                  clear BK7007
                  clear BK7011
                  clear HR7034
                  clear HB
                  have HO7014 := n0_
                  have HO7017 := n1_
                  have HO7020 := n2_
                  have HO7023 := n3_
                  have HO7026 := n4_
                  have HO7030 := n5_
                  have HO7058 := n6_
                  have HO7061 := n7_
                  have HO7066 := n8_
                  have BK7001 := n9_
                  have BK7002 := n10_
                  have BK7007 := n11_
                  have BK7011 := n12_
                  have HR7034 := n13_
                  have HB := n14_
                  clear n0_ n1_ n2_ n3_ n4_ n5_ n6_ n7_ n8_ n9_ n10_ n11_ n12_ n13_ n14_
                  (try clear hb)
                  (try clear ho0)
                  obtain ⟨Ao141, co141, eo141⟩ := Kd.R_slice HO7066.out
                  (first | subst eo141 | (injection eo141 with f1_ f2_ f3_; have f4_ := f1_.symm; have f5_ := f3_.symm; clear f1_ f2_ f3_; subst f4_; subst f5_))
                  refine hK.out _ _ ⟨bc BK7001 0, bc BK7001 1, bc BK7002 0, bc BK7002 1⟩ (fun hHeld => ?_)
                  clear hK K
                  refine nrm (some 91) ?_
                  refine one_ (i := 42) (N := some 92) #[true, true, true, true, true, true, true, true, true, true, true, true, true, true, true, true, true, true, true, true, true, true, true, true, true, true, true, true, true, true, true, true, true, true, true, true, true, true, true, true, true, true, true, false, false, false] rfl rfl (one_of HT_.out (by kernel_rfl)) (by decide) (fun K hK => ?_)
                  refine goes_ Try.func35 (by kernel_rfl) rfl #[.slice Ao141 t7064.length co141] (by rfl) rfl rfl pa ?_
                  with_reducible refine (flyballref01_Len.calls k _ _ t7064 t7067 _ ?side1 ?side2 A92.out).mono ?_
                  (case side1 => repeat (first | exact (Kd.R_reads' HO7066.out).2.2 | (with_reducible refine Kd.C_alloc ?_ _) | (with_reducible refine Kd.C_drewN ?_ _) | (with_reducible refine Kd.C_drew ?_)))
                  (case side2 => exact (Kd.R_reads' HO7066.out).2.1)
                  rintro e w' ⟨rfl, ⟨nd, rfl⟩⟩
                  refine ⟨_, rfl, ?_⟩
                  refine hK.out _ _ ⟨bc BK7001 0, bc BK7001 1, bc BK7002 0, bc BK7002 1⟩ (fun hHeld => ?_)
                  clear hK K
                  refine nrm (some 92) ?_
                  refine pur 43 (some 93) #[true, true, true, true, true, true, true, true, true, true, true, true, true, true, true, true, true, true, true, true, true, true, true, true, true, true, true, true, true, true, true, true, true, true, true, true, true, true, true, true, true, true, true, true, false, false] (any_of HT_.out (by kernel_rfl)) ?_
                  refine pur 44 (some 94) #[true, true, true, true, true, true, true, true, true, true, true, true, true, true, true, true, true, true, true, true, true, true, true, true, true, true, true, true, true, true, true, true, true, true, true, true, true, true, true, true, true, true, true, true, true, false] (any_of HT_.out (by kernel_rfl)) ?_
                  refine pur 45 (some 4) #[true, true, true, true, true, true, true, true, true, true, true, true, true, true, true, true, true, true, true, true, true, true, true, true, true, true, true, true, true, true, true, true, true, true, true, true, true, true, true, true, true, true, true, true, true, true] (any_of HT_.out (by kernel_rfl)) ?_
                  refine done_ (done_of HT_.out (by kernel_rfl)) ?_
                  try go_wp2
                  go_ret
                  exact ⟨pe, pl HB⟩
                · rw [if_neg c89] at H
                  exact absurd H (by simp)
              · rw [if_neg c84] at H
                exact absurd H (by simp)
            · rw [if_neg c82] at H
              exact absurd H (by simp)
        · replace c17 := Bool.eq_false_iff.mpr c17
          subst c17
          rw [if_neg (show ¬ (false = true) by decide)] at H
          exact absurd H (by simp)
      · replace c16 := Bool.eq_false_iff.mpr c16
        subst c16
        rw [if_neg (show ¬ (false = true) by decide)] at H
        exact absurd H (by simp)
    · rw [if_neg c13] at H
      exact absurd H (by simp)
  · replace c4 := Bool.eq_false_iff.mpr c4
    subst c4
    rw [if_neg (show ¬ (false = true) by decide)] at H
    obtain rfl := Option.some.inj H
    go_enter Try.func7, Try.ntmps7
    go_wp2_with (first | ((with_reducible refine gate_dst (N := 2) rfl ?_); (try (refine gate_guard (by rfl) ?_; dsimp only)); refine kx 2 #[.int .u64 a0_0, .int .u64 a0_1] 24 ?_; intro gb7001 hg w142 hbox hb; have BK7001 := Aside0.mk (hbox); have GW7001 := kg HB hg; have GE7001 := kg HB hg; replace HB := kh HB hb; clear hb hbox hg) | ((with_reducible refine gate_dst (N := 3) rfl ?_); (try (refine gate_guard (by rfl) ?_; dsimp only)); refine kx 3 #[.int .u64 a1_0, .int .u64 a1_1] 24 ?_; intro gb7002 hg w143 hbox hb; have BK7002 := Aside0.mk (hbox); have GW7002 := kg HB hg; have GE7002 := kg HB hg; have NB7001_7002 := kn BK7001 hg; have NB7002_7001 := km BK7001 hg; replace BK7001 := kb BK7001 hb; replace HB := kh HB hb; clear hb hbox hg) | ((with_reducible refine gate_callee (f := 11) rfl ?_); refine kc (some 15) Try.func11 #[] (flyballlaw01_works.calls k  false _ A3.out) ?_; intro w144 hb; replace BK7001 := kb BK7001 hb; replace BK7002 := kb BK7002 hb; replace HB := kh HB hb; (try clear hb)))
    go_ret
    exact ⟨pe, pl HB⟩
end Go.Proofs.Ytdchdapllehppaa.PAll
end
