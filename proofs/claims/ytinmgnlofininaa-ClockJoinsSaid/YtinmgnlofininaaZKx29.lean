/- Functions of the print, turned to this claim. -/
import Derived.Test.YtinmgnlofininaaZKW
import Derived.Test.YtinmgnlofininaaZKx0
import Derived.Test.YtinmgnlofininaaZKx3
import Derived.Test.YtinmgnlofininaaZKx25
import Derived.Test.YtinmgnlofininaaZKx28
section
namespace Go.Proofs.Ytinmgnlofininaa.PAll
open Go.RowKit Go.Proofs.YtinmgnlofininaaW.PrintWords Go.Proofs.YtinmgnlofininaaW.PrintLast Go.Proofs.YtinmgnlofininaaW.PrintMore
attribute [local go_sem] max2_int min2_int max_two min_two max_three min_three max_four min_four   -- for this text's walks alone
set_option linter.unusedVariables false
set_option linter.unusedSimpArgs false
/-! ### clock_bothWiden: function 102 -/
def clock_bothWiden.f (k : Nat) (a0_0 : Bool) (a0_1 : Int) (a0_2 : Int) (a0_3 : Bool) (a0_4 : Int) (a0_5 : Int) (a1_0 : Bool) (a1_1 : Int) (a1_2 : Int) (a1_3 : Bool) (a1_4 : Int) (a1_5 : Int) (l2 : List Int) : Option (Bool × Int × Int × Bool × Int × Int) := (clock_norm.f k a0_0 a0_1 a0_2 a0_3 a0_4 a0_5).bind fun bt8954 => ((clock_norm.f k a1_0 a1_1 a1_2 a1_3 a1_4 a1_5).bind fun bt8960 => ((clock_WidenDo.f k bt8954.1 bt8954.2.1 bt8954.2.2.1 bt8960.1 bt8960.2.1 bt8960.2.2.1 l2).bind fun bt8966 => ((clock_WidenDo.f k bt8954.2.2.2.1 bt8954.2.2.2.2.1 bt8954.2.2.2.2.2 bt8960.2.2.2.1 bt8960.2.2.2.2.1 bt8960.2.2.2.2.2 l2).bind fun bt8969 => ((clock_norm.f k bt8966.1 bt8966.2.1 bt8966.2.2 bt8969.1 bt8969.2.1 bt8969.2.2).bind fun bt8972 => (some (bt8972.1, bt8972.2.1, bt8972.2.2.1, bt8972.2.2.2.1, bt8972.2.2.2.2.1, bt8972.2.2.2.2.2))))))
theorem clock_bothWiden.mono : ∀ a0 a1 a2 a3 a4 a5 a6 a7 a8 a9 a10 a11 a12 k, LeO (clock_bothWiden.f k a0 a1 a2 a3 a4 a5 a6 a7 a8 a9 a10 a11 a12) (clock_bothWiden.f (k + 1) a0 a1 a2 a3 a4 a5 a6 a7 a8 a9 a10 a11 a12) := by
  intro a0 a1 a2 a3 a4 a5 a6 a7 a8 a9 a10 a11 a12 k
  unfold clock_bothWiden.f
  repeat' first
      | (with_reducible exact clock_WidenDo.mono _ _ _ _ _ _ _ _)
      | (with_reducible exact clock_norm.mono _ _ _ _ _ _ _)
      | (with_reducible exact LeO.refl _)
      | (with_reducible exact LeO.none _)
      | (with_reducible refine LeO.ite ?_ ?_)
      | (with_reducible refine LeO.bind ?_ (fun _ => ?_))
      | exact clock_WidenDo.mono _ _ _ _ _ _ _ _
      | exact clock_norm.mono _ _ _ _ _ _ _
      | exact LeO.none _
      | refine LeO.ite ?_ ?_
      | refine LeO.bind ?_ (fun _ => ?_)
def clock_bothWiden.T2 : Bool × List (List Nat × List Nat) := (true, [([], []), ([], []), ([1], [1]), ([], []), ([3], [3]), ([0, 2, 4], [0, 2, 4]), ([], []), ([], []), ([7], [7]), ([], []), ([9], [9]), ([6, 8, 10, 5], [6, 8, 10]), ([5, 11], [5, 11]), ([12, 11], [12]), ([13, 13, 0, 1, 2, 3, 4, 5, 6, 7, 8, 9, 10, 11, 12, 13], [13])])
def clock_bothWiden.B2 : List Nat := [0, 0, 2, 0, 8, 31, 0, 0, 128, 0, 512, 2047, 4095, 8191, 16383]
theorem clock_bothWiden.tab2 : rtab .any (opsOf Try.f65 2) = clock_bothWiden.T2 := by kernel_rfl
theorem clock_bothWiden.bits2 : waitsOk clock_bothWiden.T2.2 clock_bothWiden.B2 = true := by kernel_rfl
theorem goesU1_ {P : Program} {ops : Array Oper} {a : Act} {Q : Exit → Act → World → Prop} {W : World} {oi : Oper} {N : Option Tmp} {K : Act → World → Prop} {f : FuncId} {fn : Func} {ars : Array Operand} {ts : Array TypeId} (hf : P.funcs[f]? = some fn) (hname : (fn.name == "runtime.NumGoroutine") = false) (hb : fn.body.isSome = true) (c : Value) {T : Tmp} (hT : a.eval (.tmp T) = .func (.func f) #[] #[c]) (x y : Value)
    (hw : Region.wanted oi (yielded ops a.tmps) = true) (hN : oi.dst = N) (hop : oi.op = .call { callee := .value (.tmp T), args := ars, argTypes := ts }) (hargs : ars.map a.eval = #[x, y])
    (h : Calls P f #[x, y, c] W fun e w' => ∃ v, e = .returned v ∧ K (a.put N v) w') : if Region.wanted oi (yielded ops a.tmps) = true then Oper.wp P oi a W K Q else K (a.put N undef) W :=
  goesU_ hf hname hb #[c] hT #[x, y] hw hN hop hargs h
set_option maxHeartbeats 8000000 in
set_option maxRecDepth 100000 in
theorem clock_bothWiden.calls (k : Nat) (a0_0 : Bool) (a0_1 : Int) (a0_2 : Int) (a0_3 : Bool) (a0_4 : Int) (a0_5 : Int) (a1_0 : Bool) (a1_1 : Int) (a1_2 : Int) (a1_3 : Bool) (a1_4 : Int) (a1_5 : Int) (A2 : Option Addr) (c2 : Nat) (l2 : List Int) (g2 : Nat) (r1 : Bool) (r2 : Int) (r3 : Int) (r4 : Bool) (r5 : Int) (r6 : Int) (w : World) (hp2 : w.cell? ⟨g2, 0, none⟩ = some (.slice A2 l2.length c2)) (hr2 : Kd.C (Kd.int .i64) w A2 l2.length l2) (hc2 : l2.length ≤ c2) (h : clock_bothWiden.f k a0_0 a0_1 a0_2 a0_3 a0_4 a0_5 a1_0 a1_1 a1_2 a1_3 a1_4 a1_5 l2 = some (r1, r2, r3, r4, r5, r6)) :
    Calls Try.prog 65 #[.agg #[.bool a0_0, .int .i64 a0_1, .int .i64 a0_2, .bool a0_3, .int .i64 a0_4, .int .i64 a0_5], .agg #[.bool a1_0, .int .i64 a1_1, .int .i64 a1_2, .bool a1_3, .int .i64 a1_4, .int .i64 a1_5], .func (.func 67) #[] #[.pointer (some ⟨g2, 0, none⟩)]] w fun e w' => e = .returned (.agg #[.bool r1, .int .i64 r2, .int .i64 r3, .bool r4, .int .i64 r5, .int .i64 r6]) ∧ Below w.heap.size w w' := by
  have hu25 := Try.underlying25
  have hu23 := Try.underlying23
  have HP2 := Aside0.mk hp2
  clear hp2
  have HR2 := Aside0.mk hr2
  have HC2 := Aside0.mk hc2
  clear hr2 hc2
  have HB := Aside0.mk (Below.refl w.heap.size w)
  have H := h
  clear h
  unfold clock_bothWiden.f at H
  obtain ⟨⟨t8954, t8955, t8956, t8957, t8958, t8959⟩, A40, H⟩ := Option.bind_eq_some_iff.mp H
  have A4 := Aside0.mk A40
  clear A40
  (try dsimp only at H)
  obtain ⟨⟨t8960, t8961, t8962, t8963, t8964, t8965⟩, A50, H⟩ := Option.bind_eq_some_iff.mp H
  have A5 := Aside0.mk A50
  clear A50
  (try dsimp only at H)
  obtain ⟨⟨t8966, t8967, t8968⟩, A60, H⟩ := Option.bind_eq_some_iff.mp H
  have A6 := Aside0.mk A60
  clear A60
  (try dsimp only at H)
  obtain ⟨⟨t8969, t8970, t8971⟩, A70, H⟩ := Option.bind_eq_some_iff.mp H
  have A7 := Aside0.mk A70
  clear A70
  (try dsimp only at H)
  obtain ⟨⟨t8972, t8973, t8974, t8975, t8976, t8977⟩, A80, H⟩ := Option.bind_eq_some_iff.mp H
  have A8 := Aside0.mk A80
  clear A80
  (try dsimp only at H)
  simp only [Option.some.injEq, Prod.mk.injEq] at H
  obtain ⟨rfl, rfl, rfl, rfl, rfl, rfl⟩ := H
  go_enter Try.func65, Try.ntmps65
  try go_wp2_with (first | ((with_reducible refine gate_dst (N := 3) rfl ?_); refine kx 3 #[.bool a0_0, .int .i64 a0_1, .int .i64 a0_2, .bool a0_3, .int .i64 a0_4, .int .i64 a0_5] 25 ?_; intro gb8951 hg w9 hbox hb; have BK8951 := Aside0.mk (hbox); have GW8951 := kg HB hg; have GE8951 := kg HB hg; replace HB := kh HB hb; clear hb hbox hg) | ((with_reducible refine gate_dst (N := 4) rfl ?_); refine kx 4 #[.bool a1_0, .int .i64 a1_1, .int .i64 a1_2, .bool a1_3, .int .i64 a1_4, .int .i64 a1_5] 25 ?_; intro gb8952 hg w10 hbox hb; have BK8952 := Aside0.mk (hbox); have GW8952 := kg HB hg; have GE8952 := kg HB hg; have NB8951_8952 := kn BK8951 hg; have NB8952_8951 := km BK8951 hg; replace BK8951 := kb BK8951 hb; replace HB := kh HB hb; clear hb hbox hg) | ((with_reducible refine gate_dst (N := 6) rfl ?_); refine kx 6 #[.bool false, .int .i64 0, .int .i64 0, .bool false, .int .i64 0, .int .i64 0] 25 ?_; intro gb8953 hg w11 hbox hb; have BK8953 := Aside0.mk (hbox); have GW8953 := kg HB hg; have GE8953 := kg HB hg; have NB8951_8953 := kn BK8951 hg; have NB8953_8951 := km BK8951 hg; have NB8952_8953 := kn BK8952 hg; have NB8953_8952 := km BK8952 hg; replace BK8951 := kb BK8951 hb; replace BK8952 := kb BK8952 hb; replace HB := kh HB hb; clear hb hbox hg))
  replace BK8951 := Aside0.mk (blk_drew BK8951.out)
  replace BK8952 := Aside0.mk (blk_drew BK8952.out)
  replace BK8953 := Aside0.mk (blk_drew BK8953.out)
  replace HB := Aside0.mk (below_drew1 HB.out)
  refine start_ (n := 6) (S := fun w' => w'.cell? ⟨gb8951, 0, none⟩ = some (.bool a0_0) ∧ w'.cell? ⟨gb8951, 1, none⟩ = some (.int .i64 a0_1) ∧ w'.cell? ⟨gb8951, 2, none⟩ = some (.int .i64 a0_2) ∧ w'.cell? ⟨gb8951, 3, none⟩ = some (.bool a0_3) ∧ w'.cell? ⟨gb8951, 4, none⟩ = some (.int .i64 a0_4) ∧ w'.cell? ⟨gb8951, 5, none⟩ = some (.int .i64 a0_5) ∧ w'.cell? ⟨gb8952, 0, none⟩ = some (.bool a1_0) ∧ w'.cell? ⟨gb8952, 1, none⟩ = some (.int .i64 a1_1) ∧ w'.cell? ⟨gb8952, 2, none⟩ = some (.int .i64 a1_2) ∧ w'.cell? ⟨gb8952, 3, none⟩ = some (.bool a1_3) ∧ w'.cell? ⟨gb8952, 4, none⟩ = some (.int .i64 a1_4) ∧ w'.cell? ⟨gb8952, 5, none⟩ = some (.int .i64 a1_5)) (ds := [4, 5]) #[false, false, false, false, false, false] (by kernel_rfl) rfl rfl ⟨bc BK8951 0, bc BK8951 1, bc BK8951 2, bc BK8951 3, bc BK8951 4, bc BK8951 5, bc BK8952 0, bc BK8952 1, bc BK8952 2, bc BK8952 3, bc BK8952 4, bc BK8952 5⟩ (fun hHeld => ?_)
  generalize w11.drew = w12 at BK8951 BK8952 BK8953 HB hHeld ⊢
  refine tak 0 (some 7) #[true, false, false, false, false, false] (by kernel_rfl) hHeld ?_
  refine tak 2 (some 9) #[true, false, true, false, false, false] (by kernel_rfl) hHeld ?_
  refine one_ (i := 1) (N := some 8) #[true, true, true, false, false, false] rfl rfl (by kernel_rfl) (by decide) (fun K hK => ?_)
  refine gc Try.func61 #[.agg #[.bool a0_0, .int .i64 a0_1, .int .i64 a0_2, .bool a0_3, .int .i64 a0_4, .int .i64 a0_5]] (clock_norm.calls k a0_0 a0_1 a0_2 a0_3 a0_4 a0_5 t8954 t8955 t8956 t8957 t8958 t8959 _ A4.out) ?_
  intro w13 hb
  replace BK8951 := kb BK8951 hb
  replace BK8952 := kb BK8952 hb
  replace BK8953 := kb BK8953 hb
  replace HB := kh HB hb
  (try clear hb)
  refine hK.out _ _ ⟨bc BK8951 0, bc BK8951 1, bc BK8951 2, bc BK8951 3, bc BK8951 4, bc BK8951 5, bc BK8952 0, bc BK8952 1, bc BK8952 2, bc BK8952 3, bc BK8952 4, bc BK8952 5⟩ (fun hHeld => ?_)
  clear hK K
  refine nrm (some 8) ?_
  refine one_ (i := 3) (N := some 10) #[true, true, true, true, false, false] rfl rfl (by kernel_rfl) (by decide) (fun K hK => ?_)
  refine gc Try.func61 #[.agg #[.bool a1_0, .int .i64 a1_1, .int .i64 a1_2, .bool a1_3, .int .i64 a1_4, .int .i64 a1_5]] (clock_norm.calls k a1_0 a1_1 a1_2 a1_3 a1_4 a1_5 t8960 t8961 t8962 t8963 t8964 t8965 _ A5.out) ?_
  intro w14 hb
  replace BK8951 := kb BK8951 hb
  replace BK8952 := kb BK8952 hb
  replace BK8953 := kb BK8953 hb
  replace HB := kh HB hb
  (try clear hb)
  refine hK.out _ _ ⟨bc BK8951 0, bc BK8951 1, bc BK8951 2, bc BK8951 3, bc BK8951 4, bc BK8951 5, bc BK8952 0, bc BK8952 1, bc BK8952 2, bc BK8952 3, bc BK8952 4, bc BK8952 5⟩ (fun hHeld => ?_)
  clear hK K
  refine nrm (some 10) ?_
  refine last_ (i := 4) (N := none) #[true, true, true, true, true, false] rfl rfl (by kernel_rfl) (by decide) (fun K hK => ?_)
  have hs15 : w14.cell? ⟨gb8951, 0, none⟩ = some (.bool a0_0) := bc BK8951 0
  have hfs15 := blk_frozen BK8951.out 0
  have hns15_1 := NB8952_8951.out
  have hns15_2 := NB8953_8951.out
  have hms15_1 := NB8951_8952.out
  have hms15_2 := NB8951_8953.out
  have hs16 : w14.cell? ⟨gb8951, 1, none⟩ = some (.int .i64 a0_1) := bc BK8951 1
  have hfs16 := blk_frozen BK8951.out 1
  have hs17 : w14.cell? ⟨gb8951, 2, none⟩ = some (.int .i64 a0_2) := bc BK8951 2
  have hfs17 := blk_frozen BK8951.out 2
  have hs18 : w14.cell? ⟨gb8951, 3, none⟩ = some (.bool a0_3) := bc BK8951 3
  have hfs18 := blk_frozen BK8951.out 3
  have hs19 : w14.cell? ⟨gb8951, 4, none⟩ = some (.int .i64 a0_4) := bc BK8951 4
  have hfs19 := blk_frozen BK8951.out 4
  have hs20 : w14.cell? ⟨gb8951, 5, none⟩ = some (.int .i64 a0_5) := bc BK8951 5
  have hfs20 := blk_frozen BK8951.out 5
  refine skip_ (w1 := ?_) (by rfl) rfl ?_ ?_
  rotate_left
  · go_simp
    rfl
  refine hK.out _ _ ?_
  clear hK K
  refine last_ (i := 5) (N := none) #[true, true, true, true, true, true] rfl rfl (by kernel_rfl) (by decide) (fun K hK => ?_)
  have hs21 : w14.cell? ⟨gb8952, 0, none⟩ = some (.bool a1_0) := bc BK8952 0
  have hfs21 := blk_frozen BK8952.out 0
  have hns21_0 := NB8951_8952.out
  have hns21_2 := NB8953_8952.out
  have hms21_0 := NB8952_8951.out
  have hms21_2 := NB8952_8953.out
  have hs22 : w14.cell? ⟨gb8952, 1, none⟩ = some (.int .i64 a1_1) := bc BK8952 1
  have hfs22 := blk_frozen BK8952.out 1
  have hs23 : w14.cell? ⟨gb8952, 2, none⟩ = some (.int .i64 a1_2) := bc BK8952 2
  have hfs23 := blk_frozen BK8952.out 2
  have hs24 : w14.cell? ⟨gb8952, 3, none⟩ = some (.bool a1_3) := bc BK8952 3
  have hfs24 := blk_frozen BK8952.out 3
  have hs25 : w14.cell? ⟨gb8952, 4, none⟩ = some (.int .i64 a1_4) := bc BK8952 4
  have hfs25 := blk_frozen BK8952.out 4
  have hs26 : w14.cell? ⟨gb8952, 5, none⟩ = some (.int .i64 a1_5) := bc BK8952 5
  have hfs26 := blk_frozen BK8952.out 5
  refine skip_ (w1 := ?_) (by rfl) rfl ?_ ?_
  rotate_left
  · go_simp
    rfl
  refine hK.out _ _ ?_
  clear hK K
  refine done_ (by kernel_rfl) ?_
  try go_wp2
  generalize hW_ : ((((((((((((w14.setCell ⟨gb8951, 0, none⟩ (.bool t8954)).setCell ⟨gb8951, 1, none⟩ (.int .i64 t8955)).setCell ⟨gb8951, 2, none⟩ (.int .i64 t8956)).setCell ⟨gb8951, 3, none⟩ (.bool t8957)).setCell ⟨gb8951, 4, none⟩ (.int .i64 t8958)).setCell ⟨gb8951, 5, none⟩ (.int .i64 t8959)).setCell ⟨gb8952, 0, none⟩ (.bool t8960)).setCell ⟨gb8952, 1, none⟩ (.int .i64 t8961)).setCell ⟨gb8952, 2, none⟩ (.int .i64 t8962)).setCell ⟨gb8952, 3, none⟩ (.bool t8963)).setCell ⟨gb8952, 4, none⟩ (.int .i64 t8964)).setCell ⟨gb8952, 5, none⟩ (.int .i64 t8965)) = w27
  replace BK8951 := kr (o' := .cells #[.bool t8954, .int .i64 t8955, .int .i64 t8956, .bool t8957, .int .i64 t8958, .int .i64 t8959] 25 (0, 0)) BK8951 hW_
  replace BK8952 := kr (o' := .cells #[.bool t8960, .int .i64 t8961, .int .i64 t8962, .bool t8963, .int .i64 t8964, .int .i64 t8965] 25 (0, 0)) BK8952 hW_
  replace BK8953 := kr BK8953 hW_
  replace HB := kq HB hW_
  clear hW_
  replace BK8951 := Aside0.mk (blk_drew BK8951.out)
  replace BK8952 := Aside0.mk (blk_drew BK8952.out)
  replace BK8953 := Aside0.mk (blk_drew BK8953.out)
  replace HB := Aside0.mk (below_drew1 HB.out)
  refine start_ (n := 15) (S := fun w' => w'.cell? ⟨gb8951, 0, none⟩ = some (.bool t8954) ∧ w'.cell? ⟨gb8951, 1, none⟩ = some (.int .i64 t8955) ∧ w'.cell? ⟨gb8951, 2, none⟩ = some (.int .i64 t8956) ∧ w'.cell? ⟨gb8951, 3, none⟩ = some (.bool t8957) ∧ w'.cell? ⟨gb8951, 4, none⟩ = some (.int .i64 t8958) ∧ w'.cell? ⟨gb8951, 5, none⟩ = some (.int .i64 t8959) ∧ w'.cell? ⟨gb8952, 0, none⟩ = some (.bool t8960) ∧ w'.cell? ⟨gb8952, 1, none⟩ = some (.int .i64 t8961) ∧ w'.cell? ⟨gb8952, 2, none⟩ = some (.int .i64 t8962) ∧ w'.cell? ⟨gb8952, 3, none⟩ = some (.bool t8963) ∧ w'.cell? ⟨gb8952, 4, none⟩ = some (.int .i64 t8964) ∧ w'.cell? ⟨gb8952, 5, none⟩ = some (.int .i64 t8965)) (ds := []) #[false, false, false, false, false, false, false, false, false, false, false, false, false, false, false] (by kernel_rfl) rfl rfl ⟨bc BK8951 0, bc BK8951 1, bc BK8951 2, bc BK8951 3, bc BK8951 4, bc BK8951 5, bc BK8952 0, bc BK8952 1, bc BK8952 2, bc BK8952 3, bc BK8952 4, bc BK8952 5⟩ (fun hHeld => ?_); refine with_tabW clock_bothWiden.tab2 clock_bothWiden.bits2 (fun HT_ HW_ => ?_)
  generalize w27.drew = w28 at BK8951 BK8952 BK8953 HB hHeld ⊢
  refine pur 0 (some 11) #[true, false, false, false, false, false, false, false, false, false, false, false, false, false, false] (any_of HT_.out (by kernel_rfl)) ?_
  refine pur 1 (some 12) #[true, true, false, false, false, false, false, false, false, false, false, false, false, false, false] (any_of HT_.out (by kernel_rfl)) ?_
  refine pur 3 (some 14) #[true, true, false, true, false, false, false, false, false, false, false, false, false, false, false] (any_of HT_.out (by kernel_rfl)) ?_
  refine pur 6 (some 17) #[true, true, false, true, false, false, true, false, false, false, false, false, false, false, false] (any_of HT_.out (by kernel_rfl)) ?_
  refine pur 7 (some 18) #[true, true, false, true, false, false, true, true, false, false, false, false, false, false, false] (any_of HT_.out (by kernel_rfl)) ?_
  refine pur 9 (some 20) #[true, true, false, true, false, false, true, true, false, true, false, false, false, false, false] (any_of HT_.out (by kernel_rfl)) ?_
  refine tak 2 (some 13) #[true, true, true, true, false, false, true, true, false, true, false, false, false, false, false] (take_ofW HT_.out HW_.out (by kernel_rfl)) hHeld ?_
  refine tak 4 (some 15) #[true, true, true, true, true, false, true, true, false, true, false, false, false, false, false] (take_ofW HT_.out HW_.out (by kernel_rfl)) hHeld ?_
  refine tak 8 (some 19) #[true, true, true, true, true, false, true, true, true, true, false, false, false, false, false] (take_ofW HT_.out HW_.out (by kernel_rfl)) hHeld ?_
  refine tak 10 (some 21) #[true, true, true, true, true, false, true, true, true, true, true, false, false, false, false] (take_ofW HT_.out HW_.out (by kernel_rfl)) hHeld ?_
  refine one_ (i := 5) (N := some 16) #[true, true, true, true, true, true, true, true, true, true, true, false, false, false, false] rfl rfl (one_of HT_.out (by kernel_rfl)) (by decide) (fun K hK => ?_)
  refine goesU1_ Try.func67 (by kernel_rfl) rfl (.pointer (some ⟨g2, 0, none⟩)) (by rfl) (.agg #[.bool t8954, .int .i64 t8955, .int .i64 t8956]) (.agg #[.bool t8960, .int .i64 t8961, .int .i64 t8962]) (by rfl) rfl rfl pa ?_
  with_reducible refine (clock_WidenDo.calls k t8954 t8955 t8956 t8960 t8961 t8962 A2 c2 l2 g2 t8966 t8967 t8968 _ ?side0 ?side1 ?side2 A6.out).mono ?_
  (case side0 => exact pw_cell_below HB.out HP2.out)
  (case side1 => repeat (first | exact (Kd.C_below HR2.out HB.out) | (with_reducible refine Kd.C_alloc ?_ _) | (with_reducible refine Kd.C_drewN ?_ _) | (with_reducible refine Kd.C_drew ?_)))
  (case side2 => exact HC2.out)
  rintro e w29 ⟨rfl, hb⟩
  refine ⟨_, rfl, ?_⟩
  replace BK8951 := kb BK8951 hb
  replace BK8952 := kb BK8952 hb
  replace BK8953 := kb BK8953 hb
  replace HB := kh HB hb
  (try clear hb)
  refine hK.out _ _ ⟨bc BK8951 0, bc BK8951 1, bc BK8951 2, bc BK8951 3, bc BK8951 4, bc BK8951 5, bc BK8952 0, bc BK8952 1, bc BK8952 2, bc BK8952 3, bc BK8952 4, bc BK8952 5⟩ (fun hHeld => ?_)
  clear hK K
  refine nrm (some 16) ?_
  refine one_ (i := 11) (N := some 22) #[true, true, true, true, true, true, true, true, true, true, true, true, false, false, false] rfl rfl (one_of HT_.out (by kernel_rfl)) (by decide) (fun K hK => ?_)
  refine goesU1_ Try.func67 (by kernel_rfl) rfl (.pointer (some ⟨g2, 0, none⟩)) (by rfl) (.agg #[.bool t8957, .int .i64 t8958, .int .i64 t8959]) (.agg #[.bool t8963, .int .i64 t8964, .int .i64 t8965]) (by rfl) rfl rfl pa ?_
  with_reducible refine (clock_WidenDo.calls k t8957 t8958 t8959 t8963 t8964 t8965 A2 c2 l2 g2 t8969 t8970 t8971 _ ?side0 ?side1 ?side2 A7.out).mono ?_
  (case side0 => exact pw_cell_below HB.out HP2.out)
  (case side1 => repeat (first | exact (Kd.C_below HR2.out HB.out) | (with_reducible refine Kd.C_alloc ?_ _) | (with_reducible refine Kd.C_drewN ?_ _) | (with_reducible refine Kd.C_drew ?_)))
  (case side2 => exact HC2.out)
  rintro e w30 ⟨rfl, hb⟩
  refine ⟨_, rfl, ?_⟩
  replace BK8951 := kb BK8951 hb
  replace BK8952 := kb BK8952 hb
  replace BK8953 := kb BK8953 hb
  replace HB := kh HB hb
  (try clear hb)
  refine hK.out _ _ ⟨bc BK8951 0, bc BK8951 1, bc BK8951 2, bc BK8951 3, bc BK8951 4, bc BK8951 5, bc BK8952 0, bc BK8952 1, bc BK8952 2, bc BK8952 3, bc BK8952 4, bc BK8952 5⟩ (fun hHeld => ?_)
  clear hK K
  refine nrm (some 22) ?_
  refine pur 12 (some 23) #[true, true, true, true, true, true, true, true, true, true, true, true, true, false, false] (any_of HT_.out (by kernel_rfl)) ?_
  refine one_ (i := 13) (N := some 24) #[true, true, true, true, true, true, true, true, true, true, true, true, true, true, false] rfl rfl (one_of HT_.out (by kernel_rfl)) (by decide) (fun K hK => ?_)
  refine gc Try.func61 #[.agg #[.bool t8966, .int .i64 t8967, .int .i64 t8968, .bool t8969, .int .i64 t8970, .int .i64 t8971]] (clock_norm.calls k t8966 t8967 t8968 t8969 t8970 t8971 t8972 t8973 t8974 t8975 t8976 t8977 _ A8.out) ?_
  intro w31 hb
  replace BK8951 := kb BK8951 hb
  replace BK8952 := kb BK8952 hb
  replace BK8953 := kb BK8953 hb
  replace HB := kh HB hb
  (try clear hb)
  refine hK.out _ _ ⟨bc BK8951 0, bc BK8951 1, bc BK8951 2, bc BK8951 3, bc BK8951 4, bc BK8951 5, bc BK8952 0, bc BK8952 1, bc BK8952 2, bc BK8952 3, bc BK8952 4, bc BK8952 5⟩ (fun hHeld => ?_)
  clear hK K
  refine nrm (some 24) ?_
  refine one_ (i := 14) (N := none) #[true, true, true, true, true, true, true, true, true, true, true, true, true, true, true] rfl rfl (one_of HT_.out (by kernel_rfl)) (by decide) (fun K hK => ?_)
  have hs32 : w31.cell? ⟨gb8953, 0, none⟩ = some (.bool false) := bc BK8953 0
  have hfs32 := blk_frozen BK8953.out 0
  have hns32_0 := NB8951_8953.out
  have hns32_1 := NB8952_8953.out
  have hms32_0 := NB8953_8951.out
  have hms32_1 := NB8953_8952.out
  have hs33 : w31.cell? ⟨gb8953, 1, none⟩ = some (.int .i64 0) := bc BK8953 1
  have hfs33 := blk_frozen BK8953.out 1
  have hs34 : w31.cell? ⟨gb8953, 2, none⟩ = some (.int .i64 0) := bc BK8953 2
  have hfs34 := blk_frozen BK8953.out 2
  have hs35 : w31.cell? ⟨gb8953, 3, none⟩ = some (.bool false) := bc BK8953 3
  have hfs35 := blk_frozen BK8953.out 3
  have hs36 : w31.cell? ⟨gb8953, 4, none⟩ = some (.int .i64 0) := bc BK8953 4
  have hfs36 := blk_frozen BK8953.out 4
  have hs37 : w31.cell? ⟨gb8953, 5, none⟩ = some (.int .i64 0) := bc BK8953 5
  have hfs37 := blk_frozen BK8953.out 5
  refine skip_ (w1 := ?_) (by rfl) rfl ?_ ?_
  rotate_left
  · go_simp
    rfl
  refine hK.out _ _ ⟨cf hHeld.1, cf hHeld.2.1, cf hHeld.2.2.1, cf hHeld.2.2.2.1, cf hHeld.2.2.2.2.1, cf hHeld.2.2.2.2.2.1, cf hHeld.2.2.2.2.2.2.1, cf hHeld.2.2.2.2.2.2.2.1, cf hHeld.2.2.2.2.2.2.2.2.1, cf hHeld.2.2.2.2.2.2.2.2.2.1, cf hHeld.2.2.2.2.2.2.2.2.2.2.1, cf hHeld.2.2.2.2.2.2.2.2.2.2.2⟩ (fun hHeld => ?_)
  clear hK K
  refine done_ (done_of HT_.out (by kernel_rfl)) ?_
  try go_wp2
  refine bodyPost_ret (results_cell_row rfl _ _ gb8953 25 #[.bool t8972, .int .i64 t8973, .int .i64 t8974, .bool t8975, .int .i64 t8976, .int .i64 t8977] (0, 0) _ rfl (pK BK8953) Try.underlying25 rfl (by kernel_rfl)) rfl ?_
  exact ⟨pe, pl HB⟩
/-! ### clock_Widen: function 29 -/
def clock_Widen.f (k : Nat) (a0_0 : Bool) (a0_1 : Int) (a0_2 : Int) (a0_3 : Bool) (a0_4 : Int) (a0_5 : Int) (a1_0 : Bool) (a1_1 : Int) (a1_2 : Int) (a1_3 : Bool) (a1_4 : Int) (a1_5 : Int) (l2 : List Int) : Option (Bool × Int × Int × Bool × Int × Int) := (clock_bothWiden.f k a0_0 a0_1 a0_2 a0_3 a0_4 a0_5 a1_0 a1_1 a1_2 a1_3 a1_4 a1_5 l2).bind fun bt9104 => (some (bt9104.1, bt9104.2.1, bt9104.2.2.1, bt9104.2.2.2.1, bt9104.2.2.2.2.1, bt9104.2.2.2.2.2))
theorem clock_Widen.mono : ∀ a0 a1 a2 a3 a4 a5 a6 a7 a8 a9 a10 a11 a12 k, LeO (clock_Widen.f k a0 a1 a2 a3 a4 a5 a6 a7 a8 a9 a10 a11 a12) (clock_Widen.f (k + 1) a0 a1 a2 a3 a4 a5 a6 a7 a8 a9 a10 a11 a12) := by
  intro a0 a1 a2 a3 a4 a5 a6 a7 a8 a9 a10 a11 a12 k
  unfold clock_Widen.f
  repeat' first
      | (with_reducible exact clock_bothWiden.mono _ _ _ _ _ _ _ _ _ _ _ _ _ _)
      | (with_reducible exact LeO.refl _)
      | (with_reducible exact LeO.none _)
      | (with_reducible refine LeO.ite ?_ ?_)
      | (with_reducible refine LeO.bind ?_ (fun _ => ?_))
      | exact clock_bothWiden.mono _ _ _ _ _ _ _ _ _ _ _ _ _ _
      | exact LeO.none _
      | refine LeO.ite ?_ ?_
      | refine LeO.bind ?_ (fun _ => ?_)
set_option maxHeartbeats 8000000 in
set_option maxRecDepth 100000 in
theorem clock_Widen.calls (k : Nat) (a0_0 : Bool) (a0_1 : Int) (a0_2 : Int) (a0_3 : Bool) (a0_4 : Int) (a0_5 : Int) (a1_0 : Bool) (a1_1 : Int) (a1_2 : Int) (a1_3 : Bool) (a1_4 : Int) (a1_5 : Int) (A2 : Option Addr) (c2 : Nat) (l2 : List Int) (r1 : Bool) (r2 : Int) (r3 : Int) (r4 : Bool) (r5 : Int) (r6 : Int) (w : World) (hr2 : Kd.C (Kd.int .i64) w A2 l2.length l2) (hc2 : l2.length ≤ c2) (h : clock_Widen.f k a0_0 a0_1 a0_2 a0_3 a0_4 a0_5 a1_0 a1_1 a1_2 a1_3 a1_4 a1_5 l2 = some (r1, r2, r3, r4, r5, r6)) :
    Calls Try.prog 29 #[.agg #[.bool a0_0, .int .i64 a0_1, .int .i64 a0_2, .bool a0_3, .int .i64 a0_4, .int .i64 a0_5], .agg #[.bool a1_0, .int .i64 a1_1, .int .i64 a1_2, .bool a1_3, .int .i64 a1_4, .int .i64 a1_5], .slice A2 l2.length c2] w fun e w' => e = .returned (.agg #[.bool r1, .int .i64 r2, .int .i64 r3, .bool r4, .int .i64 r5, .int .i64 r6]) ∧ Below w.heap.size w w' := by
  have hu25 := Try.underlying25
  have HR2 := Aside0.mk hr2
  have HC2 := Aside0.mk hc2
  clear hr2 hc2
  have HB := Aside0.mk (Below.refl w.heap.size w)
  have H := h
  clear h
  unfold clock_Widen.f at H
  obtain ⟨⟨t9104, t9105, t9106, t9107, t9108, t9109⟩, A40, H⟩ := Option.bind_eq_some_iff.mp H
  have A4 := Aside0.mk A40
  clear A40
  (try dsimp only at H)
  simp only [Option.some.injEq, Prod.mk.injEq] at H
  obtain ⟨rfl, rfl, rfl, rfl, rfl, rfl⟩ := H
  go_enter Try.func29, Try.ntmps29
  go_wp2_with (first | ((with_reducible refine gate_dst (N := 3) rfl ?_); refine kx 3 #[.bool a0_0, .int .i64 a0_1, .int .i64 a0_2, .bool a0_3, .int .i64 a0_4, .int .i64 a0_5] 25 ?_; intro gb9101 hg w5 hbox hb; have BK9101 := Aside0.mk (hbox); have GW9101 := kg HB hg; have GE9101 := kg HB hg; replace HB := kh HB hb; clear hb hbox hg) | ((with_reducible refine gate_dst (N := 4) rfl ?_); refine kx 4 #[.bool a1_0, .int .i64 a1_1, .int .i64 a1_2, .bool a1_3, .int .i64 a1_4, .int .i64 a1_5] 25 ?_; intro gb9102 hg w6 hbox hb; have BK9102 := Aside0.mk (hbox); have GW9102 := kg HB hg; have GE9102 := kg HB hg; have NB9101_9102 := kn BK9101 hg; have NB9102_9101 := km BK9101 hg; replace BK9101 := kb BK9101 hb; replace HB := kh HB hb; clear hb hbox hg) | ((with_reducible refine gate_dst (N := 5) rfl ?_); refine kx 5 #[.slice A2 l2.length c2] 41 ?_; intro gbS hg wS hbox hb; have BKS := Aside0.mk (hbox); have GES := kg HB hg; replace BK9101 := kb BK9101 hb; replace BK9102 := kb BK9102 hb; replace HB := kh HB hb; clear hb hbox hg) | ((with_reducible refine gate_dst (N := 6) rfl ?_); refine kx 6 #[.bool false, .int .i64 0, .int .i64 0, .bool false, .int .i64 0, .int .i64 0] 25 ?_; intro gb9103 hg w7 hbox hb; have BK9103 := Aside0.mk (hbox); have GW9103 := kg HB hg; have GE9103 := kg HB hg; have NB9101_9103 := kn BK9101 hg; have NB9103_9101 := km BK9101 hg; have NB9102_9103 := kn BK9102 hg; have NB9103_9102 := km BK9102 hg; replace BK9101 := kb BK9101 hb; replace BK9102 := kb BK9102 hb; replace BKS := kb BKS hb; replace HB := kh HB hb; clear hb hbox hg; have hnb8 := NB9101_9102.out; have hnc8 := NB9102_9101.out; have hnb9 := NB9101_9103.out; have hnc9 := NB9103_9101.out; have ⟨hcz10_0, hcz10_1, hcz10_2, hcz10_3, hcz10_4, hcz10_5, hfz10_0, hfz10_1, hfz10_2, hfz10_3, hfz10_4, hfz10_5⟩ := kz6f BK9101; have hnb11 := NB9102_9103.out; have hnc11 := NB9103_9102.out; have ⟨hcz12_0, hcz12_1, hcz12_2, hcz12_3, hcz12_4, hcz12_5, hfz12_0, hfz12_1, hfz12_2, hfz12_3, hfz12_4, hfz12_5⟩ := kz6f BK9102) | ((with_reducible refine gate_callee (f := 65) rfl ?_); refine goesL_ (some 10) rfl rfl Try.func65 (by kernel_rfl) rfl #[.agg #[.bool a0_0, .int .i64 a0_1, .int .i64 a0_2, .bool a0_3, .int .i64 a0_4, .int .i64 a0_5], .agg #[.bool a1_0, .int .i64 a1_1, .int .i64 a1_2, .bool a1_3, .int .i64 a1_4, .int .i64 a1_5], .func (.func 67) #[] #[.pointer (some ⟨gbS, 0, none⟩)]] rfl pa ?_; (with_reducible refine (clock_bothWiden.calls k a0_0 a0_1 a0_2 a0_3 a0_4 a0_5 a1_0 a1_1 a1_2 a1_3 a1_4 a1_5 A2 c2 l2 gbS t9104 t9105 t9106 t9107 t9108 t9109 _ ?side0 ?side1 ?side2 A4.out).mono ?_); (case side0 => exact bc BKS 0); (case side1 => repeat (first | exact (Kd.C_below HR2.out HB.out) | (with_reducible refine Kd.C_alloc ?_ _) | (with_reducible refine Kd.C_drewN ?_ _) | (with_reducible refine Kd.C_drew ?_))); (case side2 => exact HC2.out); rintro e w13 ⟨rfl, hb⟩; refine ⟨_, rfl, ?_⟩; replace BK9101 := kb BK9101 hb; replace BK9102 := kb BK9102 hb; replace BK9103 := kb BK9103 hb; replace HB := kh HB hb; (try clear hb); have ⟨hcz14_0, hcz14_1, hcz14_2, hcz14_3, hcz14_4, hcz14_5, hfz14_0, hfz14_1, hfz14_2, hfz14_3, hfz14_4, hfz14_5⟩ := kz6f BK9103))
  refine bodyPost_ret (results_cell_row rfl _ _ gb9103 25 #[.bool t9104, .int .i64 t9105, .int .i64 t9106, .bool t9107, .int .i64 t9108, .int .i64 t9109] (0, 0) _ rfl (pK BK9103) Try.underlying25 rfl (by kernel_rfl)) rfl ?_
  exact ⟨pe, pl HB⟩
/-! ### clock_Inside: function 31 -/
def clock_Inside.f (k : Nat) (a0_0 : Bool) (a0_1 : Int) (a0_2 : Int) (a0_3 : Bool) (a0_4 : Int) (a0_5 : Int) (a1_0 : Bool) (a1_1 : Int) (a1_2 : Int) (a1_3 : Bool) (a1_4 : Int) (a1_5 : Int) : Option (Bool) := (clock_norm.f k a0_0 a0_1 a0_2 a0_3 a0_4 a0_5).bind fun bt9253 => ((clock_norm.f k a1_0 a1_1 a1_2 a1_3 a1_4 a1_5).bind fun bt9259 => ((ints_Inside.f bt9253.1 bt9253.2.1 bt9253.2.2.1 bt9259.1 bt9259.2.1 bt9259.2.2.1).bind fun t9265 => (if t9265 = true then ((ints_Inside.f bt9253.2.2.2.1 bt9253.2.2.2.2.1 bt9253.2.2.2.2.2 bt9259.2.2.2.1 bt9259.2.2.2.2.1 bt9259.2.2.2.2.2).bind fun t9266 => (some t9266)) else (some false))))
theorem clock_Inside.mono : ∀ a0 a1 a2 a3 a4 a5 a6 a7 a8 a9 a10 a11 k, LeO (clock_Inside.f k a0 a1 a2 a3 a4 a5 a6 a7 a8 a9 a10 a11) (clock_Inside.f (k + 1) a0 a1 a2 a3 a4 a5 a6 a7 a8 a9 a10 a11) := by
  intro a0 a1 a2 a3 a4 a5 a6 a7 a8 a9 a10 a11 k
  unfold clock_Inside.f
  repeat' first
      | (with_reducible exact clock_norm.mono _ _ _ _ _ _ _)
      | (with_reducible exact LeO.refl _)
      | (with_reducible exact LeO.none _)
      | (with_reducible refine LeO.ite ?_ ?_)
      | (with_reducible refine LeO.bind ?_ (fun _ => ?_))
      | exact clock_norm.mono _ _ _ _ _ _ _
      | exact LeO.none _
      | refine LeO.ite ?_ ?_
      | refine LeO.bind ?_ (fun _ => ?_)
set_option maxHeartbeats 8000000 in
set_option maxRecDepth 100000 in
theorem clock_Inside.calls (k : Nat) (a0_0 : Bool) (a0_1 : Int) (a0_2 : Int) (a0_3 : Bool) (a0_4 : Int) (a0_5 : Int) (a1_0 : Bool) (a1_1 : Int) (a1_2 : Int) (a1_3 : Bool) (a1_4 : Int) (a1_5 : Int) (r : Bool) (w : World) (h : clock_Inside.f k a0_0 a0_1 a0_2 a0_3 a0_4 a0_5 a1_0 a1_1 a1_2 a1_3 a1_4 a1_5 = some r) :
    Calls Try.prog 31 #[.agg #[.bool a0_0, .int .i64 a0_1, .int .i64 a0_2, .bool a0_3, .int .i64 a0_4, .int .i64 a0_5], .agg #[.bool a1_0, .int .i64 a1_1, .int .i64 a1_2, .bool a1_3, .int .i64 a1_4, .int .i64 a1_5]] w fun e w' => e = .returned (.bool r) ∧ Below w.heap.size w w' := by
  have hu25 := Try.underlying25
  have hu23 := Try.underlying23
  have HB := Aside0.mk (Below.refl w.heap.size w)
  have H := h
  clear h
  unfold clock_Inside.f at H
  obtain ⟨⟨t9253, t9254, t9255, t9256, t9257, t9258⟩, A30, H⟩ := Option.bind_eq_some_iff.mp H
  have A3 := Aside0.mk A30
  clear A30
  (try dsimp only at H)
  obtain ⟨⟨t9259, t9260, t9261, t9262, t9263, t9264⟩, A40, H⟩ := Option.bind_eq_some_iff.mp H
  have A4 := Aside0.mk A40
  clear A40
  (try dsimp only at H)
  obtain ⟨t9265, A50, H⟩ := Option.bind_eq_some_iff.mp H
  have A5 := Aside0.mk A50
  clear A50
  (try dsimp only at H)
  by_cases c6 : t9265 = true
  · subst c6
    rw [if_pos rfl] at H
    obtain ⟨t9266, A70, H⟩ := Option.bind_eq_some_iff.mp H
    have A7 := Aside0.mk A70
    clear A70
    (try dsimp only at H)
    obtain rfl := Option.some.inj H
    go_enter Try.func31, Try.ntmps31
    try go_wp2_with (first | ((with_reducible refine gate_dst (N := 2) rfl ?_); refine kx 2 #[.bool a0_0, .int .i64 a0_1, .int .i64 a0_2, .bool a0_3, .int .i64 a0_4, .int .i64 a0_5] 25 ?_; intro gb9251 hg w8 hbox hb; have BK9251 := Aside0.mk (hbox); have GW9251 := kg HB hg; have GE9251 := kg HB hg; replace HB := kh HB hb; clear hb hbox hg) | ((with_reducible refine gate_dst (N := 3) rfl ?_); refine kx 3 #[.bool a1_0, .int .i64 a1_1, .int .i64 a1_2, .bool a1_3, .int .i64 a1_4, .int .i64 a1_5] 25 ?_; intro gb9252 hg w9 hbox hb; have BK9252 := Aside0.mk (hbox); have GW9252 := kg HB hg; have GE9252 := kg HB hg; have NB9251_9252 := kn BK9251 hg; have NB9252_9251 := km BK9251 hg; replace BK9251 := kb BK9251 hb; replace HB := kh HB hb; clear hb hbox hg))
    replace BK9251 := Aside0.mk (blk_drew BK9251.out)
    replace BK9252 := Aside0.mk (blk_drew BK9252.out)
    replace HB := Aside0.mk (below_drew1 HB.out)
    refine start_ (n := 6) (S := fun w' => w'.cell? ⟨gb9251, 0, none⟩ = some (.bool a0_0) ∧ w'.cell? ⟨gb9251, 1, none⟩ = some (.int .i64 a0_1) ∧ w'.cell? ⟨gb9251, 2, none⟩ = some (.int .i64 a0_2) ∧ w'.cell? ⟨gb9251, 3, none⟩ = some (.bool a0_3) ∧ w'.cell? ⟨gb9251, 4, none⟩ = some (.int .i64 a0_4) ∧ w'.cell? ⟨gb9251, 5, none⟩ = some (.int .i64 a0_5) ∧ w'.cell? ⟨gb9252, 0, none⟩ = some (.bool a1_0) ∧ w'.cell? ⟨gb9252, 1, none⟩ = some (.int .i64 a1_1) ∧ w'.cell? ⟨gb9252, 2, none⟩ = some (.int .i64 a1_2) ∧ w'.cell? ⟨gb9252, 3, none⟩ = some (.bool a1_3) ∧ w'.cell? ⟨gb9252, 4, none⟩ = some (.int .i64 a1_4) ∧ w'.cell? ⟨gb9252, 5, none⟩ = some (.int .i64 a1_5)) (ds := [4, 5]) #[false, false, false, false, false, false] (by kernel_rfl) rfl rfl ⟨bc BK9251 0, bc BK9251 1, bc BK9251 2, bc BK9251 3, bc BK9251 4, bc BK9251 5, bc BK9252 0, bc BK9252 1, bc BK9252 2, bc BK9252 3, bc BK9252 4, bc BK9252 5⟩ (fun hHeld => ?_)
    generalize w9.drew = w10 at BK9251 BK9252 HB hHeld ⊢
    refine tak 0 (some 5) #[true, false, false, false, false, false] (by kernel_rfl) hHeld ?_
    refine tak 2 (some 7) #[true, false, true, false, false, false] (by kernel_rfl) hHeld ?_
    refine one_ (i := 1) (N := some 6) #[true, true, true, false, false, false] rfl rfl (by kernel_rfl) (by decide) (fun K hK => ?_)
    refine gc Try.func61 #[.agg #[.bool a0_0, .int .i64 a0_1, .int .i64 a0_2, .bool a0_3, .int .i64 a0_4, .int .i64 a0_5]] (clock_norm.calls k a0_0 a0_1 a0_2 a0_3 a0_4 a0_5 t9253 t9254 t9255 t9256 t9257 t9258 _ A3.out) ?_
    intro w11 hb
    replace BK9251 := kb BK9251 hb
    replace BK9252 := kb BK9252 hb
    replace HB := kh HB hb
    (try clear hb)
    refine hK.out _ _ ⟨bc BK9251 0, bc BK9251 1, bc BK9251 2, bc BK9251 3, bc BK9251 4, bc BK9251 5, bc BK9252 0, bc BK9252 1, bc BK9252 2, bc BK9252 3, bc BK9252 4, bc BK9252 5⟩ (fun hHeld => ?_)
    clear hK K
    refine nrm (some 6) ?_
    refine one_ (i := 3) (N := some 8) #[true, true, true, true, false, false] rfl rfl (by kernel_rfl) (by decide) (fun K hK => ?_)
    refine gc Try.func61 #[.agg #[.bool a1_0, .int .i64 a1_1, .int .i64 a1_2, .bool a1_3, .int .i64 a1_4, .int .i64 a1_5]] (clock_norm.calls k a1_0 a1_1 a1_2 a1_3 a1_4 a1_5 t9259 t9260 t9261 t9262 t9263 t9264 _ A4.out) ?_
    intro w12 hb
    replace BK9251 := kb BK9251 hb
    replace BK9252 := kb BK9252 hb
    replace HB := kh HB hb
    (try clear hb)
    refine hK.out _ _ ⟨bc BK9251 0, bc BK9251 1, bc BK9251 2, bc BK9251 3, bc BK9251 4, bc BK9251 5, bc BK9252 0, bc BK9252 1, bc BK9252 2, bc BK9252 3, bc BK9252 4, bc BK9252 5⟩ (fun hHeld => ?_)
    clear hK K
    refine nrm (some 8) ?_
    refine last_ (i := 4) (N := none) #[true, true, true, true, true, false] rfl rfl (by kernel_rfl) (by decide) (fun K hK => ?_)
    have hs13 : w12.cell? ⟨gb9251, 0, none⟩ = some (.bool a0_0) := bc BK9251 0
    have hfs13 := blk_frozen BK9251.out 0
    have hns13_1 := NB9252_9251.out
    have hms13_1 := NB9251_9252.out
    have hs14 : w12.cell? ⟨gb9251, 1, none⟩ = some (.int .i64 a0_1) := bc BK9251 1
    have hfs14 := blk_frozen BK9251.out 1
    have hs15 : w12.cell? ⟨gb9251, 2, none⟩ = some (.int .i64 a0_2) := bc BK9251 2
    have hfs15 := blk_frozen BK9251.out 2
    have hs16 : w12.cell? ⟨gb9251, 3, none⟩ = some (.bool a0_3) := bc BK9251 3
    have hfs16 := blk_frozen BK9251.out 3
    have hs17 : w12.cell? ⟨gb9251, 4, none⟩ = some (.int .i64 a0_4) := bc BK9251 4
    have hfs17 := blk_frozen BK9251.out 4
    have hs18 : w12.cell? ⟨gb9251, 5, none⟩ = some (.int .i64 a0_5) := bc BK9251 5
    have hfs18 := blk_frozen BK9251.out 5
    refine skip_ (w1 := ?_) (by rfl) rfl ?_ ?_
    rotate_left
    · go_simp
      rfl
    refine hK.out _ _ ?_
    clear hK K
    refine last_ (i := 5) (N := none) #[true, true, true, true, true, true] rfl rfl (by kernel_rfl) (by decide) (fun K hK => ?_)
    have hs19 : w12.cell? ⟨gb9252, 0, none⟩ = some (.bool a1_0) := bc BK9252 0
    have hfs19 := blk_frozen BK9252.out 0
    have hns19_0 := NB9251_9252.out
    have hms19_0 := NB9252_9251.out
    have hs20 : w12.cell? ⟨gb9252, 1, none⟩ = some (.int .i64 a1_1) := bc BK9252 1
    have hfs20 := blk_frozen BK9252.out 1
    have hs21 : w12.cell? ⟨gb9252, 2, none⟩ = some (.int .i64 a1_2) := bc BK9252 2
    have hfs21 := blk_frozen BK9252.out 2
    have hs22 : w12.cell? ⟨gb9252, 3, none⟩ = some (.bool a1_3) := bc BK9252 3
    have hfs22 := blk_frozen BK9252.out 3
    have hs23 : w12.cell? ⟨gb9252, 4, none⟩ = some (.int .i64 a1_4) := bc BK9252 4
    have hfs23 := blk_frozen BK9252.out 4
    have hs24 : w12.cell? ⟨gb9252, 5, none⟩ = some (.int .i64 a1_5) := bc BK9252 5
    have hfs24 := blk_frozen BK9252.out 5
    refine skip_ (w1 := ?_) (by rfl) rfl ?_ ?_
    rotate_left
    · go_simp
      rfl
    refine hK.out _ _ ?_
    clear hK K
    refine done_ (by kernel_rfl) ?_
    have hnb25 := NB9251_9252.out
    have hnc25 := NB9252_9251.out
    have ⟨hcz26_0, hcz26_1, hcz26_2, hcz26_3, hcz26_4, hcz26_5, hfz26_0, hfz26_1, hfz26_2, hfz26_3, hfz26_4, hfz26_5⟩ := kz6f BK9251
    have ⟨hcz27_0, hcz27_1, hcz27_2, hcz27_3, hcz27_4, hcz27_5, hfz27_0, hfz27_1, hfz27_2, hfz27_3, hfz27_4, hfz27_5⟩ := kz6f BK9252
    try go_wp2_with (first | ((with_reducible refine gate_callee (f := 41) rfl ?_); refine kc (some 13) Try.func41 #[.agg #[.bool t9253, .int .i64 t9254, .int .i64 t9255], .agg #[.bool t9259, .int .i64 t9260, .int .i64 t9261]] (ints_Inside.calls t9253 t9254 t9255 t9259 t9260 t9261 true _ A5.out) ?_; intro w28 hb; replace BK9251 := kb (o' := .cells #[.bool t9253, .int .i64 t9254, .int .i64 t9255, .bool t9256, .int .i64 t9257, .int .i64 t9258] 25 (0, 0)) BK9251 hb; replace BK9252 := kb (o' := .cells #[.bool t9259, .int .i64 t9260, .int .i64 t9261, .bool t9262, .int .i64 t9263, .int .i64 t9264] 25 (0, 0)) BK9252 hb; replace HB := kh HB hb; (try clear hb); have ⟨hcz29_0, hcz29_1, hcz29_2, hcz29_3, hcz29_4, hcz29_5, hfz29_0, hfz29_1, hfz29_2, hfz29_3, hfz29_4, hfz29_5⟩ := kz6f BK9251; have ⟨hcz30_0, hcz30_1, hcz30_2, hcz30_3, hcz30_4, hcz30_5, hfz30_0, hfz30_1, hfz30_2, hfz30_3, hfz30_4, hfz30_5⟩ := kz6f BK9252) | (go_at_call 41; (with_reducible refine (ints_Inside.calls t9256 t9257 t9258 t9262 t9263 t9264 t9266 _ A7.out).mono ?_); rintro e w31 ⟨rfl, hb⟩; replace BK9251 := kb BK9251 hb; replace BK9252 := kb BK9252 hb; replace HB := kh HB hb; (try clear hb)))
    go_ret
    exact ⟨pe, pl HB⟩
  · replace c6 := Bool.eq_false_iff.mpr c6
    subst c6
    rw [if_neg (show ¬ (false = true) by decide)] at H
    obtain rfl := Option.some.inj H
    go_enter Try.func31, Try.ntmps31
    try go_wp2_with (first | ((with_reducible refine gate_dst (N := 2) rfl ?_); refine kx 2 #[.bool a0_0, .int .i64 a0_1, .int .i64 a0_2, .bool a0_3, .int .i64 a0_4, .int .i64 a0_5] 25 ?_; intro gb9251 hg w32 hbox hb; have BK9251 := Aside0.mk (hbox); have GW9251 := kg HB hg; have GE9251 := kg HB hg; replace HB := kh HB hb; clear hb hbox hg) | ((with_reducible refine gate_dst (N := 3) rfl ?_); refine kx 3 #[.bool a1_0, .int .i64 a1_1, .int .i64 a1_2, .bool a1_3, .int .i64 a1_4, .int .i64 a1_5] 25 ?_; intro gb9252 hg w33 hbox hb; have BK9252 := Aside0.mk (hbox); have GW9252 := kg HB hg; have GE9252 := kg HB hg; have NB9251_9252 := kn BK9251 hg; have NB9252_9251 := km BK9251 hg; replace BK9251 := kb BK9251 hb; replace HB := kh HB hb; clear hb hbox hg))
    replace BK9251 := Aside0.mk (blk_drew BK9251.out)
    replace BK9252 := Aside0.mk (blk_drew BK9252.out)
    replace HB := Aside0.mk (below_drew1 HB.out)
    refine start_ (n := 6) (S := fun w' => w'.cell? ⟨gb9251, 0, none⟩ = some (.bool a0_0) ∧ w'.cell? ⟨gb9251, 1, none⟩ = some (.int .i64 a0_1) ∧ w'.cell? ⟨gb9251, 2, none⟩ = some (.int .i64 a0_2) ∧ w'.cell? ⟨gb9251, 3, none⟩ = some (.bool a0_3) ∧ w'.cell? ⟨gb9251, 4, none⟩ = some (.int .i64 a0_4) ∧ w'.cell? ⟨gb9251, 5, none⟩ = some (.int .i64 a0_5) ∧ w'.cell? ⟨gb9252, 0, none⟩ = some (.bool a1_0) ∧ w'.cell? ⟨gb9252, 1, none⟩ = some (.int .i64 a1_1) ∧ w'.cell? ⟨gb9252, 2, none⟩ = some (.int .i64 a1_2) ∧ w'.cell? ⟨gb9252, 3, none⟩ = some (.bool a1_3) ∧ w'.cell? ⟨gb9252, 4, none⟩ = some (.int .i64 a1_4) ∧ w'.cell? ⟨gb9252, 5, none⟩ = some (.int .i64 a1_5)) (ds := [4, 5]) #[false, false, false, false, false, false] (by kernel_rfl) rfl rfl ⟨bc BK9251 0, bc BK9251 1, bc BK9251 2, bc BK9251 3, bc BK9251 4, bc BK9251 5, bc BK9252 0, bc BK9252 1, bc BK9252 2, bc BK9252 3, bc BK9252 4, bc BK9252 5⟩ (fun hHeld => ?_)
    generalize w33.drew = w34 at BK9251 BK9252 HB hHeld ⊢
    refine tak 0 (some 5) #[true, false, false, false, false, false] (by kernel_rfl) hHeld ?_
    refine tak 2 (some 7) #[true, false, true, false, false, false] (by kernel_rfl) hHeld ?_
    refine one_ (i := 1) (N := some 6) #[true, true, true, false, false, false] rfl rfl (by kernel_rfl) (by decide) (fun K hK => ?_)
    refine gc Try.func61 #[.agg #[.bool a0_0, .int .i64 a0_1, .int .i64 a0_2, .bool a0_3, .int .i64 a0_4, .int .i64 a0_5]] (clock_norm.calls k a0_0 a0_1 a0_2 a0_3 a0_4 a0_5 t9253 t9254 t9255 t9256 t9257 t9258 _ A3.out) ?_
    intro w35 hb
    replace BK9251 := kb BK9251 hb
    replace BK9252 := kb BK9252 hb
    replace HB := kh HB hb
    (try clear hb)
    refine hK.out _ _ ⟨bc BK9251 0, bc BK9251 1, bc BK9251 2, bc BK9251 3, bc BK9251 4, bc BK9251 5, bc BK9252 0, bc BK9252 1, bc BK9252 2, bc BK9252 3, bc BK9252 4, bc BK9252 5⟩ (fun hHeld => ?_)
    clear hK K
    refine nrm (some 6) ?_
    refine one_ (i := 3) (N := some 8) #[true, true, true, true, false, false] rfl rfl (by kernel_rfl) (by decide) (fun K hK => ?_)
    refine gc Try.func61 #[.agg #[.bool a1_0, .int .i64 a1_1, .int .i64 a1_2, .bool a1_3, .int .i64 a1_4, .int .i64 a1_5]] (clock_norm.calls k a1_0 a1_1 a1_2 a1_3 a1_4 a1_5 t9259 t9260 t9261 t9262 t9263 t9264 _ A4.out) ?_
    intro w36 hb
    replace BK9251 := kb BK9251 hb
    replace BK9252 := kb BK9252 hb
    replace HB := kh HB hb
    (try clear hb)
    refine hK.out _ _ ⟨bc BK9251 0, bc BK9251 1, bc BK9251 2, bc BK9251 3, bc BK9251 4, bc BK9251 5, bc BK9252 0, bc BK9252 1, bc BK9252 2, bc BK9252 3, bc BK9252 4, bc BK9252 5⟩ (fun hHeld => ?_)
    clear hK K
    refine nrm (some 8) ?_
    refine last_ (i := 4) (N := none) #[true, true, true, true, true, false] rfl rfl (by kernel_rfl) (by decide) (fun K hK => ?_)
    have hs37 : w36.cell? ⟨gb9251, 0, none⟩ = some (.bool a0_0) := bc BK9251 0
    have hfs37 := blk_frozen BK9251.out 0
    have hns37_1 := NB9252_9251.out
    have hms37_1 := NB9251_9252.out
    have hs38 : w36.cell? ⟨gb9251, 1, none⟩ = some (.int .i64 a0_1) := bc BK9251 1
    have hfs38 := blk_frozen BK9251.out 1
    have hs39 : w36.cell? ⟨gb9251, 2, none⟩ = some (.int .i64 a0_2) := bc BK9251 2
    have hfs39 := blk_frozen BK9251.out 2
    have hs40 : w36.cell? ⟨gb9251, 3, none⟩ = some (.bool a0_3) := bc BK9251 3
    have hfs40 := blk_frozen BK9251.out 3
    have hs41 : w36.cell? ⟨gb9251, 4, none⟩ = some (.int .i64 a0_4) := bc BK9251 4
    have hfs41 := blk_frozen BK9251.out 4
    have hs42 : w36.cell? ⟨gb9251, 5, none⟩ = some (.int .i64 a0_5) := bc BK9251 5
    have hfs42 := blk_frozen BK9251.out 5
    refine skip_ (w1 := ?_) (by rfl) rfl ?_ ?_
    rotate_left
    · go_simp
      rfl
    refine hK.out _ _ ?_
    clear hK K
    refine last_ (i := 5) (N := none) #[true, true, true, true, true, true] rfl rfl (by kernel_rfl) (by decide) (fun K hK => ?_)
    have hs43 : w36.cell? ⟨gb9252, 0, none⟩ = some (.bool a1_0) := bc BK9252 0
    have hfs43 := blk_frozen BK9252.out 0
    have hns43_0 := NB9251_9252.out
    have hms43_0 := NB9252_9251.out
    have hs44 : w36.cell? ⟨gb9252, 1, none⟩ = some (.int .i64 a1_1) := bc BK9252 1
    have hfs44 := blk_frozen BK9252.out 1
    have hs45 : w36.cell? ⟨gb9252, 2, none⟩ = some (.int .i64 a1_2) := bc BK9252 2
    have hfs45 := blk_frozen BK9252.out 2
    have hs46 : w36.cell? ⟨gb9252, 3, none⟩ = some (.bool a1_3) := bc BK9252 3
    have hfs46 := blk_frozen BK9252.out 3
    have hs47 : w36.cell? ⟨gb9252, 4, none⟩ = some (.int .i64 a1_4) := bc BK9252 4
    have hfs47 := blk_frozen BK9252.out 4
    have hs48 : w36.cell? ⟨gb9252, 5, none⟩ = some (.int .i64 a1_5) := bc BK9252 5
    have hfs48 := blk_frozen BK9252.out 5
    refine skip_ (w1 := ?_) (by rfl) rfl ?_ ?_
    rotate_left
    · go_simp
      rfl
    refine hK.out _ _ ?_
    clear hK K
    refine done_ (by kernel_rfl) ?_
    have hnb49 := NB9251_9252.out
    have hnc49 := NB9252_9251.out
    have ⟨hcz50_0, hcz50_1, hcz50_2, hcz50_3, hcz50_4, hcz50_5, hfz50_0, hfz50_1, hfz50_2, hfz50_3, hfz50_4, hfz50_5⟩ := kz6f BK9251
    have ⟨hcz51_0, hcz51_1, hcz51_2, hcz51_3, hcz51_4, hcz51_5, hfz51_0, hfz51_1, hfz51_2, hfz51_3, hfz51_4, hfz51_5⟩ := kz6f BK9252
    try go_wp2_with (first | ((with_reducible refine gate_callee (f := 41) rfl ?_); refine kc (some 13) Try.func41 #[.agg #[.bool t9253, .int .i64 t9254, .int .i64 t9255], .agg #[.bool t9259, .int .i64 t9260, .int .i64 t9261]] (ints_Inside.calls t9253 t9254 t9255 t9259 t9260 t9261 false _ A5.out) ?_; intro w52 hb; replace BK9251 := kb (o' := .cells #[.bool t9253, .int .i64 t9254, .int .i64 t9255, .bool t9256, .int .i64 t9257, .int .i64 t9258] 25 (0, 0)) BK9251 hb; replace BK9252 := kb (o' := .cells #[.bool t9259, .int .i64 t9260, .int .i64 t9261, .bool t9262, .int .i64 t9263, .int .i64 t9264] 25 (0, 0)) BK9252 hb; replace HB := kh HB hb; (try clear hb)))
    go_ret
    exact ⟨pe, pl HB⟩
end Go.Proofs.Ytinmgnlofininaa.PAll
end
