-- This session's own: calls of a function value that lies in a slot.
import Derived.Test.YtinmgnlofininaaWLast
import Derived.Test.YtinmgnlofininaaWMore
import Derived.Test.YtinmgnlofininaaWTab
import Derived.Tactics
import Derived.WalkKit
import Derived.KernelRfl
namespace Go.Proofs.YtinmgnlofininaaW.PrintWords
open Go.RowKit Go.Proofs.YtinmgnlofininaaW.PrintLast
/-! ### calls through a function value in a slot -/
section
variable {P : Program} {ops : Array Oper} {rest : List Oper} {o : Oper} {a : Act} {Q : Exit → Act → World → Prop} {W : World}
theorem gate_calleeT {T : Tmp} {ars : Array Operand} {ts : Array TypeId} (_ho : o.op = .call { callee := .value (.tmp T), args := ars, argTypes := ts }) (h : wpList P ops Q (o :: rest) a W) : wpList P ops Q (o :: rest) a W := h
theorem goesF_ (N : Option Tmp) (hd : o.dst = N) (hg : o.guard = none) {f : FuncId} {fn : Func} {ars : Array Operand} {ts : Array TypeId} (hf : P.funcs[f]? = some fn) (hname : (fn.name == "runtime.NumGoroutine") = false) (hb : fn.body.isSome = true) (cap : Array Value) {T : Tmp}
    (hT : a.eval (.tmp T) = .func (.func f) #[] cap) (args : Array Value) (hop : o.op = .call { callee := .value (.tmp T), args := ars, argTypes := ts }) (hargs : ars.map a.eval = args)
    (h : Calls P f (args ++ cap) W fun e w' => ∃ v, e = .returned v ∧ wpList P ops Q rest (a.put N v) w') : wpList P ops Q (o :: rest) a W := by
  refine wpList_plain hg fun K hK => ?_
  have he := enters_ hf hname hb (args ++ cap) W
  have hrun : (execOp a.eval o).run P W = .ok (.enter f (args ++ cap)) W := by
    unfold execOp
    simp [hop, resolve, hT, Deferred.ofValue, invoke, hargs, he]
  unfold Oper.wp
  rw [hrun, Oper.upon_enter]
  refine h.mono fun e w'' hh => ?_
  obtain ⟨v, rfl, hk⟩ := hh
  subst hd
  exact hK _ _ hk
theorem goesU_ {oi : Oper} {N : Option Tmp} {K : Act → World → Prop} {f : FuncId} {fn : Func} {ars : Array Operand} {ts : Array TypeId} (hf : P.funcs[f]? = some fn) (hname : (fn.name == "runtime.NumGoroutine") = false) (hb : fn.body.isSome = true) (cap : Array Value) {T : Tmp} (hT : a.eval (.tmp T) = .func (.func f) #[] cap) (args : Array Value)
    (hw : Region.wanted oi (yielded ops a.tmps) = true) (hN : oi.dst = N) (hop : oi.op = .call { callee := .value (.tmp T), args := ars, argTypes := ts }) (hargs : ars.map a.eval = args)
    (h : Calls P f (args ++ cap) W fun e w' => ∃ v, e = .returned v ∧ K (a.put N v) w') : if Region.wanted oi (yielded ops a.tmps) = true then Oper.wp P oi a W K Q else K (a.put N undef) W := by
  refine call_ f (args ++ cap) hw hN ?_ h
  have he := enters_ hf hname hb (args ++ cap) W
  unfold execOp
  simp [hop, resolve, hT, Deferred.ofValue, invoke, hargs, he]
theorem goesU0_ {oi : Oper} {N : Option Tmp} {K : Act → World → Prop} {f : FuncId} {fn : Func} {ars : Array Operand} {ts : Array TypeId} (hf : P.funcs[f]? = some fn) (hname : (fn.name == "runtime.NumGoroutine") = false) (hb : fn.body.isSome = true) {T : Tmp} (hT : a.eval (.tmp T) = .func (.func f) #[] #[]) (args : Array Value)
    (hw : Region.wanted oi (yielded ops a.tmps) = true) (hN : oi.dst = N) (hop : oi.op = .call { callee := .value (.tmp T), args := ars, argTypes := ts }) (hargs : ars.map a.eval = args)
    (h : Calls P f args W fun e w' => ∃ v, e = .returned v ∧ K (a.put N v) w') : if Region.wanted oi (yielded ops a.tmps) = true then Oper.wp P oi a W K Q else K (a.put N undef) W :=
  goesU_ hf hname hb #[] hT args hw hN hop hargs (by rw [Array.append_empty]; exact h)
theorem goesF0_ (N : Option Tmp) (hd : o.dst = N) (hg : o.guard = none) {f : FuncId} {fn : Func} {ars : Array Operand} {ts : Array TypeId} (hf : P.funcs[f]? = some fn) (hname : (fn.name == "runtime.NumGoroutine") = false) (hb : fn.body.isSome = true) {T : Tmp}
    (hT : a.eval (.tmp T) = .func (.func f) #[] #[]) (args : Array Value) (hop : o.op = .call { callee := .value (.tmp T), args := ars, argTypes := ts }) (hargs : ars.map a.eval = args)
    (h : Calls P f args W fun e w' => ∃ v, e = .returned v ∧ wpList P ops Q rest (a.put N v) w') : wpList P ops Q (o :: rest) a W :=
  goesF_ N hd hg hf hname hb #[] hT args hop hargs (by rw [Array.append_empty]; exact h)
end
/-! ### what the print repeats, as lemmas whose last premises close themselves -/
section
variable {w w0 w1 w2 W W0 : World} {g g' : Nat} {o o' : Obj}
theorem pk {p q : Prop} (h : Aside0 p) (hh : p → q := by (intro h0; (repeat (first | (with_reducible first | exact h0 | refine blk_drewN ?_ _ | refine blk_drew ?_ | refine blk_alloc ?_ _) | apply blk_far (hp := Aside0.out (by assumption)))); done)) : q := hh h.out
theorem pK {p q : Prop} (h : Aside0 p) (hh : p → q := by (intro h0; (repeat (first | (with_reducible first | exact h0 | refine blk_drewN ?_ _ | refine blk_drew ?_ | refine blk_alloc ?_ _ | apply blk_put) | apply blk_far (hp := Aside0.out (by assumption)))); all_goals (first | (simp only [List.setIfInBounds_toArray, List.set_cons_zero, List.set_cons_succ]; done) | (simp only [List.setIfInBounds_toArray, List.set_cons_zero, List.set_cons_succ]; rfl) | rfl))) : q := hh h.out
theorem pl {p q : Prop} (h : Aside0 p) (hh : p → q := by (intro h0; repeat (first | (with_reducible first | exact h0 | apply below_alloc | apply pw_below_drewN | apply below_drew1 | refine below_set ?_ (Aside0.out (by assumption))) | exact h0))) : q := hh h.out
theorem kb (h : Aside0 (w0.heap[g]? = some o)) (hb : Below w.heap.size w w1) (hh : w0.heap[g]? = some o → w.heap[g]? = some o' := by (intro h0; (repeat (first | (with_reducible first | exact h0 | refine blk_drewN ?_ _ | refine blk_drew ?_ | refine blk_alloc ?_ _ | apply blk_put) | apply blk_far (hp := Aside0.out (by assumption)))); all_goals (first | (simp only [List.setIfInBounds_toArray, List.set_cons_zero, List.set_cons_succ]; done) | (simp only [List.setIfInBounds_toArray, List.set_cons_zero, List.set_cons_succ]; rfl) | rfl))) : Aside0 (w1.heap[g]? = some o') := ⟨blk_below (hh h.out) hb⟩
theorem kr (h : Aside0 (w0.heap[g]? = some o)) (e : w = w1) (hh : w0.heap[g]? = some o → w.heap[g]? = some o' := by (intro h0; (repeat (first | (with_reducible first | exact h0 | refine blk_drewN ?_ _ | refine blk_drew ?_ | refine blk_alloc ?_ _ | apply blk_put) | apply blk_far (hp := Aside0.out (by assumption)))); all_goals (first | (simp only [List.setIfInBounds_toArray, List.set_cons_zero, List.set_cons_succ]; done) | (simp only [List.setIfInBounds_toArray, List.set_cons_zero, List.set_cons_succ]; rfl) | rfl))) : Aside0 (w1.heap[g]? = some o') := ⟨e ▸ hh h.out⟩
theorem kn (h : Aside0 (w0.heap[g]? = some o)) (hg : g' = w.heap.size) (hh : w0.heap[g]? = some o → w.heap[g]? = some o' := by (intro h0; (repeat (first | (with_reducible first | exact h0 | refine blk_drewN ?_ _ | refine blk_drew ?_ | refine blk_alloc ?_ _ | apply blk_put) | apply blk_far (hp := Aside0.out (by assumption)))); all_goals (first | (simp only [List.setIfInBounds_toArray, List.set_cons_zero, List.set_cons_succ]; done) | (simp only [List.setIfInBounds_toArray, List.set_cons_zero, List.set_cons_succ]; rfl) | rfl))) : Aside0 (g ≠ g') := ⟨by rw [hg]; exact Nat.ne_of_lt (blk_lt (hh h.out))⟩
theorem km (h : Aside0 (w0.heap[g]? = some o)) (hg : g' = w.heap.size) (hh : w0.heap[g]? = some o → w.heap[g]? = some o' := by (intro h0; (repeat (first | (with_reducible first | exact h0 | refine blk_drewN ?_ _ | refine blk_drew ?_ | refine blk_alloc ?_ _ | apply blk_put) | apply blk_far (hp := Aside0.out (by assumption)))); all_goals (first | (simp only [List.setIfInBounds_toArray, List.set_cons_zero, List.set_cons_succ]; done) | (simp only [List.setIfInBounds_toArray, List.set_cons_zero, List.set_cons_succ]; rfl) | rfl))) : Aside0 (g' ≠ g) := ⟨by rw [hg]; exact Nat.ne_of_gt (blk_lt (hh h.out))⟩
theorem kh (h : Aside0 (Below w.heap.size w W0)) (hb : Below W.heap.size W w2) (hh : Below w.heap.size w W0 → Below w.heap.size w W := by (intro h0; repeat (first | (with_reducible first | exact h0 | apply below_alloc | apply pw_below_drewN | apply below_drew1 | refine below_set ?_ (Aside0.out (by assumption))) | exact h0))) : Aside0 (Below w.heap.size w w2) := ⟨below_step (hh h.out) hb⟩
theorem kq (h : Aside0 (Below w.heap.size w W0)) (e : W = w2) (hh : Below w.heap.size w W0 → Below w.heap.size w W := by (intro h0; repeat (first | (with_reducible first | exact h0 | apply below_alloc | apply pw_below_drewN | apply below_drew1 | refine below_set ?_ (Aside0.out (by assumption))) | exact h0))) : Aside0 (Below w.heap.size w w2) := ⟨e ▸ hh h.out⟩
theorem kg (h : Aside0 (Below w.heap.size w W0)) (hg : g = W.heap.size) (hh : Below w.heap.size w W0 → Below w.heap.size w W := by (intro h0; repeat (first | (with_reducible first | exact h0 | apply below_alloc | apply pw_below_drewN | apply below_drew1 | refine below_set ?_ (Aside0.out (by assumption))) | exact h0))) : Aside0 (w.heap.size ≤ g) := ⟨by rw [hg]; exact below_size (hh h.out)⟩
theorem bc {cs : Array Value} {t : TypeId} (h : Aside0 (w.heap[g]? = some (.cells cs t (0, 0)))) (i : Nat) {v : Value} (e : cs[i]? = some v := by rfl) : w.cell? ⟨g, i, none⟩ = some v := (blk_cell h.out i).trans e
theorem cf {p q : Prop} (h : p) (hh : p → q := by (intro h0; repeat (first | (with_reducible exact h0) | refine (cell_far (Aside0.out (by assumption)) _).trans ?_))) : q := hh h
theorem kz3 {a b c : Value} {t : TypeId} (h : Aside0 (w.heap[g]? = some (.cells #[a, b, c] t (0, 0)))) : w.cell? ⟨g, 0, none⟩ = some a ∧ w.cell? ⟨g, 1, none⟩ = some b ∧ w.cell? ⟨g, 2, none⟩ = some c :=
  ⟨(blk_cell h.out 0).trans rfl, (blk_cell h.out 1).trans rfl, (blk_cell h.out 2).trans rfl⟩
theorem kz6 {a b c d e f : Value} {t : TypeId} (h : Aside0 (w.heap[g]? = some (.cells #[a, b, c, d, e, f] t (0, 0)))) : w.cell? ⟨g, 0, none⟩ = some a ∧ w.cell? ⟨g, 1, none⟩ = some b ∧ w.cell? ⟨g, 2, none⟩ = some c ∧ w.cell? ⟨g, 3, none⟩ = some d ∧ w.cell? ⟨g, 4, none⟩ = some e ∧ w.cell? ⟨g, 5, none⟩ = some f :=
  ⟨(blk_cell h.out 0).trans rfl, (blk_cell h.out 1).trans rfl, (blk_cell h.out 2).trans rfl, (blk_cell h.out 3).trans rfl, (blk_cell h.out 4).trans rfl, (blk_cell h.out 5).trans rfl⟩
theorem kz3f {a b c : Value} {t : TypeId} (h : Aside0 (w.heap[g]? = some (.cells #[a, b, c] t (0, 0)))) : w.cell? ⟨g, 0, none⟩ = some a ∧ w.cell? ⟨g, 1, none⟩ = some b ∧ w.cell? ⟨g, 2, none⟩ = some c ∧ w.frozen? ⟨g, 0, none⟩ = false ∧ w.frozen? ⟨g, 1, none⟩ = false ∧ w.frozen? ⟨g, 2, none⟩ = false :=
  ⟨(blk_cell h.out 0).trans rfl, (blk_cell h.out 1).trans rfl, (blk_cell h.out 2).trans rfl, blk_frozen h.out 0, blk_frozen h.out 1, blk_frozen h.out 2⟩
theorem kz6f {a b c d e f : Value} {t : TypeId} (h : Aside0 (w.heap[g]? = some (.cells #[a, b, c, d, e, f] t (0, 0)))) : w.cell? ⟨g, 0, none⟩ = some a ∧ w.cell? ⟨g, 1, none⟩ = some b ∧ w.cell? ⟨g, 2, none⟩ = some c ∧ w.cell? ⟨g, 3, none⟩ = some d ∧ w.cell? ⟨g, 4, none⟩ = some e ∧ w.cell? ⟨g, 5, none⟩ = some f ∧ w.frozen? ⟨g, 0, none⟩ = false ∧ w.frozen? ⟨g, 1, none⟩ = false ∧ w.frozen? ⟨g, 2, none⟩ = false ∧ w.frozen? ⟨g, 3, none⟩ = false ∧ w.frozen? ⟨g, 4, none⟩ = false ∧ w.frozen? ⟨g, 5, none⟩ = false :=
  ⟨(blk_cell h.out 0).trans rfl, (blk_cell h.out 1).trans rfl, (blk_cell h.out 2).trans rfl, (blk_cell h.out 3).trans rfl, (blk_cell h.out 4).trans rfl, (blk_cell h.out 5).trans rfl, blk_frozen h.out 0, blk_frozen h.out 1, blk_frozen h.out 2, blk_frozen h.out 3, blk_frozen h.out 4, blk_frozen h.out 5⟩
theorem pe {p : Prop} (h : p := by first | rfl | (simp <;> rfl) | (simp [*] <;> rfl)) : p := h
theorem pa {α : Type} {x y : α} (h : x = y := by ((try simp only [List.map_toArray, List.map_cons, List.map_nil]); first | done | rfl | (simp only [List.length_drop, List.length_take]; rfl))) : x = y := h
end
section
variable {P : Program} {ops : Array Oper} {rest : List Oper} {o : Oper} {a : Act} {Q : Exit → Act → World → Prop} {W : World}
theorem kx (N : Tmp) (cs : Array Value) (t : TypeId)
    (h : ∀ g, g = W.heap.size → ∀ w1, w1.heap[g]? = some (.cells cs t (0, 0)) → Below W.heap.size W w1 → wpList P ops Q rest (a.put o.dst (.pointer (some ⟨g, 0, none⟩))) w1)
    (hd : o.dst = some N := by rfl) (hg : o.guard = none := by rfl)
    (hr : (execOp a.eval o).run P W = .ok (.value (.pointer (some ⟨W.heap.size, 0, none⟩))) (W.alloc (.cells cs t (0, 0))) := by first | (go_simp; done) | (go_simp; rfl)) : wpList P ops Q (o :: rest) a W :=
  box_event hg hd hr h
theorem kc (N : Option Tmp) {f : FuncId} {fn : Func} {ars : Array Operand} {ts : Array TypeId} {v : Value} (hf : P.funcs[f]? = some fn) (args : Array Value) (hc : Calls P f args W fun e w' => e = .returned v ∧ Below W.heap.size W w')
    (h : ∀ w1, Below W.heap.size W w1 → wpList P ops Q rest (a.put N v) w1)
    (hd : o.dst = N := by rfl) (hg : o.guard = none := by rfl) (hname : (fn.name == "runtime.NumGoroutine") = false := by kernel_rfl) (hb : fn.body.isSome = true := by rfl)
    (hop : o.op = .call { callee := .value (.func f), args := ars, argTypes := ts } := by rfl)
    (hargs : ars.map a.eval = args := by ((try simp only [List.map_toArray, List.map_cons, List.map_nil]); first | done | rfl | (simp only [List.length_drop, List.length_take]; rfl))) : wpList P ops Q (o :: rest) a W :=
  goesL_ N hd hg hf hname hb args hop hargs (hc.mono fun _ w' ⟨he, hw⟩ => ⟨v, he, h w' hw⟩)
theorem gc {N : Option Tmp} {K : Act → World → Prop} {f : FuncId} {fn : Func} {ars : Array Operand} {ts : Array TypeId} {v : Value} (hf : P.funcs[f]? = some fn) (args : Array Value) (hc : Calls P f args W fun e w' => e = .returned v ∧ Below W.heap.size W w')
    (h : ∀ w1, Below W.heap.size W w1 → K (a.put N v) w1)
    (hname : (fn.name == "runtime.NumGoroutine") = false := by kernel_rfl) (hb : fn.body.isSome = true := by rfl)
    (hw : Region.wanted o (yielded ops a.tmps) = true := by rfl) (hN : o.dst = N := by rfl) (hop : o.op = .call { callee := .value (.func f), args := ars, argTypes := ts } := by rfl)
    (hargs : ars.map a.eval = args := by ((try simp only [List.map_toArray, List.map_cons, List.map_nil]); first | done | rfl | (simp only [List.length_drop, List.length_take]; rfl))) :
    if Region.wanted o (yielded ops a.tmps) = true then Oper.wp P o a W K Q else K (a.put N undef) W :=
  goes_ hf hname hb args hw hN hop hargs (hc.mono fun _ w' ⟨he, hw⟩ => ⟨v, he, h w' hw⟩)
end
section
variable {P : Program} {ops : Array Oper} {Q : Exit → Act → World → Prop} {md : Region.Mode} {S : World → Prop} {ds : List Nat} {fuel : Nat} {l : Array Bool} {a a' : Act} {w : World} {oi : Oper} {v : Value}
theorem pur (i : Nat) (N : Option Tmp) (l' : Array Bool) (hc : anyB md ops l l' i = true) (h : wpAnyLast P md ops Q S ds fuel l' a' w)
    (hi : ops[i]? = some oi := by rfl) (hN : oi.dst = N := by rfl) (hw : Region.wanted oi (yielded ops a.tmps) = true := by rfl)
    (hy : ∀ w, (execOp a.eval oi).run P w = .ok (.value v) w := by (intro w'; go_simp; with_reducible rfl))
    (ha : a.put N v = a' := by (simp only [Act.put, List.setIfInBounds_toArray, List.set_cons_zero, List.set_cons_succ, i64_w, i32_w]; rfl))
    (hQ : ∀ c a w, Q (.panic c) (a.put oi.dst v) w → Q (.panic c) a w := by exact fun _ _ _ h => h) : wpAnyLast P md ops Q S ds (fuel + 1) l a w :=
  pure_ l' hi hN hc hQ (Or.inl ⟨hw, hy⟩) ha h
theorem tak (i : Nat) (N : Option Tmp) (l' : Array Bool) (hc : takeB md ops ds l l' i = true) (hS : S w) (h : wpAnyLast P md ops Q S ds fuel l' a' w)
    (hi : ops[i]? = some oi := by rfl) (hN : oi.dst = N := by rfl) (hw : Region.wanted oi (yielded ops a.tmps) = true := by rfl)
    (hy : ∀ w, S w → (execOp a.eval oi).run P w = .ok (.value v) w := by (intro w' hs; (repeat (have hs1 := hs.1; replace hs := hs.2)); go_simp; with_reducible rfl))
    (ha : a.put N v = a' := by (simp only [Act.put, List.setIfInBounds_toArray, List.set_cons_zero, List.set_cons_succ, i64_w, i32_w]; rfl))
    (hQ : ∀ c a w, Q (.panic c) (a.put oi.dst v) w → Q (.panic c) a w := by exact fun _ _ _ h => h) : wpAnyLast P md ops Q S ds (fuel + 1) l a w :=
  take_ l' hi hN hc hQ (Or.inl ⟨hw, hy⟩) hS ha h
theorem nrm (N : Option Tmp) (h : wpAnyLast P md ops Q S ds fuel l a' w) (ha : a.put N v = a' := by (simp only [Act.put, List.setIfInBounds_toArray, List.set_cons_zero, List.set_cons_succ, i64_w, i32_w]; rfl)) : wpAnyLast P md ops Q S ds fuel l (a.put N v) w := norm_ ha h
end
end Go.Proofs.YtinmgnlofininaaW.PrintWords
