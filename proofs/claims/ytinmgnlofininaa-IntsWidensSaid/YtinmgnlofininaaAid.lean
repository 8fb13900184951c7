/- Structs by value, opened and shut: a struct of a bool and two integers (an interval), and one of two such. -/
import Derived.WalkKit
import Derived.ProofKit
import Derived.OpenShut
import Derived.ShutString
import Derived.ChangeOld
import Derived.Below
import Derived.SizedLaws
import Derived.Lib.SmallJoins
set_option linter.unusedVariables false
set_option linter.unusedSimpArgs false
namespace Go.Proofs.YtinmgnlofininaaAid
open Go.Deep Go.Joins Go.ChangeShapes Go.WideShapes Go.RowKit
section
variable {H : Type} {enc : TypeId × Value → H} {P : Program} {w : World} {base : Nat} {spare : Nat → Bool} {held : Bool}
theorem trod_bii {t : TypeId} {f0 f1 f2 : Field} {n : Nat} {cs : List Value} {y : DataW H × List MemPlace} (hs : P.underlying t = some (.struct #[f0, f1, f2])) (hone : oneCellFields P #[f0, f1, f2] = true)
    (h0 : P.underlying f0.type = some .bool) (h1 : P.underlying f1.type = some (.int .i64)) (h2 : P.underlying f2.type = some (.int .i64)) (hl : cs.length = 3) (h : DataW.trod enc P w base spare held n t cs = some y) :
    ∃ (b : Bool) (x z : Int), cs = [.bool b, .int .i64 x, .int .i64 z] ∧ y = (.agg [.lit (.bool b), .lit (.int .i64 x), .lit (.int .i64 z)], []) ∧ (Lit.int .i64 x).wf = true ∧ (Lit.int .i64 z).wf = true := by
  obtain ⟨xs, m, _, hx, _, hlen, hg⟩ := DataW.trod_struct hs h
  obtain ⟨o0, k0⟩ := hone_of hone 0 f0 rfl
  obtain ⟨o1, k1⟩ := hone_of hone 1 f1 rfl
  obtain ⟨o2, k2⟩ := hone_of hone 2 f2 rfl
  match cs, hl with
  | [c0, c1, c2], _ =>
    match xs, hlen with
    | [y0, y1, y2], _ =>
      have g0 : DataW.trod enc P w base spare held m f0.type [c0] = some y0 := by simpa [o0, k0] using hg 0 f0 rfl
      have g1 : DataW.trod enc P w base spare held m f1.type [c1] = some y1 := by simpa [o1, k1] using hg 1 f1 rfl
      have g2 : DataW.trod enc P w base spare held m f2.type [c2] = some y2 := by simpa [o2, k2] using hg 2 f2 rfl
      obtain ⟨b, e0, rfl⟩ := DataW.trod_bool h0 g0
      obtain ⟨x, e1, rfl, wx⟩ := DataW.trod_int h1 g1
      obtain ⟨z, e2, rfl, wz⟩ := DataW.trod_int h2 g2
      simp only [List.cons.injEq, and_true] at e0 e1 e2
      subst e0 e1 e2
      exact ⟨b, x, z, rfl, by simpa using hx, wx, wz⟩
theorem trod_bii_mk {t : TypeId} {f0 f1 f2 : Field} {b : Bool} {x z : Int} (hs : P.underlying t = some (.struct #[f0, f1, f2])) (hone : oneCellFields P #[f0, f1, f2] = true) (hC : P.cellsOf t = 3)
    (h0 : P.underlying f0.type = some .bool) (h1 : P.underlying f1.type = some (.int .i64)) (h2 : P.underlying f2.type = some (.int .i64)) (wx : (Lit.int .i64 x).wf = true) (wz : (Lit.int .i64 z).wf = true) :
    DataW.trod enc P w base spare held 2 t [.bool b, .int .i64 x, .int .i64 z] = some (.agg [.lit (.bool b), .lit (.int .i64 x), .lit (.int .i64 z)], []) := by
  obtain ⟨o0, k0⟩ := hone_of hone 0 f0 rfl
  obtain ⟨o1, k1⟩ := hone_of hone 1 f1 rfl
  obtain ⟨o2, k2⟩ := hone_of hone 2 f2 rfl
  have g0 : DataW.trod enc P w base spare held 1 f0.type [.bool b] = some (.lit (.bool b), []) := by simp [DataW.trod, h0]
  have := trod_struct3_mk (enc := enc) (w := w) (base := base) (spare := spare) (held := held) (n := 1) (cs := [.bool b, .int .i64 x, .int .i64 z]) hs (by simp [hC])
    (by simpa [o0, k0] using g0) (by simpa [o1, k1] using trod_int_mk (enc := enc) (w := w) (base := base) (spare := spare) (held := held) 0 h1 wx) (by simpa [o2, k2] using trod_int_mk (enc := enc) (w := w) (base := base) (spare := spare) (held := held) 0 h2 wz)
  simpa using this
theorem open_bii {r : Reach} {b0 : Nat} {t : TypeId} {f0 f1 f2 : Field} {v : Value} {d : DataW H} {p : List MemPlace} (hs : P.underlying t = some (.struct #[f0, f1, f2])) (hone : oneCellFields P #[f0, f1, f2] = true) (hC : P.cellsOf t = 3)
    (h0 : P.underlying f0.type = some .bool) (h1 : P.underlying f1.type = some (.int .i64)) (h2 : P.underlying f2.type = some (.int .i64))
    (hv : Value.okWide P w r b0 t v) (h : DataW.Trod enc P w base spare held t v d p) :
    ∃ (b : Bool) (x z : Int), v = .agg #[.bool b, .int .i64 x, .int .i64 z] ∧ d = .agg [.lit (.bool b), .lit (.int .i64 x), .lit (.int .i64 z)] ∧ p = [] ∧ (Lit.int .i64 x).wf = true ∧ (Lit.int .i64 z).wf = true := by
  obtain ⟨cs, rfl, hsz⟩ := okWide_struct hs hv
  obtain ⟨l⟩ := cs
  obtain ⟨fuel, hf⟩ := h
  obtain ⟨b, x, z, e, ey, wx, wz⟩ := trod_bii hs hone h0 h1 h2 (hsz.trans hC) hf
  simp only [Prod.mk.injEq] at ey
  have e' : l = [.bool b, .int .i64 x, .int .i64 z] := by simpa [Value.cells] using e
  subst e'
  exact ⟨b, x, z, rfl, ey.1, ey.2, wx, wz⟩
theorem shut_bii {t : TypeId} {f0 f1 f2 : Field} {b : Bool} {x z : Int} (hs : P.underlying t = some (.struct #[f0, f1, f2])) (hone : oneCellFields P #[f0, f1, f2] = true) (hC : P.cellsOf t = 3)
    (h0 : P.underlying f0.type = some .bool) (h1 : P.underlying f1.type = some (.int .i64)) (h2 : P.underlying f2.type = some (.int .i64)) (wx : (Lit.int .i64 x).wf = true) (wz : (Lit.int .i64 z).wf = true) :
    DataW.Trod enc P w base spare held t (.agg #[.bool b, .int .i64 x, .int .i64 z]) (.agg [.lit (.bool b), .lit (.int .i64 x), .lit (.int .i64 z)]) [] :=
  ⟨2, by simpa [Value.cells] using trod_bii_mk (enc := enc) (w := w) (base := base) (spare := spare) (held := held) (b := b) hs hone hC h0 h1 h2 wx wz⟩
theorem open_two {r : Reach} {b0 : Nat} {t e : TypeId} {g0 g1 f0 f1 f2 : Field} {v : Value} {d : DataW H} {p : List MemPlace} (ht : P.underlying t = some (.struct #[g0, g1])) (hT : P.cellsOf t = 6) (o0 : g0.offset = 0 ∧ g0.type = e) (o1 : g1.offset = 3 ∧ g1.type = e)
    (hs : P.underlying e = some (.struct #[f0, f1, f2])) (hone : oneCellFields P #[f0, f1, f2] = true) (hC : P.cellsOf e = 3)
    (h0 : P.underlying f0.type = some .bool) (h1 : P.underlying f1.type = some (.int .i64)) (h2 : P.underlying f2.type = some (.int .i64))
    (hv : Value.okWide P w r b0 t v) (h : DataW.Trod enc P w base spare held t v d p) :
    ∃ (b : Bool) (x z : Int) (b' : Bool) (x' z' : Int), v = .agg #[.bool b, .int .i64 x, .int .i64 z, .bool b', .int .i64 x', .int .i64 z'] ∧ d = .agg [.agg [.lit (.bool b), .lit (.int .i64 x), .lit (.int .i64 z)], .agg [.lit (.bool b'), .lit (.int .i64 x'), .lit (.int .i64 z')]] ∧ p = [] ∧
      (Lit.int .i64 x).wf = true ∧ (Lit.int .i64 z).wf = true ∧ (Lit.int .i64 x').wf = true ∧ (Lit.int .i64 z').wf = true := by
  obtain ⟨cs, rfl, hsz⟩ := okWide_struct ht hv
  obtain ⟨l⟩ := cs
  match l, hsz.trans hT with
  | [c0, c1, c2, c3, c4, c5], _ =>
    obtain ⟨fuel, hf⟩ := h
    obtain ⟨xs, m, _, hx, _, hlen, hg⟩ := DataW.trod_struct ht hf
    match xs, hlen with
    | [y0, y1], _ =>
      have q0 : DataW.trod enc P w base spare held m e [c0, c1, c2] = some y0 := by simpa [Value.cells, o0.1, o0.2, hC] using hg 0 g0 rfl
      have q1 : DataW.trod enc P w base spare held m e [c3, c4, c5] = some y1 := by simpa [Value.cells, o1.1, o1.2, hC] using hg 1 g1 rfl
      obtain ⟨b, x, z, e0, rfl, wx, wz⟩ := trod_bii hs hone h0 h1 h2 rfl q0
      obtain ⟨b', x', z', e1, rfl, wx', wz'⟩ := trod_bii hs hone h0 h1 h2 rfl q1
      simp only [List.cons.injEq, and_true] at e0 e1
      obtain ⟨rfl, rfl, rfl⟩ := e0
      obtain ⟨rfl, rfl, rfl⟩ := e1
      simp only [Prod.mk.injEq] at hx
      exact ⟨b, x, z, b', x', z', rfl, by simpa using hx.1, by simpa using hx.2, wx, wz, wx', wz'⟩
theorem shut_two {t e : TypeId} {g0 g1 f0 f1 f2 : Field} {b b' : Bool} {x z x' z' : Int} (ht : P.underlying t = some (.struct #[g0, g1])) (hT : P.cellsOf t = 6) (o0 : g0.offset = 0 ∧ g0.type = e) (o1 : g1.offset = 3 ∧ g1.type = e)
    (hs : P.underlying e = some (.struct #[f0, f1, f2])) (hone : oneCellFields P #[f0, f1, f2] = true) (hC : P.cellsOf e = 3)
    (h0 : P.underlying f0.type = some .bool) (h1 : P.underlying f1.type = some (.int .i64)) (h2 : P.underlying f2.type = some (.int .i64))
    (wx : (Lit.int .i64 x).wf = true) (wz : (Lit.int .i64 z).wf = true) (wx' : (Lit.int .i64 x').wf = true) (wz' : (Lit.int .i64 z').wf = true) :
    DataW.Trod enc P w base spare held t (.agg #[.bool b, .int .i64 x, .int .i64 z, .bool b', .int .i64 x', .int .i64 z']) (.agg [.agg [.lit (.bool b), .lit (.int .i64 x), .lit (.int .i64 z)], .agg [.lit (.bool b'), .lit (.int .i64 x'), .lit (.int .i64 z')]]) [] := by
  have ts := trod_struct2_mk (enc := enc) (w := w) (base := base) (spare := spare) (held := held) (n := 2) (cs := [.bool b, .int .i64 x, .int .i64 z, .bool b', .int .i64 x', .int .i64 z']) ht (by simp [hT])
    (by simpa [o0.1, o0.2, hC] using trod_bii_mk (enc := enc) (w := w) (base := base) (spare := spare) (held := held) (b := b) hs hone hC h0 h1 h2 wx wz)
    (by simpa [o1.1, o1.2, hC] using trod_bii_mk (enc := enc) (w := w) (base := base) (spare := spare) (held := held) (b := b') hs hone hC h0 h1 h2 wx' wz')
  exact ⟨_, by simpa [Value.cells] using ts⟩
end
end Go.Proofs.YtinmgnlofininaaAid
