/- Functions of the print, turned to this claim. -/
import Derived.Test.YtdchdapllehppaaZTW
import Derived.Test.YtdchdapllehppaaZTx0
import Derived.Test.YtdchdapllehppaaZTx8
import Derived.Test.YtdchdapllehppaaZTx9
import Derived.Test.YtdchdapllehppaaZTx13
import Derived.Test.YtdchdapllehppaaZTx14
import Derived.Test.YtdchdapllehppaaZTx15
import Derived.Test.YtdchdapllehppaaZTx19
section
namespace Go.Proofs.Ytdchdapllehppaa.PAll
open Go.RowKit Go.Proofs.YtdchdapllehppaaW.PrintWords Go.Proofs.YtdchdapllehppaaW.PrintLast Go.Proofs.YtdchdapllehppaaW.PrintMore
attribute [local go_sem] max2_int min2_int max_two min_two max_three min_three max_four min_four   -- for this text's walks alone
set_option linter.unusedVariables false
set_option linter.unusedSimpArgs false
/-! ### flyballlaw01_one: function 33 -/
def flyballlaw01_one.f (a0 : Bool) : Option (Int) := if a0 = true then (some 1) else (some 0)
set_option maxHeartbeats 8000000 in
set_option maxRecDepth 100000 in
theorem flyballlaw01_one.calls (a0 : Bool) (r : Int) (w : World) (h : flyballlaw01_one.f a0 = some r) :
    Calls Try.prog 33 #[.bool a0] w fun e w' => e = .returned (.int .u64 r) ∧ Drawn0 w w' := by
  have H := h
  clear h
  unfold flyballlaw01_one.f at H
  by_cases c2 : a0 = true
  · subst c2
    rw [if_pos rfl] at H
    obtain rfl := Option.some.inj H
    go_enter Try.func33, Try.ntmps33
    go_wp2
    go_ret
    exact ⟨by first | rfl | (simp; done) | (simp [*]; done), by repeat (first | exact Drawn0.refl _ | apply Drawn0.step)⟩
  · replace c2 := Bool.eq_false_iff.mpr c2
    subst c2
    rw [if_neg (show ¬ (false = true) by decide)] at H
    obtain rfl := Option.some.inj H
    go_enter Try.func33, Try.ntmps33
    go_wp2
    go_ret
    exact ⟨by first | rfl | (simp; done) | (simp [*]; done), by repeat (first | exact Drawn0.refl _ | apply Drawn0.step)⟩
end Go.Proofs.Ytdchdapllehppaa.PAll
end
