/- The document's examples (layer 17) hold: by computing. -/
import Derived.Test.YtinmgnlofininaaPAllx10
import Derived.KernelRfl
set_option linter.unusedVariables false
set_option linter.unusedSimpArgs false
namespace Go.Proofs.Ytinmgnlofininaa.Ev
open Go.RowKit Go.Proofs.Ytinmgnlofininaa.PAll Go.Proofs.YtinmgnlofininaaW.PrintWords Go.Proofs.YtinmgnlofininaaW.PrintLast Go.Proofs.YtinmgnlofininaaW.PrintMore
theorem works17_at : flyballlaw17_works.f 30 = some true := by kernel_rfl
theorem works17 (k : Nat) (hk : 30 ≤ k) : flyballlaw17_works.f k = some true := at_rounds flyballlaw17_works.mono hk works17_at
end Go.Proofs.Ytinmgnlofininaa.Ev
