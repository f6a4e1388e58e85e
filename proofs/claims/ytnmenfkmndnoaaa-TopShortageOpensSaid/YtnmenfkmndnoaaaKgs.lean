/- The program's own witness; the fixed example of the statements about the layers together. -/
import Derived.Test.YtnmenfkmndnoaaaKes
import Derived.Test.YtnmenfkmndnoaaaFestoverstopawake20
set_option linter.unusedVariables false
set_option linter.unusedSimpArgs false
namespace Go.Proofs.Ytnmenfkmndnoaaa.Pr
open Go.RowKit Go.Proofs.YtnmenfkmndnoaaaW.PrintWords Go.Proofs.YtnmenfkmndnoaaaW.PrintLast Go.Proofs.YtnmenfkmndnoaaaW.PrintMore
theorem awake20_ev : Ev (fun k => estoverstop_awake20.f k) true:=Ev.of (g:=fun k => estoverstop_awake20.f k) (fun k => estoverstop_awake20.mono k) (k:=60) (by kernel_rfl)
end Go.Proofs.Ytnmenfkmndnoaaa.Pr
