/- The statements' fixed example holds. -/
import Derived.Test.YtilcbkengmggdaaQc
import Derived.Test.YtilcbkengmggdaaM2
set_option linter.unusedVariables false
set_option linter.unusedSimpArgs false
namespace Go.Proofs.Ytilcbkengmggdaa.Pr
open Go.RowKit Go.Proofs.YtilcbkengmggdaaW.PrintWords Go.Proofs.YtilcbkengmggdaaW.PrintLast Go.Proofs.YtilcbkengmggdaaW.PrintMore
theorem awake_ev : Ev (fun k => estoverslaw20_awake.f k) true := Ev.of (g := fun k => estoverslaw20_awake.f k) (fun k => estoverslaw20_awake.mono k) (k := 60) (by kernel_rfl)
theorem few_f (l : List S41) (v : List Int) : estoversref20_Few.f l v = some (decide (l.length ≤ 40 ∧ v.length ≤ 40)) := by
  unfold estoversref20_Few.f
  by_cases c : (l.length : Int) ≤ 40
  · rw [if_pos c]; exact congrArg some (decide_eq_decide.2 (by omega))
  · rw [if_neg c, decide_eq_false (by omega)]
end Go.Proofs.Ytilcbkengmggdaa.Pr
