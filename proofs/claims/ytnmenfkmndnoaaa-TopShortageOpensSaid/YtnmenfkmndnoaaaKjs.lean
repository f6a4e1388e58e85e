/- The statements' fixed example holds; small cases. -/
import Derived.Test.YtnmenfkmndnoaaaKbs
import Derived.Test.YtnmenfkmndnoaaaM3s
set_option linter.unusedVariables false
set_option linter.unusedSimpArgs false
namespace Go.Proofs.Ytnmenfkmndnoaaa.Pr
open Go.RowKit Go.Proofs.YtnmenfkmndnoaaaW.PrintWords Go.Proofs.YtnmenfkmndnoaaaW.PrintLast Go.Proofs.YtnmenfkmndnoaaaW.PrintMore
theorem few_f (l0 : List S34) (l1 : List S30) : estoversref39_Few.f l0 l1 = some (decide (l0.length≤300∧l1.length≤40)):=by
  unfold estoversref39_Few.f
  by_cases c : (l0.length : Int)≤300
  · rw [if_pos c];exact congrArg some (decide_eq_decide.2 (by omega))
  · rw [if_neg c,decide_eq_false (by omega)]
theorem ask_cases (l0 : List S34) (l1 : List S30) (s : Int) (hn : l0.length < 1000000) : (∃ a b c,Ev (fun k => reclaimplan_ask.f k l0 l1 s) (0,a,b,c)∧AskSt l0 l1 s a b c)∨(¬ (pchk l0 l1 = 0∧ScOk (l1.length : Int) s)∧∃ e,Ev (fun k => reclaimplan_ask.f k l0 l1 s) (e,[],[],[])∧e≠0∧e = (if pchk l0 l1 = 0 then 2 else pchk l0 l1)):=by
  by_cases h : pchk l0 l1 = 0∧ScOk (l1.length : Int) s
  · exact Or.inl (ask_ok_ev l0 l1 s hn h.1 h.2)
  · exact Or.inr ⟨h,ask_bad_ev l0 l1 s hn h⟩
end Go.Proofs.Ytnmenfkmndnoaaa.Pr
