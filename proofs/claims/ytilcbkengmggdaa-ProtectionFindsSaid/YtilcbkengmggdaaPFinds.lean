/- The plain statement of ProtectionFinds. -/
import Derived.Test.YtilcbkengmggdaaQg
import Derived.Test.YtilcbkengmggdaaQj
import Derived.Test.YtilcbkengmggdaaFestoverslaw20ProtectionFinds
set_option linter.unusedVariables false
set_option linter.unusedSimpArgs false
namespace Go.Proofs.Ytilcbkengmggdaa.Pr
open Go.RowKit Go.Proofs.YtilcbkengmggdaaW.PrintWords Go.Proofs.YtilcbkengmggdaaW.PrintLast Go.Proofs.YtilcbkengmggdaaW.PrintMore
theorem finds_pure (l : List S41) (v : List Int) (s : Int) : ∃ k, estoverslaw20_ProtectionFinds.f k l v s = some true := by
  obtain ⟨K, hK⟩ := awake_ev
  obtain ⟨r, ⟨K1, H1⟩, ⟨K2, H2⟩, _⟩ := open_ev l v s
  dsimp only at hK H1 H2
  refine ⟨K + K1 + K2 + 1, ?_⟩
  unfold estoverslaw20_ProtectionFinds.f
  rw [hK _ (by omega), few_f]
  simp only [Option.bind_some]
  rw [if_pos (by trivial)]
  simp only [estoverslaw20_ProtectionFinds.j0]
  by_cases c : l.length ≤ 40 ∧ v.length ≤ 40
  · rw [decide_eq_true c, if_neg (by simp), H1 _ (by omega), H2 _ (by omega)]
    simp only [Option.bind_some]
    simp
  · rw [decide_eq_false c, if_pos (by simp), hK _ (by omega)]
    rfl
end Go.Proofs.Ytilcbkengmggdaa.Pr
