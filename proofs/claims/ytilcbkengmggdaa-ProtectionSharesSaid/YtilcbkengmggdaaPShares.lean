/- The plain statement of ProtectionShares. -/
import Derived.Test.YtilcbkengmggdaaQi
import Derived.Test.YtilcbkengmggdaaQj
import Derived.Test.YtilcbkengmggdaaQs
import Derived.Test.YtilcbkengmggdaaFestoverslaw20ProtectionShares
set_option linter.unusedVariables false
set_option linter.unusedSimpArgs false
namespace Go.Proofs.Ytilcbkengmggdaa.Pr
open Go.RowKit Go.Proofs.YtilcbkengmggdaaW.PrintWords Go.Proofs.YtilcbkengmggdaaW.PrintLast Go.Proofs.YtilcbkengmggdaaW.PrintMore
theorem shares_pure (l : List S41) : ∃ k, estoverslaw20_ProtectionShares.f k l = some true := by
  obtain ⟨K, hK⟩ := awake_ev
  obtain ⟨q, e, ⟨K1, H1⟩, ⟨K2, H2⟩, he, hq, hn⟩ := effective_ev l
  have hl : q.length ≤ 8 := by
    by_cases c : e = 0
    · have := (hq c).1
      have := ((chk_zero l).1 (by rw [← he]; exact c)).len8
      omega
    · rw [hn c]; simp
  obtain ⟨K3, H3⟩ := same_f q hl
  dsimp only at hK H1 H2 H3
  refine ⟨K + K1 + K2 + K3 + 1, ?_⟩
  unfold estoverslaw20_ProtectionShares.f
  rw [hK _ (by omega), few_f]
  simp only [Option.bind_some]
  rw [if_pos (by trivial)]
  simp only [estoverslaw20_ProtectionShares.j0]
  by_cases c : l.length ≤ 40 ∧ ([] : List Int).length ≤ 40
  · rw [decide_eq_true c, if_neg (by simp), H1 _ (by omega), H2 _ (by omega)]
    simp only [Option.bind_some]
    rw [if_pos (by trivial), H3 _ (by omega)]
    rfl
  · rw [decide_eq_false c, if_pos (by simp), hK _ (by omega)]
    rfl
end Go.Proofs.Ytilcbkengmggdaa.Pr
