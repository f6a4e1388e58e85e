/- The plain statement of ReclaimplanChecks. -/
import Derived.Test.YtnmenfkmndnoaaaKj
import Derived.Test.YtnmenfkmndnoaaaFestoverslaw39ReclaimplanChecks
set_option linter.unusedVariables false
set_option linter.unusedSimpArgs false
namespace Go.Proofs.Ytnmenfkmndnoaaa.Pr
open Go.RowKit Go.Proofs.YtnmenfkmndnoaaaW.PrintWords Go.Proofs.YtnmenfkmndnoaaaW.PrintLast Go.Proofs.YtnmenfkmndnoaaaW.PrintMore
theorem checks_pure (l0 : List S34) (l1 : List S30) : ∃ k, estoverslaw39_ReclaimplanChecks.f k l0 l1 = some true := by
  obtain ⟨K, hK⟩ := awake_ev
  dsimp only at hK
  by_cases c : l0.length ≤ 300 ∧ l1.length ≤ 40
  · obtain ⟨K1, H1⟩ := pchk_ev l0 l1 (by omega)
    obtain ⟨K2, H2⟩ := rchk_ev l0 l1 (by omega)
    dsimp only at H1 H2
    refine ⟨K + K1 + K2 + 1, ?_⟩
    unfold estoverslaw39_ReclaimplanChecks.f
    rw [hK _ (by omega), few_f]
    simp only [Option.bind_some]
    rw [if_pos (by trivial)]
    simp only [estoverslaw39_ReclaimplanChecks.j0]
    rw [decide_eq_true c, if_neg (by simp), H1 _ (by omega), H2 _ (by omega)]
    simp only [Option.bind_some]
    simp
  · refine ⟨K + 1, ?_⟩
    unfold estoverslaw39_ReclaimplanChecks.f
    rw [hK _ (by omega), few_f]
    simp only [Option.bind_some]
    rw [if_pos (by trivial)]
    simp only [estoverslaw39_ReclaimplanChecks.j0]
    rw [decide_eq_false c, if_pos (by simp), hK _ (by omega)]
    rfl
end Go.Proofs.Ytnmenfkmndnoaaa.Pr
