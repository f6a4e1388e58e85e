/- Same: a list is the same as itself. -/
import Derived.Test.YtilcbkengmggdaaQc
import Derived.Test.YtilcbkengmggdaaFestoversref20Same
set_option linter.unusedVariables false
set_option linter.unusedSimpArgs false
namespace Go.Proofs.Ytilcbkengmggdaa.Pr
open Go.RowKit Go.Proofs.YtilcbkengmggdaaW.PrintWords Go.Proofs.YtilcbkengmggdaaW.PrintLast Go.Proofs.YtilcbkengmggdaaW.PrintMore
-- Same
theorem same_l0 (a b : List Int) (hn : a.length ≤ 8) (h : a = b) : ∀ (d : Nat) (i : Int), 0 ≤ i → i + d = (a.length : Int) → Ev (fun k => estoversref20_Same.l0 k a b i) true := by
  subst h
  intro d
  induction d with
  | zero => intro i h0 hi; exact ev1 0 (fun k _ => by simp only [estoversref20_Same.l0]; rw [if_neg (by omega)])
  | succ d ih =>
    intro i h0 hi
    obtain ⟨K, hK⟩ := ih (i + 1) (by omega) (by omega)
    refine ev1 K (fun k hk => ?_)
    simp only [estoversref20_Same.l0]
    rw [if_pos (by omega), if_pos h0, if_pos (by omega), if_pos (by trivial), wr64 (by omega) (by omega)]
    exact hK k hk
theorem same_f (a : List Int) (hn : a.length ≤ 8) : Ev (fun k => estoversref20_Same.f k a a) true := by
  obtain ⟨K, hK⟩ := same_l0 a a hn rfl a.length 0 (by omega) (by omega)
  refine ev0 K (fun k hk => ?_)
  unfold estoversref20_Same.f
  rw [if_pos (by trivial)]
  exact hK k hk
end Go.Proofs.Ytilcbkengmggdaa.Pr
