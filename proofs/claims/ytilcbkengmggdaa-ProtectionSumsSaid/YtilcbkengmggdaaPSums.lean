/- The plain statement of ProtectionSums. -/
import Derived.Test.YtilcbkengmggdaaQe
import Derived.Test.YtilcbkengmggdaaQh
import Derived.Test.YtilcbkengmggdaaQj
import Derived.Test.YtilcbkengmggdaaQs
import Derived.Test.YtilcbkengmggdaaFestoverslaw20ProtectionSums
import Derived.Test.YtilcbkengmggdaaFestoversref20Inside
import Derived.Test.YtilcbkengmggdaaFestoversref20Same
import Derived.Test.YtilcbkengmggdaaM2
set_option linter.unusedVariables false
set_option linter.unusedSimpArgs false
namespace Go.Proofs.Ytilcbkengmggdaa.Pr
open Go.RowKit Go.Proofs.YtilcbkengmggdaaW.PrintWords Go.Proofs.YtilcbkengmggdaaW.PrintLast Go.Proofs.YtilcbkengmggdaaW.PrintMore
/-- Inside, one list for both -/
theorem Inside_ev (l : List S41) (v : List Int) : ∃ q, Ev (fun k => protection_Inside.f k l v) q ∧ Ev (fun k => estoversref20_Inside.f k l v) q ∧ (LvOk l v → IsIn l v q) ∧ (¬ LvOk l v → q = []) := by
  obtain ⟨b, ⟨K1, H1⟩, ⟨K2, H2⟩, hb⟩ := valid_ev l v
  dsimp only at H1 H2
  cases b with
  | true =>
    have hL := hb.1 rfl
    obtain ⟨q, ⟨K3, H3⟩, ⟨K4, H4⟩, hq, _⟩ := sums_ev l v hL
    dsimp only at H3 H4
    refine ⟨q, ev0 (K1 + K3) (fun k hk => ?_), ev0 (K2 + K4) (fun k hk => ?_), fun _ => hq, fun h => absurd hL h⟩
    · unfold protection_Inside.f
      rw [H1 k (by omega)]
      simp only [Option.bind_some]
      rw [if_pos (by trivial), H3 k (by omega)]
      rfl
    · unfold estoversref20_Inside.f
      rw [H2 k (by omega)]
      simp only [Option.bind_some]
      rw [if_pos (by trivial), H4 k (by omega)]
      rfl
  | false =>
    refine ⟨[], ev0 K1 (fun k hk => ?_), ev0 K2 (fun k hk => ?_), fun h => absurd (hb.2 h) (by simp), fun _ => rfl⟩
    · unfold protection_Inside.f; rw [H1 k hk]; rfl
    · unfold estoversref20_Inside.f; rw [H2 k hk]; rfl
theorem sums_pure (l : List S41) (v : List Int) (fr : Int) : ∃ k, estoverslaw20_ProtectionSums.f k l v fr = some true := by
  obtain ⟨K, hK⟩ := awake_ev
  obtain ⟨r, e, ⟨K1, H1⟩, ⟨K2, H2⟩, _⟩ := overcommit_ev l fr
  obtain ⟨q, ⟨K3, H3⟩, ⟨K4, H4⟩, hq, hn⟩ := Inside_ev l v
  have hl : q.length ≤ 8 := by
    by_cases c : LvOk l v
    · have := (hq c).1
      have := c.1.len8
      omega
    · rw [hn c]; simp
  obtain ⟨K5, H5⟩ := same_f q hl
  dsimp only at hK H1 H2 H3 H4 H5
  refine ⟨K + K1 + K2 + K3 + K4 + K5 + 1, ?_⟩
  unfold estoverslaw20_ProtectionSums.f
  rw [hK _ (by omega), few_f]
  simp only [Option.bind_some]
  rw [if_pos (by trivial)]
  simp only [estoverslaw20_ProtectionSums.j0]
  by_cases c : l.length ≤ 40 ∧ v.length ≤ 40
  · rw [decide_eq_true c, if_neg (by simp), H1 _ (by omega), H2 _ (by omega)]
    simp only [Option.bind_some]
    rw [if_pos (by trivial), if_pos (by trivial), H3 _ (by omega), H4 _ (by omega)]
    simp only [Option.bind_some]
    rw [H5 _ (by omega)]
    rfl
  · rw [decide_eq_false c, if_pos (by simp), hK _ (by omega)]
    rfl
end Go.Proofs.Ytilcbkengmggdaa.Pr
