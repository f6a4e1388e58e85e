/- The plain statement of ProtectionMoves: an account stays guarded when more pages are leaving. -/
import Derived.Test.YtilcbkengmggdaaQf
import Derived.Test.YtilcbkengmggdaaQj
import Derived.Test.YtilcbkengmggdaaFestoverslaw20ProtectionMoves
set_option linter.unusedVariables false
set_option linter.unusedSimpArgs false
namespace Go.Proofs.Ytilcbkengmggdaa.Pr
open Go.RowKit Go.Proofs.YtilcbkengmggdaaW.PrintWords Go.Proofs.YtilcbkengmggdaaW.PrintLast Go.Proofs.YtilcbkengmggdaaW.PrintMore
theorem isIn_mono {l : List S41} (ht : TreeFrom l 0) {v v' r r' : List Int} (hv : ∀ j : Int, 0 ≤ j → j < (l.length : Int) → rd v j ≤ rd v' j) (h : IsIn l v r) (h' : IsIn l v' r') : ∀ j : Int, 0 ≤ j → j < (l.length : Int) → rd r j ≤ rd r' j := by
  have key : ∀ (d : Nat) (x : Int), 0 ≤ x → x + d = (l.length : Int) → ∀ j, x ≤ j → j < (l.length : Int) → rd r j ≤ rd r' j := by
    intro d
    induction d with
    | zero => intro x h0 h1 j h2 h3; omega
    | succ d ih =>
      intro x h0 h1 j h2 h3
      have hi := ih (x + 1) (by omega) (by omega)
      by_cases e : j = x
      · subst e
        have a := h.2 j h0 h3
        have b := h'.2 j h0 h3
        have c := hv j h0 h3
        have d := ks_le l (f := rd r) (g := rd r') j l.length (fun c h4 h5 h6 => hi c (by have := (ht c (by omega) h5).2 (by omega); omega) h5)
        omega
      · exact hi j (by omega) h3
  intro j h0 h1
  exact key l.length 0 (by omega) (by omega) j h0 h1
theorem gd_mono {l : List S41} {q q' : List Int} {e : Int} {low : Bool} {x : Int} (ht : TreeFrom l 0) (he : 0 ≤ e) (hx : x < (l.length : Int)) (hq : ∀ j : Int, 0 ≤ j → j < (l.length : Int) → rd q j ≤ rd q' j) (h : Gd l q e low x) : Gd l q' e low x := by
  rcases h with ⟨y, h1, h2, h3⟩ | h
  · refine Or.inl ⟨y, h1, h2, ?_⟩
    have := hq y (by omega) (by have := h1.le ht hx; omega)
    unfold GP at h3 ⊢
    omega
  · exact Or.inr h
theorem moves_guard (l : List S41) (v : List Int) (c s i : Int) (hi0 : 0 ≤ i) (hi1 : i < (v.length : Int)) (hv0 : 0 ≤ rd v i) (hv1 : rd v i < 1048576) (b b' : Bool) (hb : Ev (fun k => protection_Guarded.f k l v c s false) b) (hb' : Ev (fun k => protection_Guarded.f k l (v.set i.toNat (rd v i + 1)) c s false) b') (h : b = true) : b' = true := by
  obtain ⟨g, h1, _, h2, h3⟩ := guarded_ev l v c s false
  obtain ⟨g', h1', _, h2', h3'⟩ := guarded_ev l (v.set i.toNat (rd v i + 1)) c s false
  obtain rfl := ev_uniq hb h1
  obtain rfl := ev_uniq hb' h1'
  cases b' with
  | true => rfl
  | false =>
    obtain ⟨hL', hA⟩ := h2' rfl
    have hset : ∀ j : Int, 0 ≤ j → rd (v.set i.toNat (rd v i + 1)) j = if j = i then rd v i + 1 else rd v j := fun j hj => rd_set _ _ _ _ hi0 hi1 hj
    have hL : LvOk l v := by
      refine ⟨hL'.1, by have := hL'.2.1; simpa using this, fun j h4 h5 => ?_⟩
      by_cases e : j = i
      · rw [e]; exact ⟨hv0, by omega⟩
      · have := hL'.2.2 j h4 (by simpa using h5)
        rw [hset j h4, if_neg e] at this
        exact this
    obtain ⟨q, _, _, hq, _⟩ := sums_ev l v hL
    obtain ⟨q', _, _, hq', _⟩ := sums_ev l _ hL'
    have hg := (h3 q hL hA hq).1 h
    have hm := isIn_mono hL.1.tree (v := v) (v' := v.set i.toNat (rd v i + 1)) (fun j h4 h5 => by
      rw [hset j h4]
      by_cases e : j = i
      · rw [if_pos e, e]; omega
      · rw [if_neg e]; omega) hq hq'
    exact absurd ((h3' q' hL' hA hq').2 (gd_mono hL.1.tree (by unfold mx; split <;> omega) hA.2.1 hm hg)) (by simp)
theorem moves_pure (l : List S41) (v : List Int) (c s i : Int) : ∃ k, estoverslaw20_ProtectionMoves.f k l v c s i = some true := by
  obtain ⟨K, hK⟩ := awake_ev
  obtain ⟨K1, H1⟩ := check19_ev l
  dsimp only at hK H1
  by_cases c0 : chk l = 0 ∧ v.length = l.length
  · obtain ⟨c0, c1⟩ := c0
    have hV := (chk_zero l).1 c0
    have h8 := hV.len8
    have hj1 : ∀ k, 1 ≤ k → estoverslaw20_ProtectionMoves.j1 k l v c s i true = some true := by
      intro k hk
      obtain ⟨m, rfl⟩ : ∃ m, k = m + 1 := ⟨k - 1, by omega⟩
      simp only [estoverslaw20_ProtectionMoves.j1]
      rw [if_pos (by trivial)]
    obtain ⟨b, ⟨K2, H2⟩, _⟩ := guarded_ev l v c s false
    obtain ⟨b', ⟨K3, H3⟩, _⟩ := guarded_ev l (v.set i.toNat (rd v i + 1)) c s false
    dsimp only at H2 H3
    refine ⟨K + K1 + K2 + K3 + 3, ?_⟩
    unfold estoverslaw20_ProtectionMoves.f
    rw [hK _ (by omega), H1 _ (by omega)]
    simp only [Option.bind_some]
    rw [if_pos (by trivial), if_pos c0, show ((v.length : Int) != (l.length : Int)) = false by simp [c1]]
    simp only [estoverslaw20_ProtectionMoves.j0]
    rw [if_neg (by simp)]
    by_cases d1 : c < 0
    · rw [if_pos d1]; exact hj1 _ (by omega)
    · rw [if_neg d1]
      by_cases d2 : c ≥ (l.length : Int)
      · rw [if_pos d2]; exact hj1 _ (by omega)
      · rw [if_neg d2]
        by_cases d3 : s < -1
        · rw [if_pos d3]; exact hj1 _ (by omega)
        · rw [if_neg d3]
          by_cases d4 : s ≥ (l.length : Int)
          · rw [if_pos d4]; exact hj1 _ (by omega)
          · rw [if_neg d4]
            by_cases d5 : i < 0
            · rw [if_pos d5]; exact hj1 _ (by omega)
            · rw [if_neg d5]
              by_cases d6 : i ≥ (l.length : Int)
              · rw [if_pos d6]; exact hj1 _ (by omega)
              · rw [if_neg d6, if_pos (by omega), if_pos (by omega)]
                by_cases d7 : rd v i < 0
                · rw [if_pos d7]; exact hj1 _ (by omega)
                · rw [if_neg d7]
                  by_cases d8 : rd v i ≥ 1048576
                  · rw [decide_eq_true d8]; exact hj1 _ (by omega)
                  · rw [decide_eq_false d8]
                    simp only [estoverslaw20_ProtectionMoves.j1]
                    rw [if_neg (by simp)]
                    simp only [Option.bind_some, List.nil_append, List.length_nil]
                    rw [if_pos (by omega)]
                    try simp only [Option.bind_some]
                    rw [if_pos (by omega), if_pos (by omega), H2 _ (by omega)]
                    simp only [Option.bind_some]
                    rw [wr64 (i := rd v i + 1) (by omega) (by omega)]
                    cases b with
                    | false => rw [if_neg (by simp)]
                    | true =>
                      rw [if_pos (by trivial), H3 _ (by omega), moves_guard l v c s i (by omega) (by omega) (by omega) (by omega) true b' ⟨K2, H2⟩ ⟨K3, H3⟩ rfl]
                      rfl
  · have hj : ∀ k, K + 1 ≤ k → estoverslaw20_ProtectionMoves.j0 k l v true c s i = some true := by
      intro k hk
      obtain ⟨m, rfl⟩ : ∃ m, k = m + 1 := ⟨k - 1, by omega⟩
      simp only [estoverslaw20_ProtectionMoves.j0]
      rw [if_pos (by trivial), hK m (by omega)]
      rfl
    refine ⟨K + K1 + 1, ?_⟩
    unfold estoverslaw20_ProtectionMoves.f
    rw [hK _ (by omega), H1 _ (by omega)]
    simp only [Option.bind_some]
    rw [if_pos (by trivial)]
    by_cases c1 : chk l = 0
    · rw [if_pos c1, show ((v.length : Int) != (l.length : Int)) = true by simp; omega]; exact hj _ (by omega)
    · rw [if_neg c1]; exact hj _ (by omega)
end Go.Proofs.Ytilcbkengmggdaa.Pr
