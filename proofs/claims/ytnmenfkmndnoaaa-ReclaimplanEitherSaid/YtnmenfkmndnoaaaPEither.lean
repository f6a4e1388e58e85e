/- The plain statement of ReclaimplanEither. -/
import Derived.Test.YtnmenfkmndnoaaaKe
import Derived.Test.YtnmenfkmndnoaaaFestoverslaw39ReclaimplanEither
set_option linter.unusedVariables false
set_option linter.unusedSimpArgs false
namespace Go.Proofs.Ytnmenfkmndnoaaa.Pr
open Go.RowKit Go.Proofs.YtnmenfkmndnoaaaW.PrintWords Go.Proofs.YtnmenfkmndnoaaaW.PrintLast Go.Proofs.YtnmenfkmndnoaaaW.PrintMore
theorem wOf_rd (s : Int) (kn : Bool) (a b : List Bool) (l0 : List S34) (j : Int) (h0 : 0≤j) (h1 : j < (l0.length : Int)) : rd_T34 (wOf s kn a b l0) j = wPg s kn a b (rd_T34 l0 j):=rd34_map _ _ _ h0 h1
theorem vAnswer_self {l0 : List S34} {l1 : List S30} {s : Int} {kn : Bool} {a b c : List Bool} (h : AskSt l0 l1 s a b c) : (vAnswer l0 (wOf s kn a b l0) s kn a b = 0∧∀ p ∈ l0,qReason s kn a b p≠0∧qReason s kn a b p≠8)∨(vAnswer l0 (wOf s kn a b l0) s kn a b = 19∧∃ p ∈ l0,qReason s kn a b p = 0∨qReason s kn a b p = 8):=by
  have hs : vSameB l0 (wOf s kn a b l0) l0.length 0 = true:=by
    rw [vSame_iff]
    intro j h1 h2
    rw [wOf_rd _ _ _ _ _ _ h1 (by omega)]
    simp [vDiff,wPg]
  unfold vAnswer
  rw [if_neg (by simp [wOf]),hs,if_neg (by simp)]
  by_cases c : ∀ p ∈ l0,qReason s kn a b p≠0∧qReason s kn a b p≠8
  · refine Or.inl ⟨?_,c⟩
    have : vHoldB l0 (wOf s kn a b l0) s kn a b l0.length 0 = true:=by
      rw [vHold_iff]
      intro j h1 h2
      have hm:=rd34_mem l0 j h1 (by omega)
      rw [wOf_rd _ _ _ _ _ _ h1 (by omega)]
      exact holds_self (h.pages _ hm) (c _ hm).1 (c _ hm).2
    rw [this,if_neg (by simp)]
  · refine Or.inr ⟨?_,Classical.byContradiction fun hn => c fun p hp => ⟨fun h1 => hn ⟨p,hp,Or.inl h1⟩,fun h1 => hn ⟨p,hp,Or.inr h1⟩⟩⟩
    rw [if_pos]
    cases hv : vHoldB l0 (wOf s kn a b l0) s kn a b l0.length 0 with
    | false => rfl
    | true =>
      refine absurd (fun p hp => ?_) c
      obtain ⟨j,h1,h2,rfl⟩:=mem_rd34 hp
      exact holds_reason (h.pages _ hp) ((vHold_iff l0 s kn a b _ _ _).1 hv j h1 (by omega))
theorem either_pure (l0 : List S34) (l1 : List S30) (s : Int) (kn : Bool) : ∃ k,estoverslaw39_ReclaimplanEither.f k l0 l1 s kn = some true:=by
  obtain ⟨K,hK⟩:=awake_ev
  dsimp only at hK
  by_cases c : l0.length≤300∧l1.length≤40
  · obtain ⟨K1,H1⟩:=pchk_ev l0 l1 (by omega)
    dsimp only at H1
    rcases ask_cases l0 l1 s (by omega) with ⟨a,b,c',h1,h2⟩ | ⟨h,e,h1,h2,_⟩
    · obtain ⟨K2,H2⟩:=Next_ok (kn:=kn) h1
      obtain ⟨K3,H3⟩:=Transit_ok (kn:=kn) h1
      obtain ⟨K4,H4⟩:=Witness_ok (kn:=kn) h1
      obtain ⟨K5,H5⟩:=Verify_ok (kn:=kn) h1 (wOf s kn a b l0)
      dsimp only at H2 H3 H4 H5
      have hz:=h2.zero
      have hs:=h2.sc
      unfold ScOk at hs
      have j2 : ∀ f : Bool,(f = true↔∃ p ∈ l0,qReason s kn a b p = 0∨qReason s kn a b p = 8)→∀ k,K4 + K5 + 1≤k→estoverslaw39_ReclaimplanEither.j2 k f l0 l1 s kn = some true:=by
        intro f hf k hk
        obtain ⟨m,rfl⟩ : ∃ m,k = m + 1:=⟨k - 1,by omega⟩
        simp only [estoverslaw39_ReclaimplanEither.j2]
        rw [H4 m (by omega)]
        simp only [Option.bind_some]
        rw [H5 m (by omega)]
        simp only [Option.bind_some]
        rcases vAnswer_self (kn:=kn) h2 with ⟨h3,h4⟩ | ⟨h3,h4⟩
        · rw [h3]
          cases f with
          | true =>
            obtain ⟨p,hp,h5⟩:=hf.1 rfl
            have:=h4 p hp
            omega
          | false => rfl
        · rw [h3]
          obtain rfl:=hf.2 h4
          rfl
      refine ⟨K + K1 + K2 + K3 + K4 + K5 + 4,?_⟩
      unfold estoverslaw39_ReclaimplanEither.f estoverslaw39_Few.f
      rw [hK _ (by omega),few_f]
      simp only [Option.bind_some]
      rw [if_pos (by trivial),decide_eq_true c]
      simp only [estoverslaw39_ReclaimplanEither.j0]
      rw [if_neg (by simp),H1 _ (by omega)]
      simp only [Option.bind_some]
      rw [if_pos hz,if_neg (by omega),decide_eq_false (by omega)]
      simp only [estoverslaw39_ReclaimplanEither.j1]
      rw [if_neg (by simp),H2 _ (by omega)]
      simp only [Option.bind_some]
      by_cases c2 : (nRun l0 s kn a b c' l0.length 0 (-1,false)).1≥0
      · rw [if_pos c2]
        obtain ⟨p,hp,h3⟩:=next_pos l0 s kn a b c' c2
        exact j2 true ⟨fun _ => ⟨p,hp,Or.inl h3⟩,fun _ => rfl⟩ _ (by omega)
      · rw [if_neg c2,H3 _ (by omega)]
        simp only [Option.bind_some]
        refine j2 _ ?_ _ (by omega)
        rw [List.any_eq_true]
        constructor
        · rintro ⟨p,hp,h3⟩;exact ⟨p,hp,Or.inr (by simpa using h3)⟩
        · rintro ⟨p,hp,h3⟩
          have:=(next_neg l0 s kn a b c' (by omega)).2 p hp
          exact ⟨p,hp,by simpa using (by omega : qReason s kn a b p = 8)⟩
    · obtain ⟨K2,H2⟩:=Next_bad (kn:=kn) h1 h2
      dsimp only at H2
      have j1 : ∀ k,K2 + 1≤k→estoverslaw39_ReclaimplanEither.j1 k true l0 l1 s kn = some true:=by
        intro k hk
        obtain ⟨m,rfl⟩ : ∃ m,k = m + 1:=⟨k - 1,by omega⟩
        simp only [estoverslaw39_ReclaimplanEither.j1]
        rw [if_pos trivial,H2 m (by omega)]
        rfl
      refine ⟨K + K1 + K2 + 4,?_⟩
      unfold estoverslaw39_ReclaimplanEither.f estoverslaw39_Few.f
      rw [hK _ (by omega),few_f]
      simp only [Option.bind_some]
      rw [if_pos (by trivial),decide_eq_true c]
      simp only [estoverslaw39_ReclaimplanEither.j0]
      rw [if_neg (by simp),H1 _ (by omega)]
      simp only [Option.bind_some]
      by_cases c1 : pchk l0 l1 = 0
      · rw [if_pos c1]
        by_cases c2 : s < -1
        · rw [if_pos c2];exact j1 _ (by omega)
        · rw [if_neg c2,decide_eq_true (Classical.byContradiction fun c3 => h ⟨c1,by unfold ScOk;omega⟩)];exact j1 _ (by omega)
      · rw [if_neg c1];exact j1 _ (by omega)
  · refine ⟨K + 1,?_⟩
    unfold estoverslaw39_ReclaimplanEither.f estoverslaw39_Few.f
    rw [hK _ (by omega),few_f]
    simp only [Option.bind_some]
    rw [if_pos (by trivial)]
    simp only [estoverslaw39_ReclaimplanEither.j0]
    rw [decide_eq_false c,if_pos (by simp),hK _ (by omega)]
    rfl
end Go.Proofs.Ytnmenfkmndnoaaa.Pr
