/- The plain statement of ReclaimplanSound. -/
import Derived.Test.YtnmenfkmndnoaaaKe
import Derived.Test.YtnmenfkmndnoaaaFestoverslaw39ReclaimplanSound
set_option linter.unusedVariables false
set_option linter.unusedSimpArgs false
namespace Go.Proofs.Ytnmenfkmndnoaaa.Pr
open Go.RowKit Go.Proofs.YtnmenfkmndnoaaaW.PrintWords Go.Proofs.YtnmenfkmndnoaaaW.PrintLast Go.Proofs.YtnmenfkmndnoaaaW.PrintMore
theorem sound_l0 (l0 : List S34) (l1 : List S30) (s : Int) (kn : Bool) (v : List Int) (hl : l0.length≤300) : ∀ (d : Nat) (i : Int) (w : List S34),0≤i→i + d = (w.length : Int)→w.length = l0.length→∃ w' : List S34,w'.length = l0.length∧∀ r,Ev (fun k => estoverslaw39_ReclaimplanSound.l0 k v w' (w'.length : Int) (w'.length : Int) l0 l1 s kn) r→Ev (fun k => estoverslaw39_ReclaimplanSound.l0 k v w (w.length : Int) i l0 l1 s kn) r:=by
  intro d
  induction d with
  | zero =>
    intro i w h0 hi hw
    refine ⟨w,hw,fun r hr => ?_⟩
    rw [show (w.length : Int) = i by omega] at hr ⊢
    exact hr
  | succ d ih =>
    intro i w h0 hi hw
    by_cases c : i < (v.length : Int)
    · obtain ⟨w',h1,h2⟩:=ih (i + 1) (w.set i.toNat ⟨(rd_T34 w i).f0,(rd_T34 w i).f1,(rd_T34 w i).f2,wrap64 (rd v i),(rd_T34 w i).f4,(rd_T34 w i).f5,(rd_T34 w i).f6⟩) (by omega) (by simp;omega) (by simpa using hw)
      refine ⟨w',h1,fun r hr => ?_⟩
      obtain ⟨K,hK⟩:=h2 r hr
      refine ev1 K (fun k hk => ?_)
      simp only [estoverslaw39_ReclaimplanSound.l0]
      rw [if_pos (by omega),if_pos c,if_pos h0,if_pos (by omega),show wrap64 (i + 1) = i + 1 from wr64 (by omega) (by omega)]
      have:=hK k hk
      simpa using this
    · obtain ⟨w',h1,h2⟩:=ih (i + 1) w (by omega) (by omega) hw
      refine ⟨w',h1,fun r hr => ?_⟩
      obtain ⟨K,hK⟩:=h2 r hr
      refine ev1 K (fun k hk => ?_)
      simp only [estoverslaw39_ReclaimplanSound.l0]
      rw [if_pos (by omega),if_neg c,show wrap64 (i + 1) = i + 1 from wr64 (by omega) (by omega)]
      exact hK k hk
theorem sound_answer {l0 : List S34} {l1 : List S30} {s : Int} {kn : Bool} {a b c : List Bool} (h : AskSt l0 l1 s a b c) (w : List S34) (hv : vAnswer l0 w s kn a b = 0) : ∀ p ∈ l0,qReason s kn a b p≠0∧qReason s kn a b p≠8:=by
  unfold vAnswer at hv
  by_cases c1 : ¬ w.length = l0.length
  · rw [if_pos c1] at hv;omega
  · rw [if_neg c1] at hv
    cases h2 : vSameB l0 w l0.length 0 with
    | false => rw [h2,if_pos rfl] at hv;omega
    | true =>
      cases h3 : vHoldB l0 w s kn a b l0.length 0 with
      | false => rw [h2,h3,if_neg (by simp),if_pos rfl] at hv;omega
      | true =>
        intro p hp
        obtain ⟨j,h4,h5,rfl⟩:=mem_rd34 hp
        exact holds_reason (h.pages _ hp) ((vHold_iff l0 s kn a b _ _ _).1 h3 j h4 (by omega))
theorem sound_pure (l0 : List S34) (l1 : List S30) (s : Int) (kn : Bool) (v : List Int) : ∃ k,estoverslaw39_ReclaimplanSound.f k l0 l1 s kn v = some true:=by
  obtain ⟨K,hK⟩:=awake_ev
  dsimp only at hK
  have jt : ∀ k,K + 1≤k→estoverslaw39_ReclaimplanSound.j0 k v true l0 l1 s kn = some true:=by
    intro k hk
    obtain ⟨m,rfl⟩ : ∃ m,k = m + 1:=⟨k - 1,by omega⟩
    simp only [estoverslaw39_ReclaimplanSound.j0]
    rw [if_pos trivial,hK m (by omega)]
    rfl
  by_cases c : l0.length≤300∧l1.length≤40
  · obtain ⟨w,hw,hl⟩:=sound_l0 l0 l1 s kn v c.1 l0.length 0 l0 (by omega) (by omega) rfl
    have key : Ev (fun k => estoverslaw39_ReclaimplanSound.l0 k v w (w.length : Int) (w.length : Int) l0 l1 s kn) true:=by
      rcases ask_cases l0 l1 s (by omega) with ⟨a,b,c',h1,h2⟩ | ⟨h,e,h1,h2,_⟩
      · obtain ⟨K2,H2⟩:=Next_ok (kn:=kn) h1
        obtain ⟨K3,H3⟩:=Transit_ok (kn:=kn) h1
        obtain ⟨K5,H5⟩:=Verify_ok (kn:=kn) h1 w
        dsimp only at H2 H3 H5
        refine ev1 (K2 + K3 + K5) (fun k hk => ?_)
        simp only [estoverslaw39_ReclaimplanSound.l0]
        rw [if_neg (by omega),H5 k (by omega)]
        simp only [Option.bind_some]
        by_cases hv : vAnswer l0 w s kn a b = 0
        · have hs:=sound_answer h2 w hv
          rw [if_pos hv,H2 k (by omega)]
          simp only [Option.bind_some]
          have hn : (nRun l0 s kn a b c' l0.length 0 (-1,false)).1 = -1:=by
            by_cases c2 : 0≤(nRun l0 s kn a b c' l0.length 0 (-1,false)).1
            · obtain ⟨p,hp,h3⟩:=next_pos l0 s kn a b c' c2
              exact absurd h3 (hs p hp).1
            · exact (next_neg l0 s kn a b c' (by omega)).1
          rw [if_pos hn,H3 k (by omega)]
          simp only [Option.bind_some]
          have ha : (l0.any fun p => qReason s kn a b p == 8) = false:=by
            rw [List.any_eq_false]
            intro p hp
            simpa using (hs p hp).2
          rw [ha]
          rfl
        · rw [if_neg hv]
      · obtain ⟨K5,H5⟩:=Verify_bad (kn:=kn) h1 h2 w
        dsimp only at H5
        refine ev1 K5 (fun k hk => ?_)
        simp only [estoverslaw39_ReclaimplanSound.l0]
        rw [if_neg (by omega),H5 k (by omega)]
        simp only [Option.bind_some]
        rw [if_neg h2]
    obtain ⟨K6,H6⟩:=hl true key
    dsimp only at H6
    refine ⟨K + K6 + 2,?_⟩
    unfold estoverslaw39_ReclaimplanSound.f estoverslaw39_Few.f
    rw [hK _ (by omega),few_f]
    simp only [Option.bind_some]
    rw [if_pos (by trivial),decide_eq_true c,if_pos (by trivial)]
    by_cases c2 : (v.length : Int) > 300
    · rw [decide_eq_true c2];exact jt _ (by omega)
    · rw [decide_eq_false c2]
      simp only [estoverslaw39_ReclaimplanSound.j0]
      rw [if_neg (by simp),Option.bind_some,if_pos (by simp;omega),Option.bind_some,List.nil_append]
      exact H6 _ (by omega)
  · refine ⟨K + 2,?_⟩
    unfold estoverslaw39_ReclaimplanSound.f estoverslaw39_Few.f
    rw [hK _ (by omega),few_f]
    simp only [Option.bind_some]
    rw [if_pos (by trivial),decide_eq_false c,if_neg (by simp)]
    exact jt _ (by omega)
end Go.Proofs.Ytnmenfkmndnoaaa.Pr
