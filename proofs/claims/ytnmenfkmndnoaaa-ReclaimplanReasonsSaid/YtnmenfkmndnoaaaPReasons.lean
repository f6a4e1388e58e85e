/- The plain statement of ReclaimplanReasons. -/
import Derived.Test.YtnmenfkmndnoaaaKc
import Derived.Test.YtnmenfkmndnoaaaKd
import Derived.Test.YtnmenfkmndnoaaaFestoverslaw39ReclaimplanReasons
set_option linter.unusedVariables false
set_option linter.unusedSimpArgs false
namespace Go.Proofs.Ytnmenfkmndnoaaa.Pr
open Go.RowKit Go.Proofs.YtnmenfkmndnoaaaW.PrintWords Go.Proofs.YtnmenfkmndnoaaaW.PrintLast Go.Proofs.YtnmenfkmndnoaaaW.PrintMore
section
variable {l0 : List S34} {l1 : List S30} {s : Int} {kn : Bool} {a b c : List Bool}
theorem rj0_bad (i : Int) : ∀ k,1≤k→estoversref39_Reason.j0 k l0 l1 s i kn true = some (-1):=by
  intro k hk
  obtain ⟨m,rfl⟩ : ∃ m,k = m + 1:=⟨k - 1,by omega⟩
  rfl
theorem rReason_ok (h : AskSt l0 l1 s a b c) (i : Int) : Ev (fun k => estoversref39_Reason.f k l0 l1 s i kn) (if 0≤i∧i < (l0.length : Int) then qReason s kn a b (rd_T34 l0 i) else -1):=by
  obtain ⟨K,hK⟩:=quest_ok h
  obtain ⟨K2,hK2⟩:=leaving_ev h
  dsimp only at hK hK2
  by_cases c1 : 0≤i∧i < (l0.length : Int)
  · obtain ⟨K3,hK3⟩:=rea_ev h kn (rd_T34 l0 i) (h.pages _ (rd34_mem l0 i c1.1 c1.2))
    dsimp only at hK3
    refine ev0 (K + K2 + K3 + 1) (fun k hk => ?_)
    obtain ⟨m,rfl⟩ : ∃ m,k = m + 1:=⟨k - 1,by omega⟩
    unfold estoversref39_Reason.f
    rw [hK _ (by omega),if_pos c1]
    simp only [Option.bind_some,estoversref39_Reason.j0]
    rw [if_pos (by trivial),if_neg (by omega),if_neg (by simp;omega),if_pos c1.1,if_pos c1.2,hK2 _ (by omega)]
    simp only [Option.bind_some]
    rw [hK3 _ (by omega)]
    rfl
  · refine ev0 (K + 1) (fun k hk => ?_)
    unfold estoversref39_Reason.f
    rw [hK _ (by omega),if_neg c1]
    simp only [Option.bind_some]
    rw [if_pos (by trivial)]
    by_cases c2 : i < 0
    · rw [if_pos c2];exact rj0_bad i k (by omega)
    · rw [if_neg c2,decide_eq_true (show i≥(l0.length : Int) by omega)];exact rj0_bad i k (by omega)
theorem rReason_bad (hn : l0.length < 1000000) (h : ¬ (pchk l0 l1 = 0∧ScOk (l1.length : Int) s)) (i : Int) : Ev (fun k => estoversref39_Reason.f k l0 l1 s i kn) (-1):=by
  obtain ⟨K,hK⟩:=quest_bad hn h
  refine ev0 (K + 1) (fun k hk => ?_)
  dsimp only at hK
  unfold estoversref39_Reason.f
  rw [hK _ (by omega)]
  simp only [Option.bind_some]
  rw [if_neg (by simp)]
  exact rj0_bad i k (by omega)
theorem rWitness_l0 (h : AskSt l0 l1 s a b c) : ∀ (d : Nat) (i : Int) (acc : List S34),0≤i→i + d = (l0.length : Int)→acc.length + d < 1000000→Ev (fun k => estoversref39_Witness.l0 k l0 l1 s kn acc (lvOf l1.length l0) i) (acc ++ (l0.drop i.toNat).map (wPg s kn a b)):=by
  intro d
  have hf:=h.few
  induction d with
  | zero =>
    intro i acc h0 hi _
    refine ev1 0 (fun k _ => ?_)
    simp only [estoversref39_Witness.l0]
    rw [if_neg (by omega),List.drop_eq_nil_of_le (by omega)]
    simp
  | succ d ih =>
    intro i acc h0 hi ha
    have hlt : i < (l0.length : Int):=by omega
    obtain ⟨K3,hK3⟩:=rea_ev h kn (rd_T34 l0 i) (h.pages _ (rd34_mem l0 i h0 hlt))
    obtain ⟨K,hK⟩:=ih (i + 1) (acc ++ [wPg s kn a b (rd_T34 l0 i)]) (by omega) (by omega) (by simp;omega)
    dsimp only at hK hK3
    refine ev1 (K + K3) (fun k hk => ?_)
    simp only [estoversref39_Witness.l0]
    rw [if_pos hlt,if_pos h0,hK3 k (by omega)]
    simp only [Option.bind_some]
    rw [if_pos (by omega),wr64 (by omega) (by omega),drop_rd34 l0 i h0 hlt,List.map_cons]
    have:=hK k (by omega)
    rw [List.append_assoc] at this
    exact this
theorem rWitness_ok (h : AskSt l0 l1 s a b c) : Ev (fun k => estoversref39_Witness.f k l0 l1 s kn) (wOf s kn a b l0):=by
  obtain ⟨K,hK⟩:=quest_ok h
  obtain ⟨K2,hK2⟩:=leaving_ev h
  have hf:=h.few
  obtain ⟨K3,hK3⟩:=rWitness_l0 (kn:=kn) h l0.length 0 [] (by omega) (by omega) (by simpa using hf)
  dsimp only at hK hK2 hK3
  refine ev0 (K + K2 + K3) (fun k hk => ?_)
  unfold estoversref39_Witness.f
  rw [hK _ (by omega)]
  simp only [Option.bind_some]
  rw [if_pos (by trivial),hK2 _ (by omega)]
  simp only [Option.bind_some]
  rw [hK3 _ (by omega)]
  rfl
theorem rWitness_bad (hn : l0.length < 1000000) (h : ¬ (pchk l0 l1 = 0∧ScOk (l1.length : Int) s)) : Ev (fun k => estoversref39_Witness.f k l0 l1 s kn) []:=by
  obtain ⟨K,hK⟩:=quest_bad hn h
  refine ev0 K (fun k hk => ?_)
  dsimp only at hK
  unfold estoversref39_Witness.f
  rw [hK _ (by omega)]
  rfl
end
theorem same_l0 (a : List S34) (hn : a.length < 1000000) : ∀ (d : Nat) (i : Int),0≤i→i + d = (a.length : Int)→Ev (fun k => estoversref39_Same.l0 k a a i) true:=by
  intro d
  induction d with
  | zero => intro i h0 hi;exact ev1 0 (fun k _ => by simp only [estoversref39_Same.l0];rw [if_neg (by omega)])
  | succ d ih =>
    intro i h0 hi
    obtain ⟨K,hK⟩:=ih (i + 1) (by omega) (by omega)
    refine ev1 K (fun k hk => ?_)
    simp only [estoversref39_Same.l0]
    rw [if_pos (by omega),if_pos h0,if_pos (by omega),if_neg (by simp),wr64 (by omega) (by omega)]
    exact hK k hk
theorem same_f (a : List S34) (hn : a.length < 1000000) : Ev (fun k => estoversref39_Same.f k a a) true:=by
  obtain ⟨K,hK⟩:=same_l0 a hn a.length 0 (by omega) (by omega)
  refine ev0 K (fun k hk => ?_)
  unfold estoversref39_Same.f
  rw [if_pos rfl]
  exact hK k hk
theorem reasons_pure (l0 : List S34) (l1 : List S30) (s : Int) (kn : Bool) (i : Int) : ∃ k,estoverslaw39_ReclaimplanReasons.f k l0 l1 s kn i = some true:=by
  obtain ⟨K,hK⟩:=awake_ev
  dsimp only at hK
  by_cases c : l0.length≤300∧l1.length≤40
  · have key : ∃ r w,Ev (fun k => reclaimplan_Reason.f k l0 l1 s i kn) r∧Ev (fun k => estoversref39_Reason.f k l0 l1 s i kn) r∧Ev (fun k => reclaimplan_Witness.f k l0 l1 s kn) w∧Ev (fun k => estoversref39_Witness.f k l0 l1 s kn) w∧w.length < 1000000:=by
      rcases ask_cases l0 l1 s (by omega) with ⟨a,b,c,h1,h2⟩ | ⟨h,e,h1,h2,_⟩
      · exact ⟨_,_,Reason_ok h1 i,rReason_ok h2 i,Witness_ok h1,rWitness_ok h2,by rw [wOf,List.length_map];omega⟩
      · exact ⟨_,_,Reason_bad h1 h2 i,rReason_bad (by omega) h i,Witness_bad h1 h2,rWitness_bad (by omega) h,by simp⟩
    obtain ⟨r,w,⟨K1,H1⟩,⟨K2,H2⟩,⟨K3,H3⟩,⟨K4,H4⟩,hw⟩:=key
    obtain ⟨K5,H5⟩:=same_f w hw
    dsimp only at H1 H2 H3 H4 H5
    refine ⟨K + K1 + K2 + K3 + K4 + K5 + 1,?_⟩
    unfold estoverslaw39_ReclaimplanReasons.f estoverslaw39_Few.f
    rw [hK _ (by omega),few_f]
    simp only [Option.bind_some]
    rw [if_pos (by trivial)]
    simp only [estoverslaw39_ReclaimplanReasons.j0]
    rw [decide_eq_true c,if_neg (by simp),H1 _ (by omega),H2 _ (by omega)]
    simp only [Option.bind_some]
    rw [if_pos trivial,H3 _ (by omega),H4 _ (by omega)]
    simp only [Option.bind_some]
    rw [H5 _ (by omega)]
    rfl
  · refine ⟨K + 1,?_⟩
    unfold estoverslaw39_ReclaimplanReasons.f estoverslaw39_Few.f
    rw [hK _ (by omega),few_f]
    simp only [Option.bind_some]
    rw [if_pos (by trivial)]
    simp only [estoverslaw39_ReclaimplanReasons.j0]
    rw [decide_eq_false c,if_pos (by simp),hK _ (by omega)]
    rfl
end Go.Proofs.Ytnmenfkmndnoaaa.Pr
