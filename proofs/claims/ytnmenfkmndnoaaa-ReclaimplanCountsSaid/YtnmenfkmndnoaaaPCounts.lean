/- The plain statement of ReclaimplanCounts. -/
import Derived.Test.YtnmenfkmndnoaaaKc
import Derived.Test.YtnmenfkmndnoaaaKd
import Derived.Test.YtnmenfkmndnoaaaFestoverslaw39ReclaimplanCounts
set_option linter.unusedVariables false
set_option linter.unusedSimpArgs false
namespace Go.Proofs.Ytnmenfkmndnoaaa.Pr
open Go.RowKit Go.Proofs.YtnmenfkmndnoaaaW.PrintWords Go.Proofs.YtnmenfkmndnoaaaW.PrintLast Go.Proofs.YtnmenfkmndnoaaaW.PrintMore
section
variable {l0 : List S34} {l1 : List S30} {s : Int} {kn : Bool} {a b c : List Bool}
theorem reason8 (s : Int) (kn : Bool) (a b : List Bool) (p : S34) (h : p.f6 = true) : qReason s kn a b p = 8↔qOut s a p = false∧(kn = false∨p.f5 = true):=by
  unfold qReason
  cases qOut s a p with
  | true => simp
  | false => cases kn <;> cases p.f5 <;> simp [h]
theorem rUseful_l0 (h : AskSt l0 l1 s a b c) : ∀ (d : Nat) (i n : Int),0≤i→i + d = (l0.length : Int)→0≤n→n + d < 1000000→Ev (fun k => estoversref39_Useful.l0 k l0 l1 s kn n i) ((l0.drop i.toNat).foldl (uStep s kn a b) n):=by
  have hf:=h.few
  intro d
  induction d with
  | zero =>
    intro i n h0 hi _ _
    refine ev1 0 (fun k _ => ?_)
    simp only [estoversref39_Useful.l0]
    rw [if_neg (by omega),List.drop_eq_nil_of_le (by omega)]
    rfl
  | succ d ih =>
    intro i n h0 hi hn0 hn
    have hlt : i < (l0.length : Int):=by omega
    have hpg:=h.pages _ (rd34_mem l0 i h0 hlt)
    obtain ⟨K3,hK3⟩:=out_ev h _ hpg
    dsimp only at hK3
    rw [drop_rd34 l0 i h0 hlt,List.foldl_cons]
    have hu : uStep s kn a b n (rd_T34 l0 i) = if (rd_T34 l0 i).f6 = true∧qReason s kn a b (rd_T34 l0 i) = 8 then n + 1 else n:=rfl
    obtain ⟨K,hK⟩:=ih (i + 1) (uStep s kn a b n (rd_T34 l0 i)) (by omega) (by omega) (by rw [hu];split <;> omega) (by rw [hu];split <;> omega)
    have j1 : ∀ f : Bool,(f = true↔(rd_T34 l0 i).f6 = true∧qReason s kn a b (rd_T34 l0 i) = 8)→∀ k,K + 1≤k→estoversref39_Useful.j1 k l0 l1 s kn n i f = some ((l0.drop (i + 1).toNat).foldl (uStep s kn a b) (uStep s kn a b n (rd_T34 l0 i))):=by
      intro f hfq k hk
      obtain ⟨m,rfl⟩ : ∃ m,k = m + 1:=⟨k - 1,by omega⟩
      simp only [estoversref39_Useful.j1]
      have hK:=hK m (by omega)
      rw [show wrap64 (i + 1) = i + 1 from wr64 (by omega) (by omega),show wrap64 (n + 1) = n + 1 from wr64 (by omega) (by omega)]
      cases f with
      | true => rw [hu,if_pos (hfq.1 rfl)] at hK;rw [if_pos rfl,hu,if_pos (hfq.1 rfl)];exact hK
      | false =>
        have nq : ¬ ((rd_T34 l0 i).f6 = true∧qReason s kn a b (rd_T34 l0 i) = 8):=fun h => Bool.false_ne_true (hfq.2 h)
        rw [hu,if_neg nq] at hK;rw [if_neg Bool.false_ne_true,hu,if_neg nq];exact hK
    refine ev1 (K + K3 + 1) (fun k hk => ?_)
    simp only [estoversref39_Useful.l0]
    rw [if_pos hlt,if_pos h0]
    cases h6 : (rd_T34 l0 i).f6 with
    | false => rw [if_neg Bool.false_ne_true];exact j1 false (by simp [h6]) k (by omega)
    | true =>
      have hK3:=hK3 k (by omega)
      rw [h6] at hK3
      rw [if_pos rfl,hK3]
      simp only [Option.bind_some]
      have e8:=reason8 s kn a b (rd_T34 l0 i) h6
      cases ho : qOut s a (rd_T34 l0 i) with
      | true => rw [if_pos rfl];exact j1 false (by rw [e8,ho];simp) k (by omega)
      | false =>
        rw [if_neg Bool.false_ne_true]
        cases hk : kn with
        | true => rw [if_pos rfl];subst hk;exact j1 _ (by rw [e8,ho,h6];simp) k (by omega)
        | false => rw [if_neg Bool.false_ne_true];subst hk;exact j1 true (by rw [e8,ho,h6];simp) k (by omega)
theorem rUseful_ok (h : AskSt l0 l1 s a b c) : Ev (fun k => estoversref39_Useful.f k l0 l1 s kn) (l0.foldl (uStep s kn a b) 0):=by
  obtain ⟨K,hK⟩:=quest_ok h
  have hf:=h.few
  obtain ⟨K3,hK3⟩:=rUseful_l0 (kn:=kn) h l0.length 0 0 (by omega) (by omega) (by omega) (by omega)
  dsimp only at hK hK3
  refine ev0 (K + K3) (fun k hk => ?_)
  unfold estoversref39_Useful.f
  rw [hK _ (by omega)]
  simp only [Option.bind_some]
  rw [if_pos (by trivial)]
  exact hK3 _ (by omega)
theorem rTransit_l0 (h : AskSt l0 l1 s a b c) : ∀ (d : Nat) (i : Int),0≤i→i + d = (l0.length : Int)→Ev (fun k => estoversref39_Transit.l0 k l0 l1 s kn (lvOf l1.length l0) i) ((l0.drop i.toNat).any fun p => qReason s kn a b p == 8):=by
  have hf:=h.few
  intro d
  induction d with
  | zero =>
    intro i h0 hi
    refine ev1 0 (fun k _ => ?_)
    simp only [estoversref39_Transit.l0]
    rw [if_neg (by omega),List.drop_eq_nil_of_le (by omega)]
    rfl
  | succ d ih =>
    intro i h0 hi
    have hlt : i < (l0.length : Int):=by omega
    obtain ⟨K3,hK3⟩:=rea_ev h kn _ (h.pages _ (rd34_mem l0 i h0 hlt))
    obtain ⟨K,hK⟩:=ih (i + 1) (by omega) (by omega)
    dsimp only at hK3 hK
    rw [drop_rd34 l0 i h0 hlt,List.any_cons]
    refine ev1 (K + K3) (fun k hk => ?_)
    simp only [estoversref39_Transit.l0]
    rw [if_pos hlt,if_pos h0,hK3 k (by omega)]
    simp only [Option.bind_some]
    by_cases c8 : qReason s kn a b (rd_T34 l0 i) = 8
    · rw [if_pos c8,c8];rfl
    · rw [if_neg c8,wr64 (by omega) (by omega),hK k (by omega),beq_eq_false_iff_ne.2 c8];rfl
theorem rTransit_ok (h : AskSt l0 l1 s a b c) : Ev (fun k => estoversref39_Transit.f k l0 l1 s kn) (l0.any fun p => qReason s kn a b p == 8):=by
  obtain ⟨K,hK⟩:=quest_ok h
  obtain ⟨K2,hK2⟩:=leaving_ev h
  obtain ⟨K3,hK3⟩:=rTransit_l0 (kn:=kn) h l0.length 0 (by omega) (by omega)
  dsimp only at hK hK2 hK3
  refine ev0 (K + K2 + K3) (fun k hk => ?_)
  unfold estoversref39_Transit.f
  rw [hK _ (by omega)]
  simp only [Option.bind_some]
  rw [if_pos (by trivial),hK2 _ (by omega)]
  simp only [Option.bind_some]
  exact hK3 _ (by omega)
theorem rUT_bad (hn : l0.length < 1000000) (h : ¬ (pchk l0 l1 = 0∧ScOk (l1.length : Int) s)) : Ev (fun k => estoversref39_Useful.f k l0 l1 s kn) 0∧Ev (fun k => estoversref39_Transit.f k l0 l1 s kn) false:=by
  obtain ⟨K,hK⟩:=quest_bad hn h
  dsimp only at hK
  constructor
  · refine ev0 K (fun k hk => ?_)
    unfold estoversref39_Useful.f
    rw [hK _ (by omega)]
    rfl
  · refine ev0 K (fun k hk => ?_)
    unfold estoversref39_Transit.f
    rw [hK _ (by omega)]
    rfl
end
theorem counts_pure (l0 : List S34) (l1 : List S30) (s : Int) (kn : Bool) : ∃ k,estoverslaw39_ReclaimplanCounts.f k l0 l1 s kn = some true:=by
  obtain ⟨K,hK⟩:=awake_ev
  dsimp only at hK
  by_cases c : l0.length≤300∧l1.length≤40
  · have key : ∃ r t,Ev (fun k => reclaimplan_Useful.f k l0 l1 s kn) r∧Ev (fun k => estoversref39_Useful.f k l0 l1 s kn) r∧Ev (fun k => reclaimplan_Transit.f k l0 l1 s kn) t∧Ev (fun k => estoversref39_Transit.f k l0 l1 s kn) t:=by
      rcases ask_cases l0 l1 s (by omega) with ⟨a,b,c,h1,h2⟩ | ⟨h,e,h1,h2,_⟩
      · exact ⟨_,_,Useful_ok h1,rUseful_ok h2,Transit_ok h1,rTransit_ok h2⟩
      · exact ⟨_,_,Useful_bad h1 h2,(rUT_bad (by omega) h).1,Transit_bad h1 h2,(rUT_bad (by omega) h).2⟩
    obtain ⟨r,t,⟨K1,H1⟩,⟨K2,H2⟩,⟨K3,H3⟩,⟨K4,H4⟩⟩:=key
    dsimp only at H1 H2 H3 H4
    refine ⟨K + K1 + K2 + K3 + K4 + 1,?_⟩
    unfold estoverslaw39_ReclaimplanCounts.f estoverslaw39_Few.f
    rw [hK _ (by omega),few_f]
    simp only [Option.bind_some]
    rw [if_pos (by trivial)]
    simp only [estoverslaw39_ReclaimplanCounts.j0]
    rw [decide_eq_true c,if_neg (by simp),H1 _ (by omega),H2 _ (by omega)]
    simp only [Option.bind_some]
    rw [if_pos trivial,H3 _ (by omega),H4 _ (by omega)]
    simp
  · refine ⟨K + 1,?_⟩
    unfold estoverslaw39_ReclaimplanCounts.f estoverslaw39_Few.f
    rw [hK _ (by omega),few_f]
    simp only [Option.bind_some]
    rw [if_pos (by trivial)]
    simp only [estoverslaw39_ReclaimplanCounts.j0]
    rw [decide_eq_false c,if_pos (by simp),hK _ (by omega)]
    rfl
end Go.Proofs.Ytnmenfkmndnoaaa.Pr
