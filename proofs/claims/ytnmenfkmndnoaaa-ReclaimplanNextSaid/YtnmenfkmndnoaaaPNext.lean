/- The plain statement of ReclaimplanNext. -/
import Derived.Test.YtnmenfkmndnoaaaKc
import Derived.Test.YtnmenfkmndnoaaaKd
import Derived.Test.YtnmenfkmndnoaaaFestoverslaw39ReclaimplanNext
set_option linter.unusedVariables false
set_option linter.unusedSimpArgs false
namespace Go.Proofs.Ytnmenfkmndnoaaa.Pr
open Go.RowKit Go.Proofs.YtnmenfkmndnoaaaW.PrintWords Go.Proofs.YtnmenfkmndnoaaaW.PrintLast Go.Proofs.YtnmenfkmndnoaaaW.PrintMore
section
variable {l0 : List S34} {l1 : List S30} {s : Int} {kn : Bool} {a b c : List Bool}
theorem nOpen_gua (c : List Bool) (p : S34) : nOpen c p = !(qGua c p):=by
  unfold nOpen qGua
  by_cases h : p.f1 < 0
  · rw [decide_eq_true h,decide_eq_false (show ¬ 0≤p.f1 by omega)];rfl
  · rw [decide_eq_false h,decide_eq_true (show 0≤p.f1 by omega)];simp
def NRel (n : Int) (st : Int × Bool) (x y : Int) : Prop:=x < n∧y < n∧((x = -1∧y = -1∧st = (-1,false))∨(0≤x∧0≤y∧st = (x,true))∨(x = -1∧0≤y∧st = (y,false)))
theorem rNext_l0 (h : AskSt l0 l1 s a b c) : ∀ (d : Nat) (i : Int) (st : Int × Bool) (x y : Int),0≤i→i + d = (l0.length : Int)→NRel (l0.length : Int) st x y→Ev (fun k => estoversref39_Next.l0 k l0 l1 s kn (lvOf l1.length l0) x y i) (nRun l0 s kn a b c d i st).1:=by
  have hf:=h.few
  intro d
  induction d with
  | zero =>
    intro i st x y h0 hi hr
    refine ev1 0 (fun k _ => ?_)
    simp only [estoversref39_Next.l0,nRun]
    rw [if_neg (by omega)]
    obtain ⟨_,_,⟨h1,h2,rfl⟩ | ⟨h1,h2,rfl⟩ | ⟨h1,h2,rfl⟩⟩:=hr
    · rw [if_neg (by omega),h2]
    · rw [if_pos (by omega)]
    · rw [if_neg (by omega)]
  | succ d ih =>
    intro i st x y h0 hi hr
    have hlt : i < (l0.length : Int):=by omega
    have hpg:=h.pages _ (rd34_mem l0 i h0 hlt)
    obtain ⟨K3,hK3⟩:=rea_ev h kn _ hpg
    obtain ⟨K4,hK4⟩:=(gua_ev h _ hpg).2
    dsimp only at hK3 hK4
    simp only [nRun]
    unfold nStep
    by_cases c0 : qReason s kn a b (rd_T34 l0 i) = 0
    · rw [if_neg (not_not_intro c0)]
      have j3 : ∀ (f : Bool) (y' : Int) (st' : Int × Bool),NRel (l0.length : Int) st' (if f = true then i else x) y'→∃ K,∀ k,K≤k→estoversref39_Next.j3 k l0 l1 s kn (lvOf l1.length l0) x y' i f = some (nRun l0 s kn a b c d (i + 1) st').1:=by
        intro f y' st' hr'
        obtain ⟨K,hK⟩:=ih (i + 1) st' _ y' (by omega) (by omega) hr'
        refine ⟨K + 1,fun k hk => ?_⟩
        obtain ⟨m,rfl⟩ : ∃ m,k = m + 1:=⟨k - 1,by omega⟩
        simp only [estoversref39_Next.j3]
        have:=hK m (by omega)
        rw [wr64 (by omega) (by omega)]
        cases f with
        | true => rw [if_pos rfl] at this ⊢;exact this
        | false => rw [if_neg Bool.false_ne_true] at this ⊢;exact this
      have j2 : ∀ (y' : Int) (st' : Int × Bool),NRel (l0.length : Int) st' (if nOpen c (rd_T34 l0 i) = true∧(x < 0∨(rd_T34 l0 i).f2 < (rd_T34 l0 x).f2) then i else x) y'→∃ K,∀ k,K≤k→estoversref39_Next.j2 k l0 l1 s kn (lvOf l1.length l0) x y' i = some (nRun l0 s kn a b c d (i + 1) st').1:=by
        intro y' st' hr'
        obtain ⟨K,hK⟩:=j3 (decide (nOpen c (rd_T34 l0 i) = true∧(x < 0∨(rd_T34 l0 i).f2 < (rd_T34 l0 x).f2))) y' st' (by
          simp only [decide_eq_true_iff];exact hr')
        refine ⟨K + K4 + 1,fun k hk => ?_⟩
        obtain ⟨m,rfl⟩ : ∃ m,k = m + 1:=⟨k - 1,by omega⟩
        simp only [estoversref39_Next.j2]
        rw [if_pos h0,if_pos hlt,hK4 m (by omega)]
        simp only [Option.bind_some]
        have hK:=hK m (by omega)
        rw [nOpen_gua] at hK
        cases hg : qGua c (rd_T34 l0 i) with
        | true => rw [hg] at hK;rw [if_pos rfl];simpa using hK
        | false =>
          rw [hg] at hK
          rw [if_neg Bool.false_ne_true]
          by_cases q1 : x < 0
          · rw [if_pos q1];simpa [q1] using hK
          · rw [if_neg q1,if_pos (by omega),if_pos hr.1]
            simpa [q1] using hK
      have j1 : ∀ (f : Bool) (st' : Int × Bool),NRel (l0.length : Int) st' (if nOpen c (rd_T34 l0 i) = true∧(x < 0∨(rd_T34 l0 i).f2 < (rd_T34 l0 x).f2) then i else x) (if f = true then i else y)→∃ K,∀ k,K≤k→estoversref39_Next.j1 k l0 l1 s kn (lvOf l1.length l0) x y i f = some (nRun l0 s kn a b c d (i + 1) st').1:=by
        intro f st' hr'
        obtain ⟨K,hK⟩:=j2 _ st' hr'
        refine ⟨K + 1,fun k hk => ?_⟩
        obtain ⟨m,rfl⟩ : ∃ m,k = m + 1:=⟨k - 1,by omega⟩
        simp only [estoversref39_Next.j1]
        have:=hK m (by omega)
        cases f with
        | true => rw [if_pos rfl] at this ⊢;exact this
        | false => rw [if_neg Bool.false_ne_true] at this ⊢;exact this
      have top : ∀ st',NRel (l0.length : Int) st' (if nOpen c (rd_T34 l0 i) = true∧(x < 0∨(rd_T34 l0 i).f2 < (rd_T34 l0 x).f2) then i else x) (if y < 0∨(rd_T34 l0 i).f2 < (rd_T34 l0 y).f2 then i else y)→Ev (fun k => estoversref39_Next.l0 k l0 l1 s kn (lvOf l1.length l0) x y i) (nRun l0 s kn a b c d (i + 1) st').1:=by
        intro st' hr'
        obtain ⟨K,hK⟩:=j1 (decide (y < 0∨(rd_T34 l0 i).f2 < (rd_T34 l0 y).f2)) st' (by
          simp only [decide_eq_true_iff];exact hr')
        refine ev1 (K + K3) (fun k hk => ?_)
        simp only [estoversref39_Next.l0]
        rw [if_pos hlt,if_pos h0,hK3 k (by omega)]
        simp only [Option.bind_some]
        rw [if_pos c0]
        have hK:=hK k (by omega)
        by_cases q1 : y < 0
        · rw [if_pos q1];simpa [q1] using hK
        · rw [if_neg q1,if_pos (by omega),if_pos hr.2.1]
          simpa [q1] using hK
      refine top _ ?_
      generalize nOpen c (rd_T34 l0 i) = o
      generalize (rd_T34 l0 i).f2 = ai
      obtain ⟨hx,hy,⟨h1,h2,rfl⟩ | ⟨h1,h2,rfl⟩ | ⟨h1,h2,rfl⟩⟩:=hr
      · dsimp only
        rw [if_pos (Or.inl (by omega)),if_pos (Or.inl (show y < 0 by omega))]
        cases o with
        | true => rw [if_pos ⟨rfl,Or.inl (by omega)⟩];exact ⟨hlt,hlt,Or.inr (Or.inl ⟨h0,h0,rfl⟩)⟩
        | false => rw [if_neg (by simp)];exact ⟨hx,hlt,Or.inr (Or.inr ⟨h1,h0,rfl⟩)⟩
      · dsimp only
        have hy' : (if y < 0∨ai < (rd_T34 l0 y).f2 then i else y) < (l0.length : Int)∧0≤(if y < 0∨ai < (rd_T34 l0 y).f2 then i else y):=by split <;> omega
        cases o with
        | true =>
          by_cases q : ai < (rd_T34 l0 x).f2
          · rw [if_pos (Or.inr (Or.inr ⟨rfl,q⟩)),if_pos ⟨rfl,Or.inr q⟩];exact ⟨hlt,hy'.1,Or.inr (Or.inl ⟨h0,hy'.2,rfl⟩)⟩
          · rw [if_neg (by simp;omega),if_neg (by simp;omega)];exact ⟨hx,hy'.1,Or.inr (Or.inl ⟨h1,hy'.2,rfl⟩)⟩
        | false => rw [if_neg (by simp;omega),if_neg (by simp)];exact ⟨hx,hy'.1,Or.inr (Or.inl ⟨h1,hy'.2,rfl⟩)⟩
      · dsimp only
        subst h1
        cases o with
        | true => rw [if_pos (Or.inr (Or.inl ⟨rfl,rfl⟩)),if_pos ⟨rfl,Or.inl (by omega)⟩];exact ⟨hlt,by split <;> omega,Or.inr (Or.inl ⟨h0,by split <;> omega,rfl⟩)⟩
        | false =>
          rw [if_neg (show ¬ (false = true∧_) by simp)]
          by_cases q : ai < (rd_T34 l0 y).f2
          · rw [if_pos (Or.inr (Or.inr ⟨rfl,q⟩)),if_pos (Or.inr q)];exact ⟨hx,hlt,Or.inr (Or.inr ⟨rfl,h0,rfl⟩)⟩
          · rw [if_neg (by simp;omega),if_neg (by omega)];exact ⟨hx,hy,Or.inr (Or.inr ⟨rfl,h2,rfl⟩)⟩
    · rw [if_pos c0]
      obtain ⟨K,hK⟩:=ih (i + 1) st x y (by omega) (by omega) hr
      refine ev1 (K + K3) (fun k hk => ?_)
      simp only [estoversref39_Next.l0]
      rw [if_pos hlt,if_pos h0,hK3 k (by omega)]
      simp only [Option.bind_some]
      rw [if_neg c0,wr64 (by omega) (by omega)]
      exact hK k (by omega)
theorem rNext_ok (h : AskSt l0 l1 s a b c) : Ev (fun k => estoversref39_Next.f k l0 l1 s kn) (nRun l0 s kn a b c l0.length 0 (-1,false)).1:=by
  obtain ⟨K,hK⟩:=quest_ok h
  obtain ⟨K2,hK2⟩:=leaving_ev h
  obtain ⟨K3,hK3⟩:=rNext_l0 (kn:=kn) h l0.length 0 (-1,false) (-1) (-1) (by omega) (by omega) ⟨by omega,by omega,Or.inl ⟨rfl,rfl,rfl⟩⟩
  dsimp only at hK hK2 hK3
  refine ev0 (K + K2 + K3) (fun k hk => ?_)
  unfold estoversref39_Next.f
  rw [hK _ (by omega)]
  simp only [Option.bind_some]
  rw [if_pos (by trivial),hK2 _ (by omega)]
  simp only [Option.bind_some]
  exact hK3 _ (by omega)
theorem rNext_bad (hn : l0.length < 1000000) (h : ¬ (pchk l0 l1 = 0∧ScOk (l1.length : Int) s)) : Ev (fun k => estoversref39_Next.f k l0 l1 s kn) (-1):=by
  obtain ⟨K,hK⟩:=quest_bad hn h
  refine ev0 K (fun k hk => ?_)
  dsimp only at hK
  unfold estoversref39_Next.f
  rw [hK _ (by omega)]
  rfl
end
theorem next_pure (l0 : List S34) (l1 : List S30) (s : Int) (kn : Bool) : ∃ k,estoverslaw39_ReclaimplanNext.f k l0 l1 s kn = some true:=by
  obtain ⟨K,hK⟩:=awake_ev
  dsimp only at hK
  by_cases c : l0.length≤300∧l1.length≤40
  · have key : ∃ r,Ev (fun k => reclaimplan_Next.f k l0 l1 s kn) r∧Ev (fun k => estoversref39_Next.f k l0 l1 s kn) r:=by
      rcases ask_cases l0 l1 s (by omega) with ⟨a,b,c,h1,h2⟩ | ⟨h,e,h1,h2,_⟩
      · exact ⟨_,Next_ok h1,rNext_ok h2⟩
      · exact ⟨_,Next_bad h1 h2,rNext_bad (by omega) h⟩
    obtain ⟨r,⟨K1,H1⟩,⟨K2,H2⟩⟩:=key
    dsimp only at H1 H2
    refine ⟨K + K1 + K2 + 1,?_⟩
    unfold estoverslaw39_ReclaimplanNext.f estoverslaw39_Few.f
    rw [hK _ (by omega),few_f]
    simp only [Option.bind_some]
    rw [if_pos (by trivial)]
    simp only [estoverslaw39_ReclaimplanNext.j0]
    rw [decide_eq_true c,if_neg (by simp),H1 _ (by omega),H2 _ (by omega)]
    simp
  · refine ⟨K + 1,?_⟩
    unfold estoverslaw39_ReclaimplanNext.f estoverslaw39_Few.f
    rw [hK _ (by omega),few_f]
    simp only [Option.bind_some]
    rw [if_pos (by trivial)]
    simp only [estoverslaw39_ReclaimplanNext.j0]
    rw [decide_eq_false c,if_pos (by simp),hK _ (by omega)]
    rfl
end Go.Proofs.Ytnmenfkmndnoaaa.Pr
