/- Pages made of the own usages of the accounts. -/
import Derived.Test.YtnmenfkmndnoaaaTh
import Derived.Test.YtnmenfkmndnoaaaKfs
import Derived.Test.YtnmenfkmndnoaaaFestoverstopownPages
import Derived.Test.YtnmenfkmndnoaaaFestoverstoprestOf
set_option linter.unusedVariables false
set_option linter.unusedSimpArgs false
namespace Go.Proofs.Ytnmenfkmndnoaaa.Pr
open Go.RowKit Go.Proofs.YtnmenfkmndnoaaaW.PrintWords Go.Proofs.YtnmenfkmndnoaaaW.PrintLast Go.Proofs.YtnmenfkmndnoaaaW.PrintMore
def cntA (x : Int) : List S34→Int:=wsum (fun p => if p.f1 = x then 1 else 0)
theorem wsum_append (g : S34→Int) : ∀ x y : List S34,wsum g (x ++ y) = wsum g x + wsum g y
  | [],y => by simp [wsum]
  | p :: x,y => by rw [List.cons_append,wsum,wsum,wsum_append g x y];omega
def PgI (n : Int) (ps : List S34) : Prop:=∀ j,0≤j→j < (ps.length : Int)→(rd_T34 ps j).f0 = j∧0≤(rd_T34 ps j).f1∧(rd_T34 ps j).f1 < n∧(rd_T34 ps j).f2 = j∧(rd_T34 ps j).f3 = 0∧(rd_T34 ps j).f4 = -1
def own1 (c : Int) (ps : List S34) : S34:=⟨(ps.length : Int),c,(ps.length : Int),0,-1,true,false⟩
def addN (c : Int) : Nat→List S34→List S34
  | 0,ps => ps
  | d + 1,ps => addN c d (ps ++ [own1 c ps])
theorem rd34_append (ps : List S34) (q : S34) (j : Int) (h0 : 0≤j) (h1 : j < ((ps ++ [q]).length : Int)) : rd_T34 (ps ++ [q]) j = if j < (ps.length : Int) then rd_T34 ps j else q:=by
  obtain ⟨n,rfl⟩ : ∃ n : Nat,j = n:=⟨j.toNat,by omega⟩
  rw [rd34_get _ n (by omega)]
  simp only [List.length_append,List.length_cons,List.length_nil] at h1
  by_cases c : (n : Int) < (ps.length : Int)
  · rw [if_pos c,rd34_get ps n (by omega),List.getElem_append_left (by omega)]
  · rw [if_neg c,List.getElem_append_right (by omega)]
    simp
theorem addN_facts (n c : Int) (hc0 : 0≤c) (hc1 : c < n) : ∀ (d : Nat) (ps : List S34),PgI n ps→PgI n (addN c d ps)∧(addN c d ps).length = ps.length + d∧∀ x,cntA x (addN c d ps) = cntA x ps + (if x = c then (d : Int) else 0)
  | 0,ps,h => ⟨h,rfl,fun x => by simp [addN]⟩
  | d + 1,ps,h => by
    have h2 : PgI n (ps ++ [own1 c ps]):=by
      intro j h0 h1
      rw [rd34_append _ _ _ h0 h1]
      by_cases q : j < (ps.length : Int)
      · rw [if_pos q];exact h j h0 q
      · rw [if_neg q]
        simp only [List.length_append,List.length_cons,List.length_nil] at h1
        refine ⟨?_,hc0,hc1,?_,rfl,rfl⟩ <;> simp only [own1] <;> omega
    obtain ⟨a,b,e⟩:=addN_facts n c hc0 hc1 d _ h2
    refine ⟨a,by rw [addN,b];simp;omega,fun x => ?_⟩
    have e1 : cntA x (ps ++ [own1 c ps]) = cntA x ps + (if x = c then 1 else 0):=by
      unfold cntA
      rw [wsum_append]
      by_cases q : x = c
      · simp [wsum,own1,q]
      · have q2 : ¬ c = x:=fun h => q h.symm
        simp [wsum,own1,q,q2]
    rw [addN,e x,e1]
    by_cases q : x = c
    · rw [if_pos q,if_pos q,if_pos q];omega
    · rw [if_neg q,if_neg q,if_neg q];omega
theorem own_l1 (l : List S30) (c N m : Int) : ∀ (d : Nat) (t : Int) (ps : List S34),0≤t→t + d = m→m≤1000→ps.length + d < 1000000→∀ r,Ev (fun k => estoverstop_ownPages.l0 k l (addN c d ps) N (wrap64 (c + 1))) r→Ev (fun k => estoverstop_ownPages.l1 k l ps c N c m t) r:=by
  intro d
  induction d with
  | zero =>
    intro t ps h0 ht hm hl r ⟨K,hK⟩
    refine ev1 K (fun k hk => ?_)
    simp only [estoverstop_ownPages.l1]
    rw [if_neg (by omega)]
    exact hK k hk
  | succ d ih =>
    intro t ps h0 ht hm hl r hr
    obtain ⟨K,hK⟩:=ih (t + 1) (ps ++ [own1 c ps]) (by omega) (by omega) hm (by simp;omega) r hr
    refine ev1 K (fun k hk => ?_)
    simp only [estoverstop_ownPages.l1]
    rw [if_pos (by omega),if_pos (by omega),show wrap64 (t + 1) = t + 1 from wr64 (by omega) (by omega)]
    exact hK k hk
def ow (l : List S30) (x : Int) : Int:=if ownOf l x < 300 then ownOf l x else 300
theorem own_l0 (l : List S30) (hV : Valid l) : ∀ (d : Nat) (c : Int) (ps : List S34),0≤c→c + d = (l.length : Int)→PgI (l.length : Int) ps→(ps.length : Int)≤300 * c→(∀ x,0≤x→cntA x ps = if x < c then ow l x else 0)→∃ qs,Ev (fun k => estoverstop_ownPages.l0 k l ps (l.length : Int) c) qs∧(qs = []∨(qs.length≤256∧PgI (l.length : Int) qs∧∀ x,0≤x→x < (l.length : Int)→cntA x qs = ow l x)):=by
  have h8:=hV.len8
  intro d
  induction d with
  | zero =>
    intro c ps h0 hi hp hl hc
    by_cases q : (ps.length : Int) > 256
    · exact ⟨[],ev1 0 (fun k _ => by simp only [estoverstop_ownPages.l0];rw [if_neg (by omega),if_pos q]),Or.inl rfl⟩
    · exact ⟨ps,ev1 0 (fun k _ => by simp only [estoverstop_ownPages.l0];rw [if_neg (by omega),if_neg q]),Or.inr ⟨by omega,hp,fun x h1 h2 => by rw [hc x h1,if_pos (by omega)]⟩⟩
  | succ d ih =>
    intro c ps h0 hi hp hl hc
    have hlt : c < (l.length : Int):=by omega
    have hb:=ownOf_bd hV h0 hlt
    obtain ⟨K1,H1⟩:=ownRef_ev l hV c h0 hlt
    have hm : mx 0 (mn (ownOf l c) 300) = ow l c:=by unfold mx mn ow;split <;> split <;> first | rfl | omega
    have how : 0≤ow l c∧ow l c≤300:=by unfold ow;split <;> omega
    obtain ⟨a,b,e⟩:=addN_facts (l.length : Int) c h0 hlt (ow l c).toNat ps hp
    obtain ⟨qs,hq,hr⟩:=ih (c + 1) (addN c (ow l c).toNat ps) (by omega) (by omega) a (by omega) (fun x hx => by
      rw [e x,hc x hx]
      by_cases q : x = c
      · rw [if_pos q,if_neg (by omega),if_pos (by omega),q];omega
      · rw [if_neg q]
        by_cases q2 : x < c
        · rw [if_pos q2,if_pos (by omega)];omega
        · rw [if_neg q2,if_neg (by omega)];omega)
    obtain ⟨K2,H2⟩:=own_l1 l c (l.length : Int) (ow l c) (ow l c).toNat 0 ps (by omega) (by omega) (by omega) (by omega) qs (by rw [wr64 (by omega) (by omega)];exact hq)
    dsimp only at H1 H2
    refine ⟨qs,ev1 (K1 + K2) (fun k hk => ?_),hr⟩
    simp only [estoverstop_ownPages.l0]
    rw [if_pos hlt,H1 k (by omega)]
    simp only [Option.bind_some]
    rw [hm]
    exact H2 k (by omega)
theorem own_pages (l : List S30) (hV : Valid l) : ∃ qs,Ev (fun k => estoverstop_ownPages.f k l) qs∧(qs = []∨(qs.length≤256∧PgI (l.length : Int) qs∧∀ x,0≤x→x < (l.length : Int)→cntA x qs = ow l x)) :=
  own_l0 l hV l.length 0 [] (by omega) (by omega) (fun j h0 h1 => by simp at h1;omega) (by simp) (fun x hx => by rw [if_neg (by omega)];rfl)
theorem rest_l0 (l : List S30) (hV : Valid l) (y : List S34) (hyl : y.length≤300) (hy : ∀ p ∈ y,p.f1 < (l.length : Int)) : ∀ (d : Nat) (i rest : Int),0≤i→i + d = (y.length : Int)→-1000000≤rest - d→rest≤2000000→Ev (fun k => estoverstop_restOf.l0 k l 0 rest y (y.length : Int) i) (rest - wsum (gin l 0) (y.drop i.toNat)):=by
  intro d
  induction d with
  | zero =>
    intro i rest h0 hi h1 h2
    refine ev1 0 (fun k _ => ?_)
    simp only [estoverstop_restOf.l0]
    rw [if_neg (by omega),List.drop_eq_nil_of_le (by omega)]
    simp [wsum]
  | succ d ih =>
    intro i rest h0 hi h1 h2
    have hlt : i < (y.length : Int):=by omega
    have hpg:=hy _ (rd34_mem y i h0 hlt)
    rw [drop_rd34 y i h0 hlt]
    simp only [wsum]
    have j1 : ∀ b : Bool,gin l 0 (rd_T34 y i) = (if b = true then 1 else 0)→∃ K,∀ k,K≤k→estoverstop_restOf.j1 k l 0 rest y (y.length : Int) i b = some (rest - (gin l 0 (rd_T34 y i) + wsum (gin l 0) (y.drop (i + 1).toNat))):=by
      intro b hb
      rw [hb]
      cases b with
      | true =>
        obtain ⟨K,hK⟩:=ih (i + 1) (rest - 1) (by omega) (by omega) (by omega) (by omega)
        refine ⟨K + 1,fun k hk => ?_⟩
        obtain ⟨m,rfl⟩ : ∃ m,k = m + 1:=⟨k - 1,by omega⟩
        simp only [estoverstop_restOf.j1]
        rw [if_pos trivial,show wrap64 (i + 1) = i + 1 from wr64 (by omega) (by omega),show wrap64 (rest - 1) = rest - 1 from wr64 (by omega) (by omega),if_pos trivial]
        have:=hK m (by omega)
        dsimp only at this
        rw [this]
        congr 1
        omega
      | false =>
        obtain ⟨K,hK⟩:=ih (i + 1) rest (by omega) (by omega) (by omega) (by omega)
        refine ⟨K + 1,fun k hk => ?_⟩
        obtain ⟨m,rfl⟩ : ∃ m,k = m + 1:=⟨k - 1,by omega⟩
        simp only [estoverstop_restOf.j1]
        rw [if_neg Bool.false_ne_true,show wrap64 (i + 1) = i + 1 from wr64 (by omega) (by omega),if_neg Bool.false_ne_true]
        have:=hK m (by omega)
        dsimp only at this
        rw [this]
        congr 1
        omega
    cases h6 : (rd_T34 y i).f6 with
    | false =>
      obtain ⟨K,hK⟩:=j1 false (by unfold gin;rw [h6];simp)
      refine ev1 K (fun k hk => ?_)
      simp only [estoverstop_restOf.l0]
      rw [if_pos hlt,if_pos h0,if_pos hlt,h6,if_neg Bool.false_ne_true]
      exact hK k hk
    | true =>
      obtain ⟨b,⟨K2,H2⟩,hb⟩:=inside19_ev l (rd_T34 y i).f1 0
      dsimp only at H2
      obtain ⟨K,hK⟩:=j1 b (by
        unfold gin ind
        rw [h6]
        by_cases c1 : 0≤(rd_T34 y i).f1
        · rw [if_pos ⟨rfl,c1⟩]
          by_cases c2 : Anc l 0 (rd_T34 y i).f1
          · rw [if_pos c2,if_pos (hb.2 ⟨⟨hV,c1,hpg⟩,Or.inr c2⟩)]
          · rw [if_neg c2,if_neg (fun h => (hb.1 h).2.elim (fun h => by omega) c2)]
        · rw [if_neg (fun h => c1 h.2),if_neg (fun h => c1 (hb.1 h).1.2.1)])
      refine ev1 (K + K2) (fun k hk => ?_)
      simp only [estoverstop_restOf.l0]
      rw [if_pos hlt,if_pos h0,if_pos hlt,h6,if_pos rfl,H2 k (by omega)]
      simp only [Option.bind_some]
      exact hK k (by omega)
theorem rest_ev (l : List S30) (hV : Valid l) (y : List S34) (hyl : y.length≤300) (hy : ∀ p ∈ y,p.f1 < (l.length : Int)) : Ev (fun k => estoverstop_restOf.f k y l 0) ((rd_T30 l 0).f1 - wsum (gin l 0) y):=by
  have hl:=hV.len1
  have hu:=(hV.amts 0 (by omega) (by omega)).1
  unfold amt at hu
  obtain ⟨K,hK⟩:=rest_l0 l hV y hyl hy y.length 0 (rd_T30 l 0).f1 (by omega) (by omega) (by omega) (by omega)
  refine ev0 K (fun k hk => ?_)
  unfold estoverstop_restOf.f
  rw [if_pos (by omega),if_pos (by omega)]
  exact hK k hk
end Go.Proofs.Ytnmenfkmndnoaaa.Pr
