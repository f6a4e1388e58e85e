/- The plain statement of ReclaimplanFloors. -/
import Derived.Test.YtnmenfkmndnoaaaKf
import Derived.Test.YtnmenfkmndnoaaaFestoverslaw39ReclaimplanFloors
set_option linter.unusedVariables false
set_option linter.unusedSimpArgs false
namespace Go.Proofs.Ytnmenfkmndnoaaa.Pr
open Go.RowKit Go.Proofs.YtnmenfkmndnoaaaW.PrintWords Go.Proofs.YtnmenfkmndnoaaaW.PrintLast Go.Proofs.YtnmenfkmndnoaaaW.PrintMore
section
variable (l0 : List S34) (l1 : List S30) (s : Int) (kn : Bool) (u N t : Int)
theorem floors_l2 (V : Valid l1) (y : List S34) (hyl : y.length≤300) (hy : ∀ p ∈ y,PgOk (l1.length : Int) p) (x : Int) (hx0 : 0 < x) (hx1 : x < (l1.length : Int)) (hc : Ev (fun k => estoverslaw39_ReclaimplanFloors.l1 k y u (rd_T30 l1 x).f0 N t l0 l1 s kn) true) :
    ∀ (d : Nat) (i rest : Int),0≤i→i + d = (y.length : Int)→rest≤1048576→(rd_T30 l1 x).f2≤rest - wsum (gin l1 x) (y.drop i.toNat)→Ev (fun k => estoverslaw39_ReclaimplanFloors.l2 k y u x rest N t y (y.length : Int) i l0 l1 s kn) true:=by
  have hm:=(V.amts x (by omega) hx1).2.1
  unfold amt at hm
  intro d
  induction d with
  | zero =>
    intro i rest h0 hi hr1 hr2
    obtain ⟨K,hK⟩:=hc
    dsimp only at hK
    rw [List.drop_eq_nil_of_le (by omega)] at hr2
    simp only [wsum] at hr2
    refine ev1 K (fun k hk => ?_)
    simp only [estoverslaw39_ReclaimplanFloors.l2]
    rw [if_neg (by omega),if_pos (by omega),if_pos hx1,if_neg (by omega)]
    exact hK k hk
  | succ d ih =>
    intro i rest h0 hi hr1 hr2
    have hlt : i < (y.length : Int):=by omega
    have hpg:=hy _ (rd34_mem y i h0 hlt)
    rw [drop_rd34 y i h0 hlt] at hr2
    simp only [wsum] at hr2
    have hw:=(wsum_bd (gin_bd l1 x) (y.drop (i + 1).toNat)).1
    have hg:=gin_bd l1 x (rd_T34 y i)
    have j6 : ∀ b : Bool,gin l1 x (rd_T34 y i) = (if b = true then 1 else 0)→∃ K,∀ k,K≤k→estoverslaw39_ReclaimplanFloors.j6 k y u x rest N t y (y.length : Int) i b l0 l1 s kn = some true:=by
      intro b hb
      rw [hb] at hr2
      cases b with
      | true =>
        rw [if_pos rfl] at hr2
        obtain ⟨K,hK⟩:=ih (i + 1) (rest - 1) (by omega) (by omega) (by omega) (by omega)
        refine ⟨K + 1,fun k hk => ?_⟩
        obtain ⟨m,rfl⟩ : ∃ m,k = m + 1:=⟨k - 1,by omega⟩
        simp only [estoverslaw39_ReclaimplanFloors.j6]
        rw [if_pos trivial,show wrap64 (i + 1) = i + 1 from wr64 (by omega) (by omega),show wrap64 (rest - 1) = rest - 1 from wr64 (by omega) (by omega)]
        exact hK m (by omega)
      | false =>
        rw [if_neg Bool.false_ne_true] at hr2
        obtain ⟨K,hK⟩:=ih (i + 1) rest (by omega) (by omega) (by omega) (by omega)
        refine ⟨K + 1,fun k hk => ?_⟩
        obtain ⟨m,rfl⟩ : ∃ m,k = m + 1:=⟨k - 1,by omega⟩
        simp only [estoverslaw39_ReclaimplanFloors.j6]
        rw [if_neg Bool.false_ne_true,show wrap64 (i + 1) = i + 1 from wr64 (by omega) (by omega)]
        exact hK m (by omega)
    cases h6 : (rd_T34 y i).f6 with
    | false =>
      obtain ⟨K,hK⟩:=j6 false (by unfold gin;rw [h6];simp)
      refine ev1 K (fun k hk => ?_)
      simp only [estoverslaw39_ReclaimplanFloors.l2]
      rw [if_pos hlt,if_pos h0,if_pos hlt,h6,if_neg Bool.false_ne_true]
      exact hK k hk
    | true =>
      obtain ⟨b,⟨K2,H2⟩,hb⟩:=inside19_ev l1 (rd_T34 y i).f1 x
      dsimp only at H2
      obtain ⟨K,hK⟩:=j6 b (by
        unfold gin ind
        rw [h6]
        by_cases c1 : 0≤(rd_T34 y i).f1
        · rw [if_pos ⟨rfl,c1⟩]
          by_cases c2 : Anc l1 x (rd_T34 y i).f1
          · rw [if_pos c2,if_pos (hb.2 ⟨⟨V,c1,hpg.2.2.2.1⟩,Or.inr c2⟩)]
          · rw [if_neg c2,if_neg (fun h => (hb.1 h).2.elim (fun h => by omega) c2)]
        · rw [if_neg (fun h => c1 h.2),if_neg (fun h => c1 (hb.1 h).1.2.1)])
      refine ev1 (K + K2) (fun k hk => ?_)
      simp only [estoverslaw39_ReclaimplanFloors.l2]
      rw [if_pos hlt,if_pos h0,if_pos hlt,h6,if_pos rfl,H2 k (by omega)]
      simp only [Option.bind_some]
      exact hK k (by omega)
theorem floors_l1 (V : Valid l1) (y : List S34) (hyl : y.length≤300) (hy : ∀ p ∈ y,PgOk (l1.length : Int) p) (a : Int) (ha : a < (l1.length : Int))
    (hfl : ∀ x,0 < x→x < (l1.length : Int)→mx s 0 < x→Anc l1 x a→(rd_T30 l1 x).f2≤(rd_T30 l1 x).f1 - wsum (gin l1 x) y)
    (hc : Ev (fun k => estoverslaw39_ReclaimplanFloors.l0 k y u N (wrap64 (t + 1)) l0 l1 s kn) true) : ∀ x,0≤x→x < (l1.length : Int)→Anc l1 (mx s 0) x→Anc l1 x a→Ev (fun k => estoverslaw39_ReclaimplanFloors.l1 k y u x N t l0 l1 s kn) true:=by
  have stop : ∀ k,(∃ K,(∀ k,K≤k→estoverslaw39_ReclaimplanFloors.l0 k y u N (wrap64 (t + 1)) l0 l1 s kn = some true)∧K + 1≤k)→∀ x,estoverslaw39_ReclaimplanFloors.j4 k y u x N t false l0 l1 s kn = some true:=by
    rintro k ⟨K,hK,hk⟩ x
    obtain ⟨m,rfl⟩ : ∃ m,k = m + 1:=⟨k - 1,by omega⟩
    simp only [estoverslaw39_ReclaimplanFloors.j4]
    rw [if_neg Bool.false_ne_true]
    exact hK m (by omega)
  refine up_ind V.tree (P:=fun x => Anc l1 (mx s 0) x→Anc l1 x a→Ev (fun k => estoverslaw39_ReclaimplanFloors.l1 k y u x N t l0 l1 s kn) true) (fun _ _ => ?_) ?_
  · obtain ⟨K,hK⟩:=hc
    refine ev1 (K + 1) (fun k hk => ?_)
    simp only [estoverslaw39_ReclaimplanFloors.l1]
    rw [if_neg (by omega)]
    exact stop k ⟨K,hK,hk⟩ 0
  · intro x h0 h1 hp0 hp1 ih he hx
    by_cases cs : x = s
    · obtain ⟨K,hK⟩:=hc
      refine ev1 (K + 1) (fun k hk => ?_)
      simp only [estoverslaw39_ReclaimplanFloors.l1]
      rw [if_pos (by omega),if_pos h1,show (x != s) = false by simp [cs]]
      exact stop k ⟨K,hK,hk⟩ x
    · have hne : mx s 0≠x:=by unfold mx;split <;> omega
      have hle:=he.le V.tree h1
      have he2 : Anc l1 (mx s 0) (rd_T30 l1 x).f0:=by
        rcases anc_iff.1 he with h | h
        · exact absurd h hne
        · exact h.2
      have hu:=(V.amts x (by omega) h1).1
      unfold amt at hu
      obtain ⟨K,hK⟩:=floors_l2 l0 l1 s kn u N t V y hyl hy x h0 h1 (ih he2 (anc_par hx h0)) y.length 0 (rd_T30 l1 x).f1 (by omega) (by omega) (by omega) (by simpa using hfl x h0 h1 (by omega) hx)
      dsimp only at hK
      refine ev1 (K + 1) (fun k hk => ?_)
      obtain ⟨m,rfl⟩ : ∃ m,k = m + 1:=⟨k - 1,by omega⟩
      simp only [estoverslaw39_ReclaimplanFloors.l1,estoverslaw39_ReclaimplanFloors.j4]
      rw [if_pos (by omega),if_pos h1,show (x != s) = true by simp [cs],if_pos rfl,if_pos (by omega),if_pos h1]
      exact hK m (by omega)
end
def gN (p : S34) : Int:=if p.f6 = true then 0 else 1
theorem gN_bd (p : S34) : 0≤gN p∧gN p≤1:=by unfold gN;split <;> omega
def goes (p : S34) : S34:=⟨p.f0,p.f1,p.f2,p.f3,p.f4,p.f5,true⟩
theorem pchk_goes {ps : List S34} {l1 : List S30} (h : pchk ps l1 = 0) (i : Int) (h0 : 0≤i) (h1 : i < (ps.length : Int)) : pchk (ps.set i.toNat (goes (rd_T34 ps i))) l1 = 0:=by
  rw [pchk_zero] at h ⊢
  refine ⟨h.1,fun j h2 h3 => ?_⟩
  rw [List.length_set] at h3
  have hf : ∀ y,0≤y→(rd_T34 (ps.set i.toNat (goes (rd_T34 ps i))) y).f0 = (rd_T34 ps y).f0:=by
    intro y hy
    rw [rd34_set _ _ _ _ h0 h1 hy]
    split
    · rename_i e;rw [e];rfl
    · rfl
  have hl : lastAt (ps.set i.toNat (goes (rd_T34 ps i))) j = lastAt ps j:=by
    unfold lastAt
    split
    · exact hf _ (by omega)
    · rfl
  have hj:=h.2 j h2 h3
  rw [hl,hf j h2,rd34_set _ _ _ _ h0 h1 h2]
  refine ⟨?_,hj.2⟩
  by_cases e : j = i
  · rw [if_pos e,← e]
    obtain ⟨⟨q1,q2,q3,q4,q5,q6,q7,q8,q9⟩,_⟩:=hj
    exact ⟨q1,q2,q3,q4,q5,q6,q7,q8,fun h => by have:=h.2.1;simp [goes] at this⟩
  · rw [if_neg e];exact hj.1
theorem reason_zero {n s : Int} {kn : Bool} {a b : List Bool} {p : S34} (hp : PgOk n p) (h : qReason s kn a b p = 0) : qOut s a p = false∧(kn = false∨p.f5 = true)∧p.f6 = false∧p.f3 = 0∧qGua b p = false:=by
  unfold qReason at h
  by_cases ho : qOut s a p = true
  · rw [if_pos ho] at h;omega
  · rw [if_neg ho] at h
    by_cases hz : (kn && !p.f5) = true
    · rw [if_pos hz] at h;omega
    · rw [if_neg hz] at h
      by_cases h6 : p.f6 = true
      · rw [if_pos h6] at h;omega
      · rw [if_neg h6] at h
        by_cases c3 : ¬ p.f3 = 0∧¬ p.f3 = 8
        · rw [if_pos c3] at h;omega
        · rw [if_neg c3] at h
          by_cases hg : qGua b p = true
          · rw [if_pos hg] at h;omega
          · rw [if_neg hg] at h
            refine ⟨by simpa using ho,?_,by simpa using h6,h,by simpa using hg⟩
            revert hz
            cases kn <;> cases p.f5 <;> simp
theorem floors_l0 (l0 : List S34) (l1 : List S30) (s : Int) (kn : Bool) (N : Int) : ∀ (d : Nat) (ps : List S34) (u i : Int),ps.length≤300→wsum gN ps≤d→0≤i→i + d < N→N≤301→Ev (fun k => reclaimplan_Useful.f k ps l1 s kn) u→Ev (fun k => estoverslaw39_ReclaimplanFloors.l0 k ps u N i l0 l1 s kn) true:=by
  intro d
  induction d with
  | zero =>
    intro ps u i hl hn h0 hi hN hu
    have hx : Ev (fun k => reclaimplan_Next.f k ps l1 s kn) (-1):=by
      rcases ask_cases ps l1 s (by omega) with ⟨a,b,c,h1,h2⟩ | ⟨h,e,h1,h2,_⟩
      · have:=Next_ok (kn:=kn) h1
        by_cases c2 : 0≤(nRun ps s kn a b c ps.length 0 (-1,false)).1
        · obtain ⟨p,hp,h3⟩:=next_pos ps s kn a b c c2
          have h4:=reason_zero (h2.pages p hp) h3
          have h5:=wsum_pos (fun p => (gN_bd p).1) ps p hp
          have h6 : gN p = 1:=by unfold gN;rw [h4.2.2.1];rfl
          omega
        · rw [(next_neg ps s kn a b c (by omega)).1] at this;exact this
      · exact Next_bad h1 h2
    obtain ⟨K,hK⟩:=hx
    dsimp only at hK
    refine ev1 K (fun k hk => ?_)
    simp only [estoverslaw39_ReclaimplanFloors.l0]
    rw [if_pos (by omega),hK k hk]
    rfl
  | succ d ih =>
    intro ps u i hl hn h0 hi hN hu
    have neg : Ev (fun k => reclaimplan_Next.f k ps l1 s kn) (-1)→Ev (fun k => estoverslaw39_ReclaimplanFloors.l0 k ps u N i l0 l1 s kn) true:=by
      rintro ⟨K,hK⟩
      dsimp only at hK
      refine ev1 K (fun k hk => ?_)
      simp only [estoverslaw39_ReclaimplanFloors.l0]
      rw [if_pos (by omega),hK k hk]
      rfl
    rcases ask_cases ps l1 s (by omega) with ⟨a,b,c,h1,h2⟩ | ⟨h,e,h1,h2,_⟩
    · have hN1:=Next_ok (kn:=kn) h1
      have hsp:=nRun_spec ps s kn a b c
      have hneg:=next_neg ps s kn a b c
      generalize nRun ps s kn a b c ps.length 0 (-1,false) = st at hN1 hsp hneg
      by_cases c2 : 0≤st.1
      · obtain ⟨n1,n2⟩ : st.1 < (ps.length : Int)∧qReason s kn a b (rd_T34 ps st.1) = 0:=by
          rcases hsp with ⟨rfl,_⟩ | ⟨_,h3,h4,_⟩
          · exact absurd c2 (by decide)
          · exact ⟨h3,h4⟩
        have hpm:=rd34_mem ps st.1 c2 n1
        have hpg:=h2.pages _ hpm
        have hrz:=reason_zero hpg n2
        have hV:=h2.valid
        have hz2:=pchk_goes h2.zero st.1 c2 n1
        have hyl : (ps.set st.1.toNat (goes (rd_T34 ps st.1))).length = ps.length:=List.length_set
        obtain ⟨a',b',c',h3,h4⟩:=ask_ok_ev (ps.set st.1.toNat (goes (rd_T34 ps st.1))) l1 s (by omega) hz2 h2.sc
        have hu1:=ev_uniq hu (Useful_ok (kn:=kn) h1)
        have hu2:=Useful_ok (kn:=kn) h3
        rw [useful_sum] at hu1 hu2
        have hga : ∀ p,PgOk (l1.length : Int) p→gU s kn a' p = gU s kn a p:=by
          intro p hp
          have : qOut s a' p = qOut s a p:=by
            unfold qOut
            by_cases q1 : p.f1 < 0
            · rw [decide_eq_true q1];rfl
            · rw [show rdOf false a' p.f1 = rdOf false a p.f1 by rw [Bool.eq_iff_iff,h4.ins _ (by omega) hp.2.2.2.1,h2.ins _ (by omega) hp.2.2.2.1]]
          unfold gU
          rw [this]
        have hu3 : (0 : Int) + wsum (gU s kn a') (ps.set st.1.toNat (goes (rd_T34 ps st.1))) = u + 1:=by
          rw [wsum_congr _ (fun p hp => hga p (h4.pages p hp)),wsum_set _ _ _ _ c2 n1,hu1]
          have e1 : gU s kn a (rd_T34 ps st.1) = 0:=by unfold gU;rw [hrz.2.2.1];rfl
          have e2 : gU s kn a (goes (rd_T34 ps st.1)) = 1:=by unfold gU;rw [if_pos ⟨rfl,hrz.1,hrz.2.1⟩]
          omega
        rw [hu3] at hu2
        have hub:=wsum_bd (gU_bd s kn a) ps
        have hng : wsum gN (ps.set st.1.toNat (goes (rd_T34 ps st.1)))≤d:=by
          rw [wsum_set _ _ _ _ c2 n1]
          have e1 : gN (rd_T34 ps st.1) = 1:=by unfold gN;rw [hrz.2.2.1];rfl
          have e2 : gN (goes (rd_T34 ps st.1)) = 0:=rfl
          omega
        have hc:=ih _ (u + 1) (i + 1) (by omega) hng (by omega) (by omega) hN hu2
        have ew : wrap64 (i + 1) = i + 1:=wr64 (by omega) (by omega)
        have eu : wrap64 (u + 1) = u + 1:=wr64 (by omega) (by omega)
        have hrd : (rd_T34 (ps.set st.1.toNat (goes (rd_T34 ps st.1))) st.1).f1 = (rd_T34 ps st.1).f1:=by rw [rd34_set _ _ _ _ c2 n1 c2,if_pos rfl];rfl
        have hw : Ev (fun k => estoverslaw39_ReclaimplanFloors.l1 k (ps.set st.1.toNat (goes (rd_T34 ps st.1))) (u + 1) (rd_T34 ps st.1).f1 N i l0 l1 s kn) true:=by
          by_cases q1 : 0≤(rd_T34 ps st.1).f1
          · obtain ⟨q,_,_,hq,_⟩:=sums_ev l1 _ h2.lvOk
            have hgd : ¬ Gd l1 q (mx s 0) false (rd_T34 ps st.1).f1:=by
              rw [← h2.gdq q hq _ q1 hpg.2.2.2.1]
              have:=hrz.2.2.2.2
              unfold qGua at this
              rw [decide_eq_true q1,Bool.true_and] at this
              rw [this];simp
            have hge : Anc l1 (mx s 0) (rd_T34 ps st.1).f1:=Classical.byContradiction fun h => hgd (Or.inr h)
            refine floors_l1 l0 l1 s kn (u + 1) N i hV _ (by omega) h4.pages _ hpg.2.2.2.1 (fun x x0 x1 x2 x3 => ?_) (by rw [ew];exact hc) _ q1 hpg.2.2.2.1 hge Anc.here
            have hng2 : ¬ GP l1 q false x:=fun h => hgd (Or.inl ⟨x,x3,x2,h⟩)
            unfold GP at hng2
            rw [if_neg Bool.false_ne_true,lin_eq hV ps (by omega) (fun p hp => (h2.pages p hp).2.2.2.1) hq x (by omega) x1] at hng2
            rw [wsum_set _ _ _ _ c2 n1]
            have e1 : gin l1 x (rd_T34 ps st.1) = 0:=by unfold gin;rw [hrz.2.2.1];rfl
            have e2:=(gin_bd l1 x (goes (rd_T34 ps st.1))).2
            omega
          · obtain ⟨K,hK⟩:=hc
            dsimp only at hK
            refine ev1 (K + 1) (fun k hk => ?_)
            obtain ⟨m,rfl⟩ : ∃ m,k = m + 1:=⟨k - 1,by omega⟩
            simp only [estoverslaw39_ReclaimplanFloors.l1,estoverslaw39_ReclaimplanFloors.j4]
            rw [if_neg (by omega),if_neg Bool.false_ne_true,ew]
            exact hK m (by omega)
        obtain ⟨K1,H1⟩:=hN1
        obtain ⟨K2,H2⟩:=hu2
        obtain ⟨K3,H3⟩:=hw
        dsimp only at H1 H2 H3
        refine ev1 (K1 + K2 + K3 + 1) (fun k hk => ?_)
        obtain ⟨m,rfl⟩ : ∃ m,k = m + 1:=⟨k - 1,by omega⟩
        simp only [estoverslaw39_ReclaimplanFloors.l0]
        rw [if_pos (by omega),H1 _ (by omega)]
        simp only [Option.bind_some]
        rw [if_neg (by omega),if_neg (by omega),if_pos c2,if_pos n1,hrz.2.2.1,if_neg Bool.false_ne_true,hrz.2.2.2.1]
        simp only [estoverslaw39_ReclaimplanFloors.j2]
        rw [if_neg (by decide),if_pos c2,if_pos n1,Option.bind_some]
        have H2:=H2 m (by omega)
        have H3:=H3 m (by omega)
        rw [← hrd] at H3
        unfold goes at H2 H3
        rw [hrz.2.2.2.1] at H2 H3
        rw [hrz.2.2.2.1,H2]
        simp only [Option.bind_some]
        rw [eu,if_pos rfl]
        exact H3
      · refine neg ?_
        rw [(hneg (by omega)).1] at hN1
        exact hN1
    · exact neg (Next_bad h1 h2)
theorem floors_pure (l0 : List S34) (l1 : List S30) (s : Int) (kn : Bool) : ∃ k,estoverslaw39_ReclaimplanFloors.f k l0 l1 s kn = some true:=by
  obtain ⟨K,hK⟩:=awake_ev
  dsimp only at hK
  have jt : ∀ k,K + 1≤k→estoverslaw39_ReclaimplanFloors.j0 k true l0 l1 s kn = some true:=by
    intro k hk
    obtain ⟨m,rfl⟩ : ∃ m,k = m + 1:=⟨k - 1,by omega⟩
    simp only [estoverslaw39_ReclaimplanFloors.j0]
    rw [if_pos trivial,hK m (by omega)]
    rfl
  by_cases c : l0.length≤300∧l1.length≤40
  · obtain ⟨K1,H1⟩:=check19_ev l1
    dsimp only at H1
    by_cases c2 : chk l1 = 0
    · obtain ⟨u,hu⟩ : ∃ u,Ev (fun k => reclaimplan_Useful.f k l0 l1 s kn) u:=by
        rcases ask_cases l0 l1 s (by omega) with ⟨a,b,c,h1,h2⟩ | ⟨h,e,h1,h2,_⟩
        · exact ⟨_,Useful_ok h1⟩
        · exact ⟨_,Useful_bad h1 h2⟩
      obtain ⟨K3,H3⟩:=floors_l0 l0 l1 s kn ((l0.length : Int) + 1) l0.length l0 u 0 c.1 (wsum_bd gN_bd l0).2 (by omega) (by omega) (by omega) hu
      obtain ⟨K2,H2⟩:=hu
      dsimp only at H2 H3
      have hj : ∀ m,K2 + K3≤m→estoverslaw39_ReclaimplanFloors.j0 (m + 1) false l0 l1 s kn = some true:=by
        intro m hm
        simp only [estoverslaw39_ReclaimplanFloors.j0]
        rw [if_neg Bool.false_ne_true,Option.bind_some,if_pos (by simp;omega),Option.bind_some,List.nil_append,H2 m (by omega),Option.bind_some,show wrap64 ((l0.length : Int) + 1) = (l0.length : Int) + 1 from wr64 (by omega) (by omega)]
        exact H3 m (by omega)
      refine ⟨K + K1 + K2 + K3 + 2,?_⟩
      unfold estoverslaw39_ReclaimplanFloors.f estoverslaw39_Few.f
      rw [hK _ (by omega),few_f]
      simp only [Option.bind_some]
      rw [if_pos (by trivial),decide_eq_true c,if_pos (by trivial),H1 _ (by omega),Option.bind_some,c2]
      exact hj _ (by omega)
    · refine ⟨K + K1 + 2,?_⟩
      unfold estoverslaw39_ReclaimplanFloors.f estoverslaw39_Few.f
      rw [hK _ (by omega),few_f]
      simp only [Option.bind_some]
      rw [if_pos (by trivial),decide_eq_true c,if_pos (by trivial),H1 _ (by omega)]
      simp only [Option.bind_some]
      rw [show (chk l1 != 0) = true by simpa using c2]
      exact jt _ (by omega)
  · refine ⟨K + 2,?_⟩
    unfold estoverslaw39_ReclaimplanFloors.f estoverslaw39_Few.f
    rw [hK _ (by omega),few_f]
    simp only [Option.bind_some]
    rw [if_pos (by trivial),decide_eq_false c,if_neg (by simp)]
    exact jt _ (by omega)
end Go.Proofs.Ytnmenfkmndnoaaa.Pr
