/- The plain statement of TopShortageOpens. -/
import Derived.Test.YtnmenfkmndnoaaaTis
import Derived.Test.YtnmenfkmndnoaaaKgs
import Derived.Test.YtnmenfkmndnoaaaFestoverstopTopShortageOpens
set_option linter.unusedVariables false
set_option linter.unusedSimpArgs false
namespace Go.Proofs.Ytnmenfkmndnoaaa.Pr
open Go.RowKit Go.Proofs.YtnmenfkmndnoaaaW.PrintWords Go.Proofs.YtnmenfkmndnoaaaW.PrintLast Go.Proofs.YtnmenfkmndnoaaaW.PrintMore
def gN (p : S34) : Int:=if p.f6 = true then 0 else 1
theorem gN_bd (p : S34) : 0≤gN p∧gN p≤1:=by unfold gN;split <;> omega
def goes (p : S34) : S34:=⟨p.f0,p.f1,p.f2,p.f3,p.f4,p.f5,true⟩
theorem pchk_pgI {l : List S30} (hV : Valid l) {ps : List S34} (h : PgI (l.length : Int) ps) (hl : ps.length≤256) : pchk ps l = 0:=by
  rw [pchk_zero]
  refine ⟨hV,fun j h0 h1 => ?_⟩
  obtain ⟨a,b,c,d,e,f⟩:=h j h0 h1
  have hla : lastAt ps j < (rd_T34 ps j).f0:=by
    unfold lastAt
    split
    · rw [(h (j - 1) (by omega) (by omega)).1,a];omega
    · omega
  exact ⟨⟨by omega,by omega,by omega,by omega,by omega,by omega,by omega,by omega,by unfold pgForm;omega⟩,hla⟩
theorem pgI_goes {n : Int} {ps : List S34} (h : PgI n ps) (i : Int) (h0 : 0≤i) (h1 : i < (ps.length : Int)) : PgI n (ps.set i.toNat (goes (rd_T34 ps i))):=by
  intro j h2 h3
  rw [List.length_set] at h3
  rw [rd34_set _ _ _ _ h0 h1 h2]
  by_cases c : j = i
  · rw [if_pos c,c];exact h i h0 h1
  · rw [if_neg c];exact h j h2 h3
theorem cntA_goes (x : Int) {ps : List S34} (i : Int) (h0 : 0≤i) (h1 : i < (ps.length : Int)) : cntA x (ps.set i.toNat (goes (rd_T34 ps i))) = cntA x ps:=by
  unfold cntA
  rw [wsum_set _ _ _ _ h0 h1]
  have : (goes (rd_T34 ps i)).f1 = (rd_T34 ps i).f1:=rfl
  rw [this]
  omega
theorem lcnt_le (x : Int) : ∀ ps : List S34,lcnt x ps≤cntA x ps
  | [] => by simp [lcnt,cntA,wsum]
  | p :: ps => by
    have:=lcnt_le x ps
    unfold cntA at this ⊢
    simp only [lcnt,wsum]
    by_cases c : p.f1 = x
    · rw [if_pos c];split <;> omega
    · rw [if_neg c,if_neg (fun h => c h.2)];omega
theorem lcnt_lt (x : Int) : ∀ ps : List S34,lcnt x ps < cntA x ps→∃ p ∈ ps,p.f1 = x∧p.f6 = false
  | [],h => by simp [lcnt,cntA,wsum] at h
  | p :: ps,h => by
    by_cases c : p.f1 = x∧p.f6 = false
    · exact ⟨p,List.mem_cons_self,c⟩
    · have : lcnt x ps < cntA x ps:=by
        unfold cntA at h ⊢
        simp only [lcnt,wsum] at h
        by_cases c1 : p.f1 = x
        · have : p.f6 = true:=by
            cases e : p.f6 with
            | true => rfl
            | false => exact absurd ⟨c1,e⟩ c
          rw [if_pos c1,if_pos ⟨this,c1⟩] at h;omega
        · rw [if_neg c1,if_neg (fun h => c1 h.2)] at h;omega
      obtain ⟨q,h1,h2⟩:=lcnt_lt x ps this
      exact ⟨q,List.mem_cons_of_mem _ h1,h2⟩
theorem short_rest {l : List S30} {fr : Int} (hV : Valid l) (hno : NoOver l fr) {ps : List S34} (hl : ps.length≤256) (hI : PgI (l.length : Int) ps) (hc : ∀ x,0≤x→x < (l.length : Int)→cntA x ps = ownOf l x) {a b c : List Bool} (h2 : AskSt ps l (-1) a b c) (hq : ∀ p ∈ ps,qReason (-1) false a b p≠0) : (rd_T30 l 0).f1 - wsum (gin l 0) ps≤fr:=by
  have hlen1:=hV.len1
  have hps : ∀ p ∈ ps,p.f1 < (l.length : Int):=fun p hp => (h2.pages p hp).2.2.2.1
  obtain ⟨q,_,_,hIn,_⟩:=sums_ev l _ h2.lvOk
  refine Classical.byContradiction fun hr => ?_
  have hlin:=lin_eq hV ps (by omega) hps hIn 0 (by omega) (by omega)
  obtain ⟨j,j0,j1,_,ht,hg⟩:=takes_exists hV h2.lvOk hIn (fun j h0 h1 => by
    rw [lvOf_rd _ ps (by omega) hps j h0 h1,← hc j h0 h1];exact lcnt_le j ps) hno l.length 0 (by omega) (by omega) (by omega) (by
      rw [if_pos rfl,hlin];unfold uu;omega)
  rw [lvOf_rd _ ps (by omega) hps j j0 j1,← hc j j0 j1] at ht
  obtain ⟨p,hp,hp1,hp6⟩:=lcnt_lt j ps ht
  refine hq p hp ?_
  obtain ⟨m,m0,m1,rfl⟩:=mem_rd34 hp
  have h3:=(hI m m0 m1).2.2.2.2.1
  have hb : rdOf false b (rd_T34 ps m).f1 = false:=by
    rw [hp1]
    cases e : rdOf false b j with
    | false => rfl
    | true => exact absurd ((h2.gdq q hIn j j0 j1).1 e) (by rw [show mx (-1) 0 = mx 0 0 by unfold mx;rfl];exact hg)
  unfold qReason qOut qGua
  rw [hb,hp6,h3]
  simp
theorem short_l0 (l : List S30) (fr : Int) (hV : Valid l) (hno : NoOver l fr) (N : Int) : ∀ (d : Nat) (ps : List S34) (i : Int),ps.length≤256→PgI (l.length : Int) ps→(∀ x,0≤x→x < (l.length : Int)→cntA x ps = ownOf l x)→wsum gN ps≤d→0≤i→i + d < N→N≤301→Ev (fun k => estoverstop_TopShortageOpens.l0 k l fr ps N i) true:=by
  have hlen1:=hV.len1
  have main : ∀ (d : Nat),(∀ d' : Nat,d' + 1 = d→∀ (ps : List S34) (i : Int),ps.length≤256→PgI (l.length : Int) ps→(∀ x,0≤x→x < (l.length : Int)→cntA x ps = ownOf l x)→wsum gN ps≤d'→0≤i→i + d' < N→N≤301→Ev (fun k => estoverstop_TopShortageOpens.l0 k l fr ps N i) true)→∀ (ps : List S34) (i : Int),ps.length≤256→PgI (l.length : Int) ps→(∀ x,0≤x→x < (l.length : Int)→cntA x ps = ownOf l x)→wsum gN ps≤d→0≤i→i + d < N→N≤301→Ev (fun k => estoverstop_TopShortageOpens.l0 k l fr ps N i) true:=by
    intro d ih ps i hl hI hc hn h0 hi hN
    obtain ⟨a,b,c,h1,h2⟩:=ask_ok_ev ps l (-1) (by omega) (pchk_pgI hV hI hl) ⟨by omega,by omega⟩
    obtain ⟨K1,H1⟩:=rest_ev l hV ps (by omega) (fun p hp => (h2.pages p hp).2.2.2.1)
    have hN1:=Next_ok (kn:=false) h1
    have hsp:=nRun_spec ps (-1) false a b c
    have hneg:=next_neg ps (-1) false a b c
    generalize nRun ps (-1) false a b c ps.length 0 (-1,false) = st at hN1 hsp hneg
    by_cases c2 : 0≤st.1
    · obtain ⟨n1,n2⟩ : st.1 < (ps.length : Int)∧qReason (-1) false a b (rd_T34 ps st.1) = 0:=by
        rcases hsp with ⟨rfl,_⟩ | ⟨_,h3,h4,_⟩
        · exact absurd c2 (by decide)
        · exact ⟨h3,h4⟩
      have h6 : (rd_T34 ps st.1).f6 = false:=by
        cases e : (rd_T34 ps st.1).f6 with
        | false => rfl
        | true =>
          exfalso
          revert n2
          unfold qReason qOut
          rw [e]
          simp
      have hpm:=rd34_mem ps st.1 c2 n1
      have h7:=wsum_pos (fun p => (gN_bd p).1) ps _ hpm
      have h8 : gN (rd_T34 ps st.1) = 1:=by unfold gN;rw [h6];rfl
      have hyl : (ps.set st.1.toNat (goes (rd_T34 ps st.1))).length = ps.length:=List.length_set
      have hng : wsum gN (ps.set st.1.toNat (goes (rd_T34 ps st.1)))≤((d - 1 : Nat) : Int):=by
        rw [wsum_set _ _ _ _ c2 n1]
        have e2 : gN (goes (rd_T34 ps st.1)) = 0:=rfl
        omega
      obtain ⟨K3,H3⟩:=ih (d - 1) (by omega) (ps.set st.1.toNat (goes (rd_T34 ps st.1))) (i + 1) (by omega) (pgI_goes hI _ c2 n1) (fun x x0 x1 => by rw [cntA_goes x _ c2 n1];exact hc x x0 x1) hng (by omega) (by omega) hN
      obtain ⟨K2,H2⟩:=hN1
      dsimp only at H1 H2 H3
      refine ev1 (K1 + K2 + K3 + 1) (fun k hk => ?_)
      obtain ⟨m,rfl⟩ : ∃ m,k = m + 1:=⟨k - 1,by omega⟩
      simp only [estoverstop_TopShortageOpens.l0]
      rw [if_pos (by omega),H1 _ (by omega),Option.bind_some,H2 _ (by omega),Option.bind_some]
      rw [if_neg (by omega),if_neg (by omega),if_neg (by omega),if_pos c2,if_pos n1,h6]
      simp only [estoverstop_TopShortageOpens.j3]
      rw [if_neg Bool.false_ne_true,if_pos c2,if_pos n1,show wrap64 (i + 1) = i + 1 from wr64 (by omega) (by omega)]
      exact H3 m (by omega)
    · have hr:=short_rest hV hno hl hI hc h2 (hneg (by omega)).2
      rw [(hneg (by omega)).1] at hN1
      obtain ⟨K2,H2⟩:=hN1
      dsimp only at H1 H2
      refine ev1 (K1 + K2) (fun k hk => ?_)
      simp only [estoverstop_TopShortageOpens.l0]
      rw [if_pos (by omega),H1 _ (by omega),Option.bind_some,H2 _ (by omega),Option.bind_some,if_pos rfl,decide_eq_true hr]
  intro d
  induction d with
  | zero => exact main 0 (fun d' h => by omega)
  | succ d ih => exact main (d + 1) (fun d' h => by obtain rfl : d' = d:=by omega
                                                    exact ih)
theorem short_pure (l0 : List S30) (a1 : Int) : ∃ k,estoverstop_TopShortageOpens.f k l0 a1 = some true:=by
  obtain ⟨K,hK⟩:=awake20_ev
  obtain ⟨K1,H1⟩:=check19_ev l0
  dsimp only at hK H1
  by_cases c : chk l0 = 0
  · have hV:=(chk_zero l0).1 c
    have hlen1:=hV.len1
    obtain ⟨r,e,⟨K2,H2⟩,hre⟩:=over_prog l0 a1
    obtain ⟨qs,⟨K3,H3⟩,hqs⟩:=own_pages l0 hV
    dsimp only at H2 H3
    have jt : ∀ k,estoverstop_TopShortageOpens.j1 (k + 1) l0 a1 qs true = some true:=by
      intro k
      simp only [estoverstop_TopShortageOpens.j1]
      rw [if_pos trivial]
    have hj : ∃ K4,∀ m,K4≤m→estoverstop_TopShortageOpens.j0 m l0 a1 false = some true:=by
      by_cases he : e = 0
      · obtain ⟨_,hf0,hf1,hor⟩:=hre he
        by_cases hr : r = -1
        · by_cases hq : (qs.length : Int) = (rd_T30 l0 0).f1
          · have hno : NoOver l0 a1:=by
              rcases hor with ⟨_,h⟩ | ⟨h,_⟩
              · exact h
              · omega
            obtain ⟨K4,H4⟩ : Ev (fun k => estoverstop_TopShortageOpens.l0 k l0 a1 qs ((qs.length : Int) + 1) 0) true:=by
              rcases hqs with rfl | ⟨q1,q2,q3⟩
              · obtain ⟨a,b,c,h1,h2⟩:=ask_ok_ev ([] : List S34) l0 (-1) (by decide) (pchk_pgI hV (fun j h0 h1 => by simp at h1;omega) (by decide)) ⟨by omega,by omega⟩
                obtain ⟨K5,H5⟩:=Next_ok (kn:=false) h1
                obtain ⟨K6,H6⟩:=rest_ev l0 hV ([] : List S34) (by decide) (fun p hp => by simp at hp)
                dsimp only at H5 H6
                refine ev1 (K5 + K6) (fun k hk => ?_)
                simp only [estoverstop_TopShortageOpens.l0]
                have hz : (rd_T30 l0 0).f1 = 0:=by rw [← hq];rfl
                rw [if_pos (by simp),H6 _ (by omega),Option.bind_some,H5 _ (by omega),Option.bind_some,show (nRun ([] : List S34) (-1) false a b c ([] : List S34).length 0 (-1,false)).1 = -1 from rfl,if_pos rfl,hz,decide_eq_true (by simp [wsum];omega)]
              · refine short_l0 l0 a1 hV hno _ qs.length qs 0 q1 q2 (fun x x0 x1 => ?_) (wsum_bd gN_bd qs).2 (by omega) (by omega) (by omega)
                have h1:=(wsum_bd (g:=fun p => if p.f1 = x then 1 else 0) (fun p => by split <;> omega) qs).2
                have h2:=q3 x x0 x1
                unfold cntA at h2 ⊢
                unfold ow at h2
                split at h2 <;> omega
            refine ⟨K2 + K3 + K4 + 2,fun m hm => ?_⟩
            obtain ⟨n,rfl⟩ : ∃ n,m = n + 2:=⟨m - 2,by omega⟩
            simp only [estoverstop_TopShortageOpens.j0]
            rw [if_neg Bool.false_ne_true,H2 _ (by omega),Option.bind_some,H3 _ (by omega),Option.bind_some,if_pos he,if_pos hr,if_pos (by omega),show ((qs.length : Int) != (rd_T30 l0 0).f1) = false by simp [hq]]
            simp only [estoverstop_TopShortageOpens.j1]
            have hq256 : qs.length≤256:=by
              rcases hqs with rfl | h
              · simp
              · exact h.1
            rw [if_neg Bool.false_ne_true,show wrap64 ((qs.length : Int) + 1) = (qs.length : Int) + 1 from wr64 (by omega) (by omega)]
            exact H4 n (by omega)
          · refine ⟨K2 + K3 + 2,fun m hm => ?_⟩
            obtain ⟨n,rfl⟩ : ∃ n,m = n + 2:=⟨m - 2,by omega⟩
            simp only [estoverstop_TopShortageOpens.j0]
            rw [if_neg Bool.false_ne_true,H2 _ (by omega),Option.bind_some,H3 _ (by omega),Option.bind_some,if_pos he,if_pos hr,if_pos (by omega),show ((qs.length : Int) != (rd_T30 l0 0).f1) = true by simp [hq]]
            exact jt n
        · refine ⟨K2 + K3 + 2,fun m hm => ?_⟩
          obtain ⟨n,rfl⟩ : ∃ n,m = n + 2:=⟨m - 2,by omega⟩
          simp only [estoverstop_TopShortageOpens.j0]
          rw [if_neg Bool.false_ne_true,H2 _ (by omega),Option.bind_some,H3 _ (by omega),Option.bind_some,if_pos he,if_neg hr]
          exact jt n
      · refine ⟨K2 + K3 + 2,fun m hm => ?_⟩
        obtain ⟨n,rfl⟩ : ∃ n,m = n + 2:=⟨m - 2,by omega⟩
        simp only [estoverstop_TopShortageOpens.j0]
        rw [if_neg Bool.false_ne_true,H2 _ (by omega),Option.bind_some,H3 _ (by omega),Option.bind_some,if_neg he]
        exact jt n
    obtain ⟨K4,H4⟩:=hj
    refine ⟨K + K1 + K4,?_⟩
    unfold estoverstop_TopShortageOpens.f
    rw [hK _ (by omega),Option.bind_some,if_pos rfl,H1 _ (by omega),Option.bind_some,c]
    exact H4 _ (by omega)
  · refine ⟨K + K1 + 1,?_⟩
    unfold estoverstop_TopShortageOpens.f
    rw [hK _ (by omega),Option.bind_some,if_pos rfl,H1 _ (by omega),Option.bind_some,show (chk l0 != 0) = true by simpa using c]
    simp only [estoverstop_TopShortageOpens.j0]
    rw [if_pos trivial,hK _ (by omega)]
    rfl
end Go.Proofs.Ytnmenfkmndnoaaa.Pr
