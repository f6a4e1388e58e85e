/- The plain statement of TopLocking. -/
import Derived.Test.YtnmenfkmndnoaaaKgt
import Derived.Test.YtnmenfkmndnoaaaFestoverstopTopLockingt
set_option linter.unusedVariables false
set_option linter.unusedSimpArgs false
namespace Go.Proofs.Ytnmenfkmndnoaaa.Pr
open Go.RowKit Go.Proofs.YtnmenfkmndnoaaaW.PrintWords Go.Proofs.YtnmenfkmndnoaaaW.PrintLast Go.Proofs.YtnmenfkmndnoaaaW.PrintMore
theorem own_answer {l0 : List S34} {l1 : List S30} {s : Int} {kn : Bool} {a b c : List Bool} (h : AskSt l0 l1 s a b c) : (vAnswer l0 (wOf s kn a b l0) s kn a b = 0∧∀ p ∈ l0,qReason s kn a b p≠0∧qReason s kn a b p≠8)∨(vAnswer l0 (wOf s kn a b l0) s kn a b = 19∧∃ p ∈ l0,qReason s kn a b p = 0∨qReason s kn a b p = 8):=by
  have hrd : ∀ j,0≤j→j < (l0.length : Int)→rd_T34 (wOf s kn a b l0) j = wPg s kn a b (rd_T34 l0 j):=fun j h0 h1 => rd34_map _ _ _ h0 h1
  have hs : vSameB l0 (wOf s kn a b l0) l0.length 0 = true:=by
    rw [vSame_iff]
    intro j h1 h2
    rw [hrd j h1 (by omega)]
    simp [vDiff,wPg]
  unfold vAnswer
  rw [if_neg (by simp [wOf]),hs,if_neg (by simp)]
  by_cases c : ∀ p ∈ l0,qReason s kn a b p≠0∧qReason s kn a b p≠8
  · refine Or.inl ⟨?_,c⟩
    have : vHoldB l0 (wOf s kn a b l0) s kn a b l0.length 0 = true:=by
      rw [vHold_iff]
      intro j h1 h2
      have hm:=rd34_mem l0 j h1 (by omega)
      rw [hrd j h1 (by omega)]
      exact holds_self (h.pages _ hm) (c _ hm).1 (c _ hm).2
    rw [this,if_neg (by simp)]
  · refine Or.inr ⟨?_,Classical.byContradiction fun hn => c fun p hp => ⟨fun h1 => hn ⟨p,hp,Or.inl h1⟩,fun h1 => hn ⟨p,hp,Or.inr h1⟩⟩⟩
    rw [if_pos]
    cases hv : vHoldB l0 (wOf s kn a b l0) s kn a b l0.length 0 with
    | false => rfl
    | true =>
      refine absurd (fun p hp => ?_) c
      obtain ⟨j,h1,h2,rfl⟩:=mem_rd34 hp
      exact holds_reason (h.pages _ hp) ((vHold_iff l0 s kn a b _ _ _).1 hv j h1 (by omega))
def lk (p : S34) : S34:=⟨p.f0,p.f1,p.f2,7,p.f4,p.f5,p.f6⟩
def Lk (l0 w : List S34) : Prop:=w.length = l0.length∧∀ j,0≤j→j < (l0.length : Int)→rd_T34 w j = rd_T34 l0 j∨rd_T34 w j = lk (rd_T34 l0 j)
theorem lock_l0 (l0 : List S34) (l1 : List S30) (s : Int) (kn : Bool) (v : List Bool) (hl : l0.length≤300) : ∀ (d : Nat) (i : Int) (w : List S34),0≤i→i + d = (w.length : Int)→Lk l0 w→∃ w' : List S34,Lk l0 w'∧∀ r,Ev (fun k => estoverstop_TopLocking.l0 k v w' (w'.length : Int) (w'.length : Int) l0 l1 s kn) r→Ev (fun k => estoverstop_TopLocking.l0 k v w (w.length : Int) i l0 l1 s kn) r:=by
  intro d
  induction d with
  | zero =>
    intro i w h0 hi hw
    refine ⟨w,hw,fun r hr => ?_⟩
    rw [show (w.length : Int) = i by omega] at hr ⊢
    exact hr
  | succ d ih =>
    intro i w h0 hi hw
    have hwl:=hw.1
    have hlt : i < (w.length : Int):=by omega
    have stay : ∃ w' : List S34,Lk l0 w'∧∀ r,Ev (fun k => estoverstop_TopLocking.l0 k v w' (w'.length : Int) (w'.length : Int) l0 l1 s kn) r→∃ K,∀ k,K≤k→estoverstop_TopLocking.j2 k v w i (w.length : Int) i false l0 l1 s kn = some r:=by
      obtain ⟨w',h1,h2⟩:=ih (i + 1) w (by omega) (by omega) hw
      refine ⟨w',h1,fun r hr => ?_⟩
      obtain ⟨K,hK⟩:=h2 r hr
      refine ⟨K + 1,fun k hk => ?_⟩
      obtain ⟨m,rfl⟩ : ∃ m,k = m + 1:=⟨k - 1,by omega⟩
      simp only [estoverstop_TopLocking.j2]
      rw [if_neg Bool.false_ne_true,show wrap64 (i + 1) = i + 1 from wr64 (by omega) (by omega)]
      exact hK m (by omega)
    by_cases c : i < (v.length : Int)
    · cases hv : rdOf false v i with
      | false =>
        obtain ⟨w',h1,h2⟩:=stay
        refine ⟨w',h1,fun r hr => ?_⟩
        obtain ⟨K,hK⟩:=h2 r hr
        refine ev1 K (fun k hk => ?_)
        simp only [estoverstop_TopLocking.l0]
        rw [if_pos hlt,if_pos c,if_pos h0,hv]
        exact hK k hk
      | true =>
        obtain ⟨w',h1,h2⟩:=ih (i + 1) (w.set i.toNat (lk (rd_T34 w i))) (by omega) (by simp;omega) ⟨by simpa using hwl,fun j h3 h4 => by
          rw [rd34_set _ _ _ _ h0 hlt h3]
          have:=hw.2 j h3 h4
          by_cases e : j = i
          · rw [if_pos e,← e]
            rcases this with h | h
            · rw [h];exact Or.inr rfl
            · rw [h];exact Or.inr rfl
          · rw [if_neg e];exact this⟩
        refine ⟨w',h1,fun r hr => ?_⟩
        obtain ⟨K,hK⟩:=h2 r hr
        refine ev1 (K + 1) (fun k hk => ?_)
        obtain ⟨m,rfl⟩ : ∃ m,k = m + 1:=⟨k - 1,by omega⟩
        simp only [estoverstop_TopLocking.l0,estoverstop_TopLocking.j2]
        rw [if_pos hlt,if_pos c,if_pos h0,hv,if_pos rfl,if_pos h0,if_pos hlt,show wrap64 (i + 1) = i + 1 from wr64 (by omega) (by omega)]
        have:=hK m (by omega)
        rw [List.length_set] at this
        exact this
    · obtain ⟨w',h1,h2⟩:=stay
      refine ⟨w',h1,fun r hr => ?_⟩
      obtain ⟨K,hK⟩:=h2 r hr
      refine ev1 K (fun k hk => ?_)
      simp only [estoverstop_TopLocking.l0]
      rw [if_pos hlt,if_neg c]
      exact hK k hk
theorem lvFold_congr : ∀ (x y : List S34) (a : List Int),x.map (fun p => (p.f1,p.f6)) = y.map (fun p => (p.f1,p.f6))→x.foldl lvStep a = y.foldl lvStep a
  | [],[],_,_ => rfl
  | [],_ :: _,_,h => by simp at h
  | _ :: _,[],_,h => by simp at h
  | p :: x,q :: y,a,h => by
    simp only [List.map_cons,List.cons.injEq,Prod.mk.injEq] at h
    obtain ⟨⟨h1,h2⟩,h3⟩:=h
    rw [List.foldl_cons,List.foldl_cons,show lvStep a p = lvStep a q by unfold lvStep;rw [h1,h2]]
    exact lvFold_congr x y _ h3
theorem Lk.lv {l0 w : List S34} (h : Lk l0 w) (n : Nat) : lvOf n w = lvOf n l0:=by
  refine lvFold_congr w l0 _ (List.ext_getElem (by simp [h.1]) (fun i h1 h2 => ?_))
  have hi : i < l0.length:=by simpa using h2
  have hi2 : i < w.length:=by simpa using h1
  have:=h.2 i (by omega) (by omega)
  rw [rd34_get w i hi2,rd34_get l0 i hi] at this
  simp only [List.getElem_map]
  rcases this with h | h <;> rw [h]
  rfl
theorem Lk.chk {l0 w : List S34} {l1 : List S30} (h : Lk l0 w) (hz : pchk l0 l1 = 0) : pchk w l1 = 0:=by
  rw [pchk_zero] at hz ⊢
  refine ⟨hz.1,fun j h2 h3 => ?_⟩
  have hl:=h.1
  have hf : ∀ y,0≤y→y < (l0.length : Int)→(rd_T34 w y).f0 = (rd_T34 l0 y).f0:=fun y h4 h5 => by rcases h.2 y h4 h5 with h | h <;> rw [h];rfl
  have hla : lastAt w j = lastAt l0 j:=by
    unfold lastAt
    split
    · exact hf _ (by omega) (by omega)
    · rfl
  have hj:=hz.2 j h2 (by omega)
  rw [hla,hf j h2 (by omega)]
  refine ⟨?_,hj.2⟩
  rcases h.2 j h2 (by omega) with e | e
  · rw [e];exact hj.1
  · rw [e]
    obtain ⟨⟨q1,q2,q3,q4,q5,q6,q7,q8,q9⟩,_⟩:=hj
    exact ⟨q1,q2,q3,q4,by show (0 : Int)≤7;omega,by show (7 : Int)≤10;omega,q7,q8,fun h => by have:=h.1;simp [lk] at this⟩
theorem lock_reason {n s : Int} {kn : Bool} {a b a' b' : List Bool} {p : S34} (hp : PgOk n p) (ha : 0≤p.f1→rdOf false a' p.f1 = rdOf false a p.f1) (hb : 0≤p.f1→rdOf false b' p.f1 = rdOf false b p.f1) (h0 : qReason s kn a b p≠0∧qReason s kn a b p≠8) : (qReason s kn a' b' p≠0∧qReason s kn a' b' p≠8)∧(qReason s kn a' b' (lk p)≠0∧qReason s kn a' b' (lk p)≠8):=by
  have ho : qOut s a' p = qOut s a p:=by
    unfold qOut
    by_cases c1 : p.f1 < 0
    · rw [decide_eq_true c1];rfl
    · rw [ha (by omega)]
  have hg : qGua b' p = qGua b p:=by
    unfold qGua
    by_cases c1 : 0≤p.f1
    · rw [hb c1]
    · rw [decide_eq_false c1];rfl
  refine ⟨?_,?_⟩
  · unfold qReason at h0 ⊢
    rw [ho,hg];exact h0
  · unfold qReason at h0 ⊢
    rw [show qOut s a' (lk p) = qOut s a p from ho,show (lk p).f5 = p.f5 from rfl,show (lk p).f6 = p.f6 from rfl,show (lk p).f3 = 7 from rfl]
    by_cases c1 : qOut s a p = true
    · rw [if_pos c1];omega
    · rw [if_neg c1] at h0 ⊢
      by_cases c2 : (kn && !p.f5) = true
      · rw [if_pos c2];omega
      · rw [if_neg c2] at h0 ⊢
        by_cases c3 : p.f6 = true
        · rw [if_pos c3] at h0;omega
        · rw [if_neg c3,if_pos (by omega)];omega
theorem lock_pure (l0 : List S34) (l1 : List S30) (s : Int) (kn : Bool) (v : List Bool) : ∃ k,estoverstop_TopLocking.f k l0 l1 s kn v = some true:=by
  obtain ⟨K,hK⟩:=awake20_ev
  dsimp only at hK
  have jt : ∀ k,K + 1≤k→estoverstop_TopLocking.j0 k v true l0 l1 s kn = some true:=by
    intro k hk
    obtain ⟨m,rfl⟩ : ∃ m,k = m + 1:=⟨k - 1,by omega⟩
    simp only [estoverstop_TopLocking.j0]
    rw [if_pos trivial,hK m (by omega)]
    rfl
  by_cases c : l0.length≤300∧l1.length≤40
  · have key : ∃ K',∀ k,K'≤k→estoverstop_TopLocking.j0 k v false l0 l1 s kn = some true:=by
      rcases ask_cases l0 l1 s (by omega) with ⟨a,b,c',h1,h2⟩ | ⟨h,e,h1,h2,_⟩
      · obtain ⟨K2,H2⟩:=Witness_ok (kn:=kn) h1
        obtain ⟨K3,H3⟩:=Verify_ok (kn:=kn) h1 (wOf s kn a b l0)
        dsimp only at H2 H3
        rcases own_answer (kn:=kn) h2 with ⟨h3,h4⟩ | ⟨h3,_⟩
        · obtain ⟨w,hw,hc⟩:=lock_l0 l0 l1 s kn v c.1 l0.length 0 l0 (by omega) (by omega) ⟨rfl,fun j _ _ => Or.inl rfl⟩
          have hwl:=hw.1
          obtain ⟨a',b',c2,h5,h6⟩:=ask_ok_ev w l1 s (by omega) (hw.chk h2.zero) h2.sc
          obtain ⟨q,_,_,hq,_⟩:=sums_ev l1 _ h2.lvOk
          have hq' : IsIn l1 (lvOf l1.length w) q:=by rw [hw.lv];exact hq
          have hr : ∀ p ∈ w,qReason s kn a' b' p≠0∧qReason s kn a' b' p≠8:=by
            intro p hp
            obtain ⟨j,j0,j1,rfl⟩:=mem_rd34 hp
            have hm:=rd34_mem l0 j j0 (by omega)
            have hpg:=h2.pages _ hm
            have:=lock_reason (kn:=kn) (s:=s) (a:=a) (b:=b) (a':=a') (b':=b') hpg (fun h => by rw [Bool.eq_iff_iff,h6.ins _ h hpg.2.2.2.1,h2.ins _ h hpg.2.2.2.1]) (fun h => by rw [Bool.eq_iff_iff,h6.gdq q hq' _ h hpg.2.2.2.1,h2.gdq q hq _ h hpg.2.2.2.1]) (h4 _ hm)
            rcases hw.2 j j0 (by omega) with e | e
            · rw [e];exact this.1
            · rw [e];exact this.2
          obtain ⟨K4,H4⟩:=Witness_ok (kn:=kn) h5
          obtain ⟨K5,H5⟩:=Verify_ok (kn:=kn) h5 (wOf s kn a' b' w)
          obtain ⟨K6,H6⟩:=Next_ok (kn:=kn) h5
          obtain ⟨K7,H7⟩:=Transit_ok (kn:=kn) h5
          dsimp only at H4 H5 H6 H7
          have e5 : vAnswer w (wOf s kn a' b' w) s kn a' b' = 0:=by
            rcases own_answer (kn:=kn) h6 with ⟨h7,_⟩ | ⟨_,p,hp,h8⟩
            · exact h7
            · have:=hr p hp;omega
          have e6 : (nRun w s kn a' b' c2 w.length 0 (-1,false)).1 = -1:=by
            by_cases c3 : 0≤(nRun w s kn a' b' c2 w.length 0 (-1,false)).1
            · obtain ⟨p,hp,h8⟩:=next_pos w s kn a' b' c2 c3
              exact absurd h8 (hr p hp).1
            · exact (next_neg w s kn a' b' c2 (by omega)).1
          have e7 : (w.any fun p => qReason s kn a' b' p == 8) = false:=by
            rw [List.any_eq_false]
            intro p hp
            simpa using (hr p hp).2
          obtain ⟨K8,H8⟩:=hc true (ev1 (K4 + K5 + K6 + K7) (fun k hk => by
            simp only [estoverstop_TopLocking.l0]
            rw [if_neg (by omega),H4 k (by omega)]
            simp only [Option.bind_some]
            rw [H5 k (by omega)]
            simp only [Option.bind_some]
            rw [if_pos e5,H6 k (by omega)]
            simp only [Option.bind_some]
            rw [if_pos e6,H7 k (by omega),e7]
            rfl))
          dsimp only at H8
          refine ⟨K2 + K3 + K8 + 1,fun k hk => ?_⟩
          obtain ⟨m,rfl⟩ : ∃ m,k = m + 1:=⟨k - 1,by omega⟩
          simp only [estoverstop_TopLocking.j0]
          rw [if_neg Bool.false_ne_true,H2 m (by omega),Option.bind_some,H3 m (by omega),Option.bind_some,if_pos h3,Option.bind_some,if_pos (by simp;omega),Option.bind_some,List.nil_append]
          exact H8 m (by omega)
        · refine ⟨K2 + K3 + 1,fun k hk => ?_⟩
          obtain ⟨m,rfl⟩ : ∃ m,k = m + 1:=⟨k - 1,by omega⟩
          simp only [estoverstop_TopLocking.j0]
          rw [if_neg Bool.false_ne_true,H2 m (by omega),Option.bind_some,H3 m (by omega),Option.bind_some,if_neg (by omega)]
      · obtain ⟨K2,H2⟩:=Witness_bad (kn:=kn) h1 h2
        obtain ⟨K3,H3⟩:=Verify_bad (kn:=kn) h1 h2 []
        dsimp only at H2 H3
        refine ⟨K2 + K3 + 1,fun k hk => ?_⟩
        obtain ⟨m,rfl⟩ : ∃ m,k = m + 1:=⟨k - 1,by omega⟩
        simp only [estoverstop_TopLocking.j0]
        rw [if_neg Bool.false_ne_true,H2 m (by omega),Option.bind_some,H3 m (by omega),Option.bind_some,if_neg h2]
    obtain ⟨K9,H9⟩:=key
    refine ⟨K + K9 + 1,?_⟩
    unfold estoverstop_TopLocking.f estoverslaw39_Few.f
    rw [hK _ (by omega),few_f]
    simp only [Option.bind_some]
    rw [if_pos (by trivial),decide_eq_true c,if_pos (by trivial)]
    by_cases c2 : (v.length : Int) > 300
    · rw [decide_eq_true c2];exact jt _ (by omega)
    · rw [decide_eq_false c2];exact H9 _ (by omega)
  · refine ⟨K + 2,?_⟩
    unfold estoverstop_TopLocking.f estoverslaw39_Few.f
    rw [hK _ (by omega),few_f]
    simp only [Option.bind_some]
    rw [if_pos (by trivial),decide_eq_false c,if_neg (by simp)]
    exact jt _ (by omega)
end Go.Proofs.Ytnmenfkmndnoaaa.Pr
