/- The plain statement of ReclaimplanOldest. -/
import Derived.Test.YtnmenfkmndnoaaaKe
import Derived.Test.YtnmenfkmndnoaaaFestoverslaw39ReclaimplanOldest
set_option linter.unusedVariables false
set_option linter.unusedSimpArgs false
namespace Go.Proofs.Ytnmenfkmndnoaaa.Pr
open Go.RowKit Go.Proofs.YtnmenfkmndnoaaaW.PrintWords Go.Proofs.YtnmenfkmndnoaaaW.PrintLast Go.Proofs.YtnmenfkmndnoaaaW.PrintMore
structure Like (l h : List S30) : Prop where
  len : h.length = l.length
  f0 : ∀ j,0≤j→j < (l.length : Int)→(rd_T30 h j).f0 = (rd_T30 l j).f0
  f1 : ∀ j,0≤j→j < (l.length : Int)→(rd_T30 h j).f1 = (rd_T30 l j).f1
  f2 : ∀ j,0≤j→j < (l.length : Int)→(rd_T30 h j).f2 = mx (rd_T30 l j).f2 (rd_T30 l j).f3
  f3 : ∀ j,0≤j→j < (l.length : Int)→(rd_T30 h j).f3 = (rd_T30 l j).f3
  f4 : ∀ j,0≤j→j < (l.length : Int)→(rd_T30 h j).f4 = (rd_T30 l j).f4
section
variable {l h : List S30}
theorem Like.ks (L : Like l h) (f : Int→Int) (x : Int) (m : Nat) (hm : m≤l.length) : Pr.ks h f x m = Pr.ks l f x m:=by
  refine sumTo_congr m (fun j hj => ?_)
  unfold kid
  rw [L.f0 j (by omega) (by omega)]
theorem Like.valid (L : Like l h) (V : Valid l) : Valid h:=by
  have hl:=L.len
  refine ⟨by have:=V.len1;omega,by have:=V.len8;omega,fun j h0 h1 => ?_,fun j h0 h1 => ?_,?_,fun j h0 h1 => ?_,fun j h0 h1 => ?_⟩
  · have:=V.tree j h0 (by omega)
    unfold treeAt at this ⊢
    rw [L.f0 j h0 (by omega)]
    exact this
  · have:=V.amts j h0 (by omega)
    unfold amtAt at this ⊢
    rw [L.f1 j h0 (by omega),L.f2 j h0 (by omega),L.f3 j h0 (by omega),L.f4 j h0 (by omega)]
    refine ⟨this.1,?_,this.2.2.1,this.2.2.2⟩
    unfold mx
    split
    · exact this.2.2.1
    · exact this.2.1
  · have:=V.root
    unfold RootOk at this ⊢
    have h1:=V.len1
    rw [L.f2 0 (by omega) (by omega),L.f3 0 (by omega) (by omega),this.1,this.2]
    exact ⟨rfl,rfl⟩
  · rw [L.f1 j h0 (by omega),L.f4 j h0 (by omega)];exact V.maxs j h0 (by omega)
  · rw [hl,L.ks _ _ _ (Nat.le_refl _),L.f1 j h0 (by omega)]
    rw [ks_congr l (f:=uu h) (g:=uu l) j l.length (fun c h2 h3 _ => L.f1 c (by omega) h3)]
    exact V.owns j h0 (by omega)
theorem Like.anc (L : Like l h) (V : Valid l) (y : Int) : ∀ x,0≤x→x < (l.length : Int)→(Anc h y x↔Anc l y x):=by
  refine up_ind V.tree (P:=fun x => (Anc h y x↔Anc l y x)) ?_ ?_
  · rw [anc_iff,anc_iff (l:=l)]
    constructor <;> rintro (h | ⟨h,_⟩) <;> first | exact Or.inl h | omega
  · intro x h0 h1 _ _ ih
    rw [anc_iff,anc_iff (l:=l) (c:=x),L.f0 x (by omega) h1,ih]
theorem Like.isIn (L : Like l h) {v q : List Int} (H : IsIn l v q) : IsIn h v q:=by
  refine ⟨H.1.trans L.len.symm,fun x h0 h1 => ?_⟩
  rw [L.len,L.ks _ _ _ (Nat.le_refl _)]
  exact H.2 x h0 (by have:=L.len;omega)
theorem Like.gd (L : Like l h) (V : Valid l) (q : List Int) (e x : Int) (he : 0≤e) (h0 : 0≤x) (h1 : x < (l.length : Int)) : Gd h q e false x↔Gd l q e false x∨Gd l q e true x:=by
  unfold Gd
  rw [L.anc V e x h0 h1]
  have key : (∃ y,Anc h y x∧e < y∧GP h q false y)↔(∃ y,Anc l y x∧e < y∧GP l q false y)∨(∃ y,Anc l y x∧e < y∧GP l q true y):=by
    have pt : ∀ y,Anc l y x→e < y→(GP h q false y↔GP l q false y∨GP l q true y):=by
      intro y ha hy
      have:=ha.le V.tree h1
      unfold GP
      rw [L.f1 y (by omega) (by omega),L.f2 y (by omega) (by omega)]
      simp only [Bool.false_eq_true,↓reduceIte]
      unfold mx
      split <;> omega
    constructor
    · rintro ⟨y,ha,hy,hg⟩
      have ha:=(L.anc V y x h0 h1).1 ha
      rcases (pt y ha hy).1 hg with hg | hg
      · exact Or.inl ⟨y,ha,hy,hg⟩
      · exact Or.inr ⟨y,ha,hy,hg⟩
    · rintro (⟨y,ha,hy,hg⟩ | ⟨y,ha,hy,hg⟩)
      · exact ⟨y,(L.anc V y x h0 h1).2 ha,hy,(pt y ha hy).2 (Or.inl hg)⟩
      · exact ⟨y,(L.anc V y x h0 h1).2 ha,hy,(pt y ha hy).2 (Or.inr hg)⟩
  rw [key]
  constructor
  · rintro ((h2 | h2) | h2)
    · exact Or.inl (Or.inl h2)
    · exact Or.inr (Or.inl h2)
    · exact Or.inl (Or.inr h2)
  · rintro ((h2 | h2) | (h2 | h2))
    · exact Or.inl (Or.inl h2)
    · exact Or.inr h2
    · exact Or.inl (Or.inr h2)
    · exact Or.inr h2
theorem rd30_set (xs : List S30) (i j : Int) (v : S30) (hi0 : 0≤i) (hi1 : i < (xs.length : Int)) (hj0 : 0≤j) : rd_T30 (xs.set i.toNat v) j = if j = i then v else rd_T30 xs j:=by
  unfold rd_T30
  rw [List.getD_eq_getElem?_getD,List.getD_eq_getElem?_getD,List.getElem?_set]
  by_cases h : j = i
  · rw [if_pos h,if_pos (by omega),if_pos (by omega)];rfl
  · rw [if_neg h,if_neg (by omega)]
def hiA (x : S30) : S30:=⟨x.f0,x.f1,mx x.f2 x.f3,x.f3,x.f4⟩
theorem oldest_l0 (l0 : List S34) (l1 : List S30) (s : Int) (kn : Bool) (t : Int) (hl : l1.length≤40) : ∀ (d : Nat) (i : Int) (w : List S30),0≤i→i + d = (w.length : Int)→w.length = l1.length→(∀ j,0≤j→j < (w.length : Int)→rd_T30 w j = if j < i then hiA (rd_T30 l1 j) else rd_T30 l1 j)→∃ w',Like l1 w'∧∀ r,Ev (fun k => (reclaimplan_Reason.f k l0 w' s t kn).bind fun t440 => estoverslaw39_ReclaimplanOldest.l1 k t w' t440 (l0.length : Int) 0 l0 l1 s kn) r→Ev (fun k => estoverslaw39_ReclaimplanOldest.l0 k t w (w.length : Int) i l0 l1 s kn) r:=by
  intro d
  induction d with
  | zero =>
    intro i w h0 hi hw hr
    have e : ∀ j,0≤j→j < (l1.length : Int)→rd_T30 w j = hiA (rd_T30 l1 j):=fun j h1 h2 => by rw [hr j h1 (by omega),if_pos (by omega)]
    refine ⟨w,⟨hw,fun j h1 h2 => by rw [e j h1 h2];rfl,fun j h1 h2 => by rw [e j h1 h2];rfl,fun j h1 h2 => by rw [e j h1 h2];rfl,fun j h1 h2 => by rw [e j h1 h2];rfl,fun j h1 h2 => by rw [e j h1 h2];rfl⟩,fun r ⟨K,hK⟩ => ev1 K (fun k hk => ?_)⟩
    simp only [estoverslaw39_ReclaimplanOldest.l0]
    rw [if_neg (by omega)]
    exact hK k hk
  | succ d ih =>
    intro i w h0 hi hw hr
    obtain ⟨w',h1,h2⟩:=ih (i + 1) (w.set i.toNat (hiA (rd_T30 w i))) (by omega) (by simp;omega) (by simpa using hw) (by
      intro j h3 h4
      rw [rd30_set _ _ _ _ h0 (by omega) h3]
      have hj:=hr j h3 (by simpa using h4)
      by_cases e : j = i
      · rw [if_pos e,if_pos (by omega),← e,hj,if_neg (by omega)]
      · rw [if_neg e,hj]
        by_cases e2 : j < i
        · rw [if_pos e2,if_pos (by omega)]
        · rw [if_neg e2,if_neg (by omega)])
    refine ⟨w',h1,fun r hr2 => ?_⟩
    obtain ⟨K,hK⟩:=h2 r hr2
    refine ev1 K (fun k hk => ?_)
    simp only [estoverslaw39_ReclaimplanOldest.l0]
    rw [if_pos (by omega),if_pos h0,if_pos (by omega),show wrap64 (i + 1) = i + 1 from wr64 (by omega) (by omega)]
    have:=hK k hk
    rw [List.length_set] at this
    exact this
end
theorem oldest_reason {n s : Int} {kn : Bool} {a b c a' b' : List Bool} {p : S34} (hp : PgOk n p) (ha : 0≤p.f1→rdOf false a' p.f1 = rdOf false a p.f1) (hb : 0≤p.f1→(rdOf false b' p.f1 = true↔rdOf false b p.f1 = true∨rdOf false c p.f1 = true)) (h0 : qReason s kn a b p = 0) : qReason s kn a' b' p = 0↔nOpen c p = true:=by
  obtain ⟨_,_,_,_,h3,h4,_,_,_⟩:=hp
  have ho : qOut s a' p = qOut s a p:=by
    unfold qOut
    by_cases c1 : p.f1 < 0
    · rw [decide_eq_true c1];rfl
    · rw [ha (by omega)]
  have hg : qGua b' p = (qGua b p || qGua c p):=by
    unfold qGua
    by_cases c1 : 0≤p.f1
    · rw [decide_eq_true c1,Bool.true_and,Bool.true_and,Bool.true_and,Bool.eq_iff_iff,Bool.or_eq_true];exact hb c1
    · rw [decide_eq_false c1];rfl
  have hn : nOpen c p = !(qGua c p):=by
    unfold nOpen qGua
    by_cases h : p.f1 < 0
    · rw [decide_eq_true h,decide_eq_false (show ¬ 0≤p.f1 by omega)];rfl
    · rw [decide_eq_false h,decide_eq_true (show 0≤p.f1 by omega)];simp
  unfold qReason at h0 ⊢
  rw [ho,hg,hn]
  by_cases c1 : qOut s a p = true
  · rw [if_pos c1] at h0;omega
  · rw [if_neg c1] at h0 ⊢
    by_cases c2 : (kn && !p.f5) = true
    · rw [if_pos c2] at h0;omega
    · rw [if_neg c2] at h0 ⊢
      by_cases c3 : p.f6 = true
      · rw [if_pos c3] at h0;omega
      · rw [if_neg c3] at h0 ⊢
        by_cases c4 : ¬ p.f3 = 0∧¬ p.f3 = 8
        · rw [if_pos c4] at h0;omega
        · rw [if_neg c4] at h0 ⊢
          cases hb1 : qGua b p with
          | true => rw [hb1,if_pos rfl] at h0;omega
          | false =>
            rw [hb1,if_neg Bool.false_ne_true] at h0
            rw [Bool.false_or,h0]
            cases qGua c p <;> simp
theorem oldest_l1 (l0 : List S34) (l1 h : List S30) (s : Int) (kn : Bool) (a b c a' b' : List Bool) (t : Int) (st2 : Bool) (hl : l0.length≤300) (ht0 : 0≤t) (ht1 : t < (l0.length : Int))
    (hinv : ∀ j,0≤j→j < (l0.length : Int)→qReason s kn a b (rd_T34 l0 j) = 0→(nOpen c (rd_T34 l0 j) = true→st2 = true∧(rd_T34 l0 t).f2≤(rd_T34 l0 j).f2)∧(st2 = false→(rd_T34 l0 t).f2≤(rd_T34 l0 j).f2))
    (hre : ∀ j,0≤j→j < (l0.length : Int)→qReason s kn a b (rd_T34 l0 j) = 0→(qReason s kn a' b' (rd_T34 l0 j) = 0↔nOpen c (rd_T34 l0 j) = true)) (x6 : Int) (hx : x6 = 0↔st2 = true)
    (h1 : ∀ i,0≤i→i < (l0.length : Int)→Ev (fun k => reclaimplan_Reason.f k l0 l1 s i kn) (qReason s kn a b (rd_T34 l0 i))) (h2 : ∀ i,0≤i→i < (l0.length : Int)→Ev (fun k => reclaimplan_Reason.f k l0 h s i kn) (qReason s kn a' b' (rd_T34 l0 i))) :
    ∀ (d : Nat) (i : Int),0≤i→i + d = (l0.length : Int)→Ev (fun k => estoverslaw39_ReclaimplanOldest.l1 k t h x6 (l0.length : Int) i l0 l1 s kn) true:=by
  intro d
  induction d with
  | zero => intro i h0 hi;exact ev1 0 (fun k _ => by simp only [estoverslaw39_ReclaimplanOldest.l1];rw [if_neg (by omega)])
  | succ d ih =>
    intro i h0 hi
    have hlt : i < (l0.length : Int):=by omega
    obtain ⟨K,hK⟩:=ih (i + 1) (by omega) (by omega)
    obtain ⟨K1,H1⟩:=h1 i h0 hlt
    obtain ⟨K2,H2⟩:=h2 i h0 hlt
    dsimp only at hK H1 H2
    have j4 : ∀ k,K + 1≤k→estoverslaw39_ReclaimplanOldest.j4 k t h x6 (l0.length : Int) i false l0 l1 s kn = some true:=by
      intro k hk
      obtain ⟨m,rfl⟩ : ∃ m,k = m + 1:=⟨k - 1,by omega⟩
      simp only [estoverslaw39_ReclaimplanOldest.j4]
      rw [if_neg Bool.false_ne_true,wr64 (by omega) (by omega)]
      exact hK m (by omega)
    refine ev1 (K + K1 + K2 + 1) (fun k hk => ?_)
    simp only [estoverslaw39_ReclaimplanOldest.l1]
    rw [if_pos hlt,H1 k (by omega)]
    simp only [Option.bind_some]
    by_cases c0 : qReason s kn a b (rd_T34 l0 i) = 0
    · have hi1:=hinv i h0 hlt c0
      have hr:=hre i h0 hlt c0
      rw [if_pos c0,H2 k (by omega)]
      simp only [Option.bind_some]
      by_cases c1 : qReason s kn a' b' (rd_T34 l0 i) = 0
      · have hi2:=hi1.1 (hr.1 c1)
        rw [if_pos c1,if_pos (hx.2 hi2.1),if_pos h0,if_pos hlt,if_pos ht0,if_pos ht1,if_neg (by omega)]
        exact j4 k (by omega)
      · rw [if_neg c1]
        by_cases c2 : x6 = 0
        · rw [if_pos c2];exact j4 k (by omega)
        · have hi2:=hi1.2 (by cases st2 with | true => exact absurd (hx.2 rfl) c2 | false => rfl)
          rw [if_neg c2,if_pos h0,if_pos hlt,if_pos ht0,if_pos ht1,decide_eq_false (by omega)]
          exact j4 k (by omega)
    · rw [if_neg c0,wr64 (by omega) (by omega)]
      exact hK k (by omega)
theorem oldest_pure (l0 : List S34) (l1 : List S30) (s : Int) (kn : Bool) : ∃ k,estoverslaw39_ReclaimplanOldest.f k l0 l1 s kn = some true:=by
  obtain ⟨K,hK⟩:=awake_ev
  dsimp only at hK
  by_cases c : l0.length≤300∧l1.length≤40
  · have key : Ev (fun k => estoverslaw39_ReclaimplanOldest.j0 k false l0 l1 s kn) true:=by
      have jt : ∀ k,1≤k→estoverslaw39_ReclaimplanOldest.j1 k (-1) true l0 l1 s kn = some true:=by
        intro k hk
        obtain ⟨m,rfl⟩ : ∃ m,k = m + 1:=⟨k - 1,by omega⟩
        rfl
      rcases ask_cases l0 l1 s (by omega) with ⟨a,b,c',h1,h2⟩ | ⟨h,e,h1,h2,_⟩
      · obtain ⟨K2,H2⟩:=Next_ok (kn:=kn) h1
        dsimp only at H2
        have hsp:=nRun_spec l0 s kn a b c'
        generalize nRun l0 s kn a b c' l0.length 0 (-1,false) = st at H2 hsp
        rcases hsp with ⟨rfl,_⟩ | ⟨n0,n1,n2,n3,n4⟩
        · refine ev1 (K2 + 1) (fun k hk => ?_)
          simp only [estoverslaw39_ReclaimplanOldest.j0]
          rw [if_neg Bool.false_ne_true,H2 k (by omega)]
          simp only [Option.bind_some]
          rw [if_pos (by decide)]
          exact jt k (by omega)
        · obtain ⟨w,L,hw⟩:=oldest_l0 l0 l1 s kn st.1 c.2 l1.length 0 l1 (by omega) (by omega) rfl (fun j h3 h4 => by rw [if_neg (by omega)])
          have hV:=h2.valid
          have hz : pchk l0 w = 0:=by
            rw [pchk_zero]
            have:=((pchk_zero l0 l1).1 h2.zero).2
            rw [← L.len] at this
            exact ⟨L.valid hV,this⟩
          obtain ⟨a',b',c2,h3,h4⟩:=ask_ok_ev l0 w s (by omega) hz (by rw [L.len];exact h2.sc)
          obtain ⟨q,_,_,hq,_⟩:=sums_ev l1 _ h2.lvOk
          have hq':=L.isIn hq
          have hins : ∀ j,0≤j→j < (l1.length : Int)→rdOf false a' j = rdOf false a j:=by
            intro j h5 h6
            rw [Bool.eq_iff_iff,h4.ins j h5 (by rw [L.len];exact h6),h2.ins j h5 h6,L.anc hV s j h5 h6]
          have hgd : ∀ j,0≤j→j < (l1.length : Int)→(rdOf false b' j = true↔rdOf false b j = true∨rdOf false c' j = true):=by
            intro j h5 h6
            rw [h4.gdq q (by rw [L.len];exact hq') j h5 (by rw [L.len];exact h6),h2.gdq q hq j h5 h6,h2.sfq q hq j h5 h6]
            exact L.gd hV q _ j (by unfold mx;split <;> omega) h5 h6
          have hre : ∀ j,0≤j→j < (l0.length : Int)→qReason s kn a b (rd_T34 l0 j) = 0→(qReason s kn a' b' (rd_T34 l0 j) = 0↔nOpen c' (rd_T34 l0 j) = true):=by
            intro j h5 h6 h7
            have hp:=h2.pages _ (rd34_mem l0 j h5 h6)
            exact oldest_reason hp (fun h8 => hins _ h8 hp.2.2.2.1) (fun h8 => hgd _ h8 hp.2.2.2.1) h7
          have R1 : ∀ i,0≤i→i < (l0.length : Int)→Ev (fun k => reclaimplan_Reason.f k l0 l1 s i kn) (qReason s kn a b (rd_T34 l0 i)):=by
            intro i h5 h6
            have:=Reason_ok (kn:=kn) h1 i
            rw [if_pos ⟨h5,h6⟩] at this
            exact this
          have R2 : ∀ i,0≤i→i < (l0.length : Int)→Ev (fun k => reclaimplan_Reason.f k l0 w s i kn) (qReason s kn a' b' (rd_T34 l0 i)):=by
            intro i h5 h6
            have:=Reason_ok (kn:=kn) h3 i
            rw [if_pos ⟨h5,h6⟩] at this
            exact this
          obtain ⟨K4,H4⟩:=R2 st.1 n0 n1
          obtain ⟨K3,H3⟩:=oldest_l1 l0 l1 w s kn a b c' a' b' st.1 st.2 c.1 n0 n1 n4 hre (qReason s kn a' b' (rd_T34 l0 st.1)) (by rw [hre _ n0 n1 n2,n3]) R1 R2 l0.length 0 (by omega) (by omega)
          dsimp only at H3 H4
          obtain ⟨K5,H5⟩:=hw true (ev0 (K3 + K4) (fun k hk => by
            rw [H4 k (by omega)]
            simp only [Option.bind_some]
            exact H3 k (by omega)))
          dsimp only at H5
          refine ev1 (K2 + K5 + 1) (fun k hk => ?_)
          obtain ⟨m,rfl⟩ : ∃ m,k = m + 1:=⟨k - 1,by omega⟩
          simp only [estoverslaw39_ReclaimplanOldest.j0]
          rw [if_neg Bool.false_ne_true,H2 _ (by omega)]
          simp only [Option.bind_some]
          rw [if_neg (by omega),decide_eq_false (by omega)]
          simp only [estoverslaw39_ReclaimplanOldest.j1]
          rw [if_neg Bool.false_ne_true,Option.bind_some,if_pos (by simp;omega),Option.bind_some,List.nil_append]
          exact H5 m (by omega)
      · obtain ⟨K2,H2⟩:=Next_bad (kn:=kn) h1 h2
        dsimp only at H2
        refine ev1 (K2 + 1) (fun k hk => ?_)
        simp only [estoverslaw39_ReclaimplanOldest.j0]
        rw [if_neg Bool.false_ne_true,H2 k (by omega)]
        simp only [Option.bind_some]
        rw [if_pos (by decide)]
        exact jt k (by omega)
    obtain ⟨K6,H6⟩:=key
    dsimp only at H6
    refine ⟨K + K6,?_⟩
    unfold estoverslaw39_ReclaimplanOldest.f estoverslaw39_Few.f
    rw [hK _ (by omega),few_f]
    simp only [Option.bind_some]
    rw [if_pos (by trivial),decide_eq_true c]
    exact H6 _ (by omega)
  · refine ⟨K + 1,?_⟩
    unfold estoverslaw39_ReclaimplanOldest.f estoverslaw39_Few.f
    rw [hK _ (by omega),few_f]
    simp only [Option.bind_some]
    rw [if_pos (by trivial)]
    simp only [estoverslaw39_ReclaimplanOldest.j0]
    rw [decide_eq_false c,if_pos (by simp),hK _ (by omega)]
    rfl
end Go.Proofs.Ytnmenfkmndnoaaa.Pr
