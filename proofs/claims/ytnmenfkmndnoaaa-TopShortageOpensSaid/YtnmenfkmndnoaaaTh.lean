/- Overcommit of the program, own usages, and where more is left than is promised some account has pages that may be taken. -/
import Derived.Test.YtnmenfkmndnoaaaQf
import Derived.Test.YtnmenfkmndnoaaaFestoversref19Own
import Derived.Test.YtnmenfkmndnoaaaFprotectionOvercommit
set_option linter.unusedVariables false
set_option linter.unusedSimpArgs false
namespace Go.Proofs.Ytnmenfkmndnoaaa.Pr
open Go.RowKit Go.Proofs.YtnmenfkmndnoaaaW.PrintWords Go.Proofs.YtnmenfkmndnoaaaW.PrintLast Go.Proofs.YtnmenfkmndnoaaaW.PrintMore
def OverAt (l : List S30) (fr x : Int) : Prop:=(x = 0∧fr < ks l (mi l) x l.length)∨(0 < x∧mi l x < ks l (mi l) x l.length)
def OverRes (l : List S30) (fr i r : Int) : Prop:=(r = -1∧∀ j,i≤j→j < (l.length : Int)→¬ OverAt l fr j)∨(i≤r∧r < (l.length : Int)∧OverAt l fr r∧∀ j,i≤j→j < r→¬ OverAt l fr j)
theorem overRes_uniq {l : List S30} {fr i r r' : Int} (hi : 0≤i) (h : OverRes l fr i r) (h' : OverRes l fr i r') : r = r':=by
  rcases h with ⟨h1,h2⟩ | ⟨h1,h2,h3,h4⟩ <;> rcases h' with ⟨h1',h2'⟩ | ⟨h1',h2',h3',h4'⟩
  · omega
  · exact absurd h3' (h2 _ h1' h2')
  · exact absurd h3 (h2' _ h1 h2)
  · by_cases c : r < r'
    · exact absurd h3 (h4' _ h1 c)
    · by_cases c2 : r' < r
      · exact absurd h3' (h4 _ h1' c2)
      · omega
theorem overRes_step {l : List S30} {fr i r : Int} (hi : i < (l.length : Int)) (hn : ¬ OverAt l fr i) (h : OverRes l fr (i + 1) r) : OverRes l fr i r:=by
  have q : ∀ P : Int→Prop,(∀ j,i + 1≤j→P j)→P i→∀ j,i≤j→P j:=fun P h1 h2 j h3 => by
    by_cases e : j = i
    · rw [e];exact h2
    · exact h1 j (by omega)
  rcases h with ⟨h1,h2⟩ | ⟨h1,h2,h3,h4⟩
  · exact Or.inl ⟨h1,q (fun j => j < (l.length : Int)→¬ OverAt l fr j) h2 (fun _ => hn)⟩
  · exact Or.inr ⟨by omega,h2,h3,q (fun j => j < r→¬ OverAt l fr j) h4 (fun _ => hn)⟩
theorem overRes_hit {l : List S30} {fr i : Int} (hi : i < (l.length : Int)) (h : OverAt l fr i) : OverRes l fr i i:=Or.inr ⟨by omega,hi,h,fun j h1 h2 => by omega⟩
theorem rd_drop (l : List S30) (j : Int) (h : 0≤j) : rd_T30 (l.drop 1) j = rd_T30 l (j + 1):=by
  unfold rd_T30
  rw [List.getD_eq_getElem?_getD,List.getD_eq_getElem?_getD,List.getElem?_drop,show 1 + j.toNat = (j + 1).toNat by omega]
theorem over_l1 (l : List S30) (hV : Valid l) (fr : Int) (s : List Int) (hs : s.length = l.length) (hsr : ∀ x : Int,0≤x→x < (l.length : Int)→rd s x = ks l (mi l) x l.length) : ∀ (d : Nat) (i : Int),0≤i→i + d = (l.length : Int)→∃ r,Ev (fun k => protection_Overcommit.l1 k l fr s (s.length : Int) i) (r,0)∧OverRes l fr i r:=by
  intro d
  have h8:=hV.len8
  induction d with
  | zero =>
    intro i h0 hi
    exact ⟨-1,ev1 0 (fun k _ => by simp only [protection_Overcommit.l1];rw [if_neg (by omega)]),Or.inl ⟨rfl,fun j h1 h2 => by omega⟩⟩
  | succ d ih =>
    intro i h0 hi
    have hlt : i < (l.length : Int):=by omega
    obtain ⟨r,⟨K,hK⟩,hr⟩:=ih (i + 1) (by omega) (by omega)
    have hsi:=hsr i h0 hlt
    have j3 : ∀ c : Bool,∀ k,K + 1≤k→protection_Overcommit.j3 k l fr i s (s.length : Int) i c = some (if c = true then (i,0) else (r,0)):=by
      intro c k hk
      obtain ⟨m,rfl⟩ : ∃ m,k = m + 1:=⟨k - 1,by omega⟩
      simp only [protection_Overcommit.j3]
      cases c with
      | true => rfl
      | false => rw [if_neg (by simp),if_neg (by simp),wr64 (by omega) (by omega)];exact hK m (by omega)
    have key : ∀ c : Bool,(c = true↔OverAt l fr i)→(∀ k,K + 1≤k→protection_Overcommit.l1 (k + 1) l fr s (s.length : Int) i = protection_Overcommit.j3 k l fr i s (s.length : Int) i c)→∃ r,Ev (fun k => protection_Overcommit.l1 k l fr s (s.length : Int) i) (r,0)∧OverRes l fr i r:=by
      intro c hc h1
      refine ⟨if c = true then i else r,ev1 (K + 1) (fun k hk => by rw [h1 k hk,j3 c k hk];cases c <;> rfl),?_⟩
      cases c with
      | true => exact overRes_hit hlt (hc.1 rfl)
      | false => exact overRes_step hlt (fun h => by simpa using hc.2 h) hr
    by_cases c0 : i = 0
    · by_cases c1 : rd s i > fr
      · refine key true (by simp;exact Or.inl ⟨c0,by omega⟩) (fun k hk => ?_)
        simp only [protection_Overcommit.l1]
        rw [if_pos (by omega),if_pos h0,if_pos (by omega),if_pos c0,if_pos c1]
      · refine key false (by simp;unfold OverAt;omega) (fun k hk => ?_)
        simp only [protection_Overcommit.l1]
        rw [if_pos (by omega),if_pos h0,if_pos (by omega),if_pos c0,if_neg c1,if_neg (by omega)]
    · refine key (decide (rd s i > (rd_T30 l i).f2)) (by rw [decide_eq_true_iff];unfold OverAt;have hmm : mi l i = (rd_T30 l i).f2:=rfl;exact ⟨fun h => Or.inr ⟨by omega,by omega⟩,fun h => by omega⟩) (fun k hk => ?_)
      simp only [protection_Overcommit.l1]
      rw [if_pos (by omega),if_pos h0,if_pos (by omega),if_neg c0,if_pos (by omega),if_pos (by omega)]
theorem over_l0 (l : List S30) (hV : Valid l) (fr : Int) : ∀ (d i : Nat) (s : List Int),1≤i→i + d = l.length→s.length = l.length→(∀ x : Int,0≤x→x < (l.length : Int)→rd s x = ks l (mi l) x i)→∃ r,Ev (fun k => protection_Overcommit.l0 k l fr s (l.drop 1) ((l.drop 1).length : Int) ((i : Int) - 1)) (r,0)∧OverRes l fr 0 r:=by
  intro d
  have h8:=hV.len8
  have hdl : (l.drop 1).length = l.length - 1:=by simp
  induction d with
  | zero =>
    intro i s hi hd hs hsr
    obtain rfl : i = l.length:=by omega
    obtain ⟨r,⟨K,hK⟩,hr⟩:=over_l1 l hV fr s hs hsr l.length 0 (by omega) (by omega)
    refine ⟨r,ev1 K (fun k hk => ?_),hr⟩
    simp only [protection_Overcommit.l0]
    rw [if_neg (by omega)]
    exact hK k hk
  | succ d ih =>
    intro i s hi hd hs hsr
    have ht:=(hV.tree i (by omega) (by omega)).2 (by omega)
    have hm:=mi_bd hV.amts i (by omega) (by omega)
    have hb:=ksm_bd h8 (mi_bd hV.amts) (rd_T30 l i).f0 i (by omega)
    have hp:=hsr (rd_T30 l i).f0 (by omega) (by omega)
    have e : rd_T30 (l.drop 1) ((i : Int) - 1) = rd_T30 l i:=by rw [rd_drop l _ (by omega)];congr 1;omega
    have hmm : mi l i = (rd_T30 l i).f2:=rfl
    obtain ⟨r,⟨K,hK⟩,hr⟩:=ih (i + 1) (s.set (rd_T30 l i).f0.toNat (rd s (rd_T30 l i).f0 + (rd_T30 l i).f2)) (by omega) (by omega) (by simp [hs]) (fun x h0 h1 => by
      rw [rd_set _ _ _ _ (by omega) (by omega) h0,ks_succ]
      by_cases c : x = (rd_T30 l i).f0
      · rw [if_pos c,if_pos (show 1≤i∧(rd_T30 l i).f0 = x from ⟨hi,c.symm⟩),hp,c];rfl
      · rw [if_neg c,if_neg (show ¬ (1≤i∧(rd_T30 l i).f0 = x) from fun h => c h.2.symm),hsr x h0 h1];omega)
    refine ⟨r,ev1 K (fun k hk => ?_),hr⟩
    simp only [protection_Overcommit.l0]
    rw [if_pos (by omega),if_pos (by omega),if_pos (by omega),e,if_pos (by omega),if_pos (by omega),wr64 (i:=rd s (rd_T30 l i).f0 + (rd_T30 l i).f2) (by omega) (by omega),wr64 (by omega) (by omega)]
    have:=hK k hk
    rw [show ((i + 1 : Nat) : Int) - 1 = (i : Int) - 1 + 1 by omega] at this
    exact this
theorem over_prog (l : List S30) (fr : Int) : ∃ r e,Ev (fun k => protection_Overcommit.f k l fr) (r,e)∧(e = 0→Valid l∧0≤fr∧fr≤1048576∧OverRes l fr 0 r):=by
  obtain ⟨K1,H1⟩:=check_ev l
  dsimp only at H1
  by_cases c : chk l = 0
  · have hV:=(chk_zero l).1 c
    have j1 : ∀ k,1≤k→protection_Overcommit.j0 k l fr true = some (0,2):=by
      intro k hk
      obtain ⟨m,rfl⟩ : ∃ m,k = m + 1:=⟨k - 1,by omega⟩
      simp only [protection_Overcommit.j0]
      rw [if_pos (by trivial)]
    by_cases c2 : fr < 0∨fr > 1048576
    · refine ⟨0,2,ev0 (K1 + 1) (fun k hk => ?_),fun h => by omega⟩
      unfold protection_Overcommit.f
      rw [H1 k (by omega)]
      simp only [Option.bind_some]
      rw [if_pos c]
      by_cases c3 : fr < 0
      · rw [if_pos c3];exact j1 k (by omega)
      · rw [if_neg c3,decide_eq_true (by omega)];exact j1 k (by omega)
    · have h1:=hV.len1
      have h8:=hV.len8
      obtain ⟨r,⟨K3,H3⟩,hr⟩:=over_l0 l hV fr (l.length - 1) 1 (List.replicate l.length 0) (by omega) (by omega) (by simp) (fun x h0 hx => by rw [rd_replicate,ks_low l hV.tree (mi l) x 1 (by omega) (by omega)])
      refine ⟨r,0,ev0 (K1 + K3 + 1) (fun k hk => ?_),fun _ => ⟨hV,by omega,by omega,hr⟩⟩
      unfold protection_Overcommit.f
      rw [H1 k (by omega)]
      simp only [Option.bind_some]
      rw [if_pos c,if_neg (by omega),decide_eq_false (by omega)]
      obtain ⟨m,rfl⟩ : ∃ m,k = m + 1:=⟨k - 1,by omega⟩
      simp only [protection_Overcommit.j0]
      rw [if_neg (by simp),if_pos (by omega),if_pos (by omega),if_pos (by omega)]
      exact H3 m (by omega)
  · refine ⟨0,chk l,ev0 K1 (fun k hk => ?_),fun h => absurd h c⟩
    unfold protection_Overcommit.f
    rw [H1 k hk]
    simp only [Option.bind_some]
    rw [if_neg c]
def ownOf (l : List S30) (x : Int) : Int:=uu l x - ks l (uu l) x l.length
theorem ownOf_bd {l : List S30} (hV : Valid l) {x : Int} (h0 : 0≤x) (h1 : x < (l.length : Int)) : 0≤ownOf l x∧ownOf l x≤1048576:=by
  have a:=hV.owns x h0 h1
  have b:=uu_bd hV.amts x h0 h1
  have c:=ksu_bd hV.len8 hV.amts x l.length (by omega)
  unfold ownOf
  have e : uu l x = (rd_T30 l x).f1:=rfl
  omega
theorem ownRef_ev (l : List S30) (hV : Valid l) (x : Int) (h0 : 0≤x) (h1 : x < (l.length : Int)) : Ev (fun k => estoversref19_Own.f k l x) (ownOf l x):=by
  obtain ⟨b,_,⟨K2,H2⟩,hb⟩:=has_ev l x
  obtain rfl:=hb.2 ⟨hV,h0,h1⟩
  obtain ⟨K4,H4⟩:=kids_f l hV.len1 hV.len8 hV.amts x
  dsimp only at H2 H4
  have hb:=ownOf_bd hV h0 h1
  refine ev0 (K2 + K4) (fun k hk => ?_)
  unfold estoversref19_Own.f
  rw [H2 k (by omega)]
  simp only [Option.bind_some]
  rw [if_pos (by trivial),if_pos h0,if_pos h1,H4 k (by omega)]
  simp only [Option.bind_some]
  have hu : uu l x = (rd_T30 l x).f1:=rfl
  rw [wr64 (by unfold ownOf at hb;omega) (by unfold ownOf at hb;omega)]
  rfl
def Takes (l : List S30) (v q : List Int) (s x : Int) : Prop:=rd v x < ownOf l x∧¬ Gd l q (mx s 0) false x
theorem ks_sub (l : List S30) (f g : Int→Int) (x : Int) : ∀ m : Nat,ks l (fun j => f j - g j) x m = ks l f x m - ks l g x m
  | 0 => by rw [ks_zero',ks_zero',ks_zero'];rfl
  | m + 1 => by
    rw [ks_succ,ks_succ,ks_succ,ks_sub l f g x m]
    by_cases c : 1≤m∧(rd_T30 l m).f0 = x
    · rw [if_pos c,if_pos c,if_pos c];omega
    · rw [if_neg c,if_neg c,if_neg c];omega
theorem Anc.between {l : List S30} (ht : TreeFrom l 0) {x y c : Int} (hx : Anc l x c) (hy : Anc l y c) (hc : c < (l.length : Int)) (h : x≤y) : Anc l x y:=by
  induction hy with
  | here => exact hx
  | up h1 h2 ih =>
    have htc:=(ht _ (by omega) hc).2 h1
    rcases anc_iff.1 hx with e | ⟨_,e⟩
    · have:=h2.le ht (by omega);omega
    · exact ih e (by omega)
theorem anc_trans {l : List S30} {x y c : Int} (hx : Anc l x y) (hy : Anc l y c) : Anc l x c:=by
  induction hy with
  | here => exact hx
  | up h1 _ ih => exact Anc.up h1 ih
def NoOver (l : List S30) (fr : Int) : Prop:=∀ j,0≤j→j < (l.length : Int)→¬ OverAt l fr j
theorem takes_exists {l : List S30} (hV : Valid l) {v q : List Int} (hL : LvOk l v) (hq : IsIn l v q) (hown : ∀ j : Int,0≤j→j < (l.length : Int)→rd v j≤ownOf l j) {fr : Int} (hno : NoOver l fr) : ∀ (d : Nat) (s : Int),0≤s→s < (l.length : Int)→(l.length : Int) - s≤d→(if s = 0 then fr else mi l s) < uu l s - rd q s→∃ j,0≤j∧j < (l.length : Int)∧Anc l s j∧Takes l v q s j:=by
  intro d
  induction d with
  | zero => intro s h0 h1 h2;omega
  | succ d ih =>
    intro s h0 h1 h2 hr
    have hm : mx s 0 = s:=by unfold mx;split <;> omega
    by_cases c : rd v s < ownOf l s
    · refine ⟨s,h0,h1,Anc.here,c,?_⟩
      rw [hm,gd_end hV.tree h1 (by omega)]
      exact fun h => h rfl
    · have hs:=hown s h0 h1
      have hqs:=hq.2 s h0 h1
      have hover:=hno s h0 h1
      have hch : ∃ c : Int,1≤c∧c < (l.length : Int)∧(rd_T30 l c).f0 = s∧mi l c < uu l c - rd q c:=by
        refine Classical.byContradiction fun hn => ?_
        have hle:=ks_le l (f:=fun j => uu l j - rd q j) (g:=mi l) s l.length (fun j h3 h4 h5 => Classical.byContradiction fun h6 => hn ⟨j,h3,h4,h5,by omega⟩)
        rw [ks_sub] at hle
        unfold ownOf at c hs
        unfold OverAt at hover
        by_cases e : s = 0
        · rw [if_pos e] at hr;omega
        · rw [if_neg e] at hr;omega
      obtain ⟨c,hc1,hc2,hc3,hc4⟩:=hch
      have htc:=(hV.tree c (by omega) hc2).2 (by omega)
      obtain ⟨j,hj0,hj1,hja,hjt⟩:=ih c (by omega) hc2 (by omega) (by rw [if_neg (by omega)];exact hc4)
      have hsc : Anc l s c:=Anc.up (by omega) (by rw [hc3];exact Anc.here)
      refine ⟨j,hj0,hj1,anc_trans hsc hja,hjt.1,?_⟩
      have hmc : mx c 0 = c:=by unfold mx;split <;> omega
      have hn:=hjt.2
      rw [hmc] at hn
      rw [hm]
      rintro (⟨y,hy1,hy2,hy3⟩ | h)
      · by_cases e : c < y
        · exact hn (Or.inl ⟨y,hy1,e,hy3⟩)
        · have hyc:=Anc.between hV.tree hy1 hja hj1 (by omega)
          rcases anc_iff.1 hyc with e2 | ⟨_,e2⟩
          · rw [e2] at hy3
            unfold GP at hy3
            simp only [Bool.false_eq_true,if_false] at hy3
            unfold uu mi at hc4
            omega
          · have:=e2.le hV.tree (by omega);omega
      · exact h (anc_trans hsc hja)
end Go.Proofs.Ytnmenfkmndnoaaa.Pr
