/- Check, whole: the program's and the reference's answers are one and the same error. -/
import Derived.Test.YtnmenfkmndnoaaaQb
set_option linter.unusedVariables false
set_option linter.unusedSimpArgs false
namespace Go.Proofs.Ytnmenfkmndnoaaa.Pr
open Go.RowKit Go.Proofs.YtnmenfkmndnoaaaW.PrintWords Go.Proofs.YtnmenfkmndnoaaaW.PrintLast Go.Proofs.YtnmenfkmndnoaaaW.PrintMore
open Classical in
noncomputable def chk (l : List S30) : Int :=
  if ¬ (1≤l.length∧l.length≤8) then 9 else if ¬ TreeFrom l 0 then 1 else if ¬ (AmtFrom l 0∧RootOk l) then 2 else if ¬ MaxFrom l 0 then 17 else if ¬ OwnFrom l 0 then 11 else 0
theorem chk_zero (l : List S30) : chk l = 0↔Valid l:=by
  unfold chk
  constructor
  · intro h
    by_cases c1 : 1≤l.length∧l.length≤8
    · rw [if_neg (not_not_intro c1)] at h
      by_cases c2 : TreeFrom l 0
      · rw [if_neg (not_not_intro c2)] at h
        by_cases c3 : AmtFrom l 0∧RootOk l
        · rw [if_neg (not_not_intro c3)] at h
          by_cases c4 : MaxFrom l 0
          · rw [if_neg (not_not_intro c4)] at h
            by_cases c5 : OwnFrom l 0
            · exact ⟨c1.1,c1.2,c2,c3.1,c3.2,c4,c5⟩
            · rw [if_pos c5] at h;omega
          · rw [if_pos c4] at h;omega
        · rw [if_pos c3] at h;omega
      · rw [if_pos c2] at h;omega
    · rw [if_pos c1] at h;omega
  · intro h
    rw [if_neg (not_not_intro ⟨h.len1,h.len8⟩),if_neg (not_not_intro h.tree),if_neg (not_not_intro ⟨h.amts,h.root⟩),if_neg (not_not_intro h.maxs),if_neg (not_not_intro h.owns)]
theorem check_ev (l : List S30) : Ev (fun k => accounts_Check.f k l) (chk l):=by
  unfold chk
  by_cases c1 : 1≤l.length∧l.length≤8
  · rw [if_neg (not_not_intro c1)]
    obtain ⟨h1,h8⟩:=c1
    have key : ∀ r,Ev (fun k => accounts_Check.j0 k l false) r→Ev (fun k => accounts_Check.f k l) r:=by
      rintro r ⟨K,hK⟩
      refine ev0 K (fun k hk => ?_)
      unfold accounts_Check.f
      rw [if_neg (by omega),decide_eq_false (by omega)]
      exact hK k hk
    apply key
    obtain ⟨b1,⟨K1,H1⟩,q1⟩:=tree_ev l h8 l.length 0 (by omega) (by omega)
    obtain ⟨b2,⟨K2,H2⟩,q2⟩:=amounts_ev l h1 h8 l.length 0 (by omega) (by omega)
    obtain ⟨t,⟨K3,H3⟩,q3⟩:=over_ev l h8 l.length 0 (by omega) (by omega)
    dsimp only at H1 H2 H3
    by_cases c2 : TreeFrom l 0
    · rw [if_neg (not_not_intro c2)]
      obtain rfl:=q1.2 c2
      by_cases c3 : AmtFrom l 0∧RootOk l
      · rw [if_neg (not_not_intro c3)]
        obtain rfl:=q2.2 c3
        by_cases c4 : MaxFrom l 0
        · rw [if_neg (not_not_intro c4)]
          have ht : t < 0:=q3.2 c4
          obtain ⟨r,⟨K4,H4⟩,hr⟩:=own_f l h8 c2 c3.1
          obtain ⟨m,⟨K5,H5⟩,hm⟩:=min_f r (by have:=hr.1;omega) (by have:=hr.1;omega)
          dsimp only at H4 H5
          have hown : m < 0↔¬ OwnFrom l 0:=by
            rw [hm]
            constructor
            · rintro ⟨j,h2,h3,h4⟩ ho
              have e:=hr.2 j h2 (by have:=hr.1;omega)
              rw [if_pos (by have:=hr.1;omega)] at e
              have:=ho j h2 (by have:=hr.1;omega)
              have hu : uu l j = (rd_T30 l j).f1:=rfl
              omega
            · intro hn
              refine Classical.byContradiction fun hc => hn fun j h2 h3 => ?_
              have e:=hr.2 j h2 h3
              rw [if_pos h3] at e
              have : ¬ rd r j < 0:=fun h4 => hc ⟨j,h2,by have:=hr.1;omega,h4⟩
              have hu : uu l j = (rd_T30 l j).f1:=rfl
              omega
          by_cases c5 : OwnFrom l 0
          · rw [if_neg (not_not_intro c5)]
            refine ev1 (K1 + K2 + K3 + K4 + K5) (fun k hk => ?_)
            simp only [accounts_Check.j0,accounts_tree.f,accounts_amounts.f,api_Account_77.f,api_Account_92.f]
            rw [if_neg (by simp),H1 k (by omega)]
            simp only [Option.bind_some]
            rw [if_pos (by trivial),H2 k (by omega)]
            simp only [Option.bind_some]
            rw [if_pos (by trivial),H3 k (by omega)]
            simp only [Option.bind_some]
            rw [if_neg (by simp;omega),H4 k (by omega)]
            simp only [Option.bind_some]
            rw [H5 k (by omega)]
            simp only [Option.bind_some]
            rw [if_neg (fun h => hown.1 h c5)]
          · rw [if_pos c5]
            refine ev1 (K1 + K2 + K3 + K4 + K5) (fun k hk => ?_)
            simp only [accounts_Check.j0,accounts_tree.f,accounts_amounts.f,api_Account_77.f,api_Account_92.f]
            rw [if_neg (by simp),H1 k (by omega)]
            simp only [Option.bind_some]
            rw [if_pos (by trivial),H2 k (by omega)]
            simp only [Option.bind_some]
            rw [if_pos (by trivial),H3 k (by omega)]
            simp only [Option.bind_some]
            rw [if_neg (by simp;omega),H4 k (by omega)]
            simp only [Option.bind_some]
            rw [H5 k (by omega)]
            simp only [Option.bind_some]
            rw [if_pos (hown.2 c5)]
        · rw [if_pos c4]
          have ht : ¬ t < 0:=fun h => c4 (q3.1 h)
          refine ev1 (K1 + K2 + K3) (fun k hk => ?_)
          simp only [accounts_Check.j0,accounts_tree.f,accounts_amounts.f,api_Account_77.f,api_Account_92.f]
          rw [if_neg (by simp),H1 k (by omega)]
          simp only [Option.bind_some]
          rw [if_pos (by trivial),H2 k (by omega)]
          simp only [Option.bind_some]
          rw [if_pos (by trivial),H3 k (by omega)]
          simp only [Option.bind_some]
          rw [if_pos (by simp;omega)]
      · rw [if_pos c3]
        have hb : b2 = false:=by cases b2 with | true => exact absurd (q2.1 rfl) c3 | false => rfl
        subst hb
        refine ev1 (K1 + K2 + K3) (fun k hk => ?_)
        simp only [accounts_Check.j0,accounts_tree.f,accounts_amounts.f]
        rw [if_neg (by simp),H1 k (by omega)]
        simp only [Option.bind_some]
        rw [if_pos (by trivial),H2 k (by omega)]
        rfl
    · rw [if_pos c2]
      have hb : b1 = false:=by cases b1 with | true => exact absurd (q1.1 rfl) c2 | false => rfl
      subst hb
      refine ev1 (K1 + K2 + K3) (fun k hk => ?_)
      simp only [accounts_Check.j0,accounts_tree.f]
      rw [if_neg (by simp),H1 k (by omega)]
      rfl
  · rw [if_pos c1]
    have key : ∀ k,1≤k→accounts_Check.j0 k l true = some 9:=by
      intro k hk
      obtain ⟨m,rfl⟩ : ∃ m,k = m + 1:=⟨k - 1,by omega⟩
      simp only [accounts_Check.j0]
      rw [if_pos (by trivial)]
    refine ev0 1 (fun k hk => ?_)
    unfold accounts_Check.f
    by_cases c : (l.length : Int) < 1
    · rw [if_pos c];exact key k hk
    · rw [if_neg c,decide_eq_true (by omega)];exact key k hk
theorem kids_ev (l : List S30) (h8 : l.length≤8) (ha : AmtFrom l 0) (x : Int) : ∀ (d i : Nat),1≤i→i + d = l.length→Ev (fun k => estoversref19_kids.l0 k l x (ks l (uu l) x i) i) (ks l (uu l) x l.length):=by
  intro d
  induction d with
  | zero =>
    intro i h0 hi
    obtain rfl : i = l.length:=by omega
    exact ev1 0 (fun k _ => by simp only [estoversref19_kids.l0];rw [if_neg (by omega)])
  | succ d ih =>
    intro i h0 hi
    have hlt : (i : Int) < (l.length : Int):=by omega
    obtain ⟨K,hK⟩:=ih (i + 1) (by omega) (by omega)
    have hb:=ksu_bd h8 ha x i (by omega)
    have hu:=uu_bd ha i (by omega) hlt
    refine ev1 K (fun k hk => ?_)
    have hK:=hK k hk
    simp only [ks_succ] at hK
    simp only [estoversref19_kids.l0]
    rw [if_pos hlt,if_pos (by omega)]
    by_cases c : (rd_T30 l i).f0 = x
    · rw [if_pos (show 1≤i∧(rd_T30 l i).f0 = x from ⟨h0,c⟩)] at hK
      rw [if_pos c,wr64 (by unfold uu at hu;omega) (by unfold uu at hu;omega),wr64 (by omega) (by omega)]
      exact hK
    · rw [if_neg (show ¬ (1≤i∧(rd_T30 l i).f0 = x) from fun h => c h.2),Int.add_zero] at hK
      rw [if_neg c,wr64 (by omega) (by omega)]
      exact hK
theorem kids_f (l : List S30) (h1 : 1≤l.length) (h8 : l.length≤8) (ha : AmtFrom l 0) (x : Int) : Ev (fun k => estoversref19_kids.f k l x) (ks l (uu l) x l.length):=by
  obtain ⟨K,hK⟩:=kids_ev l h8 ha x (l.length - 1) 1 (by omega) (by omega)
  exact ev0 K (fun k hk => hK k hk)
theorem ref_l3 (l : List S30) (h1 : 1≤l.length) (h8 : l.length≤8) (ha : AmtFrom l 0) : ∀ (d : Nat) (i : Int),0≤i→i + d = (l.length : Int)→(OwnFrom l i→Ev (fun k => estoversref19_Check.l3 k l i) 0)∧(¬ OwnFrom l i→Ev (fun k => estoversref19_Check.l3 k l i) 11):=by
  intro d
  induction d with
  | zero =>
    intro i h0 hi
    exact ⟨fun _ => ev1 0 (fun k _ => by simp only [estoversref19_Check.l3];rw [if_neg (by omega)]),fun h => absurd (fun j h2 h3 => by omega) h⟩
  | succ d ih =>
    intro i h0 hi
    have hlt : i < (l.length : Int):=by omega
    have e : OwnFrom l i↔ks l (uu l) i l.length≤(rd_T30 l i).f1∧OwnFrom l (i + 1):=from_step hlt
    obtain ⟨K1,H1⟩:=kids_f l h1 h8 ha i
    dsimp only at H1
    by_cases c : (rd_T30 l i).f1 < ks l (uu l) i l.length
    · refine ⟨fun h => absurd (e.1 h).1 (by omega),fun _ => ev1 K1 (fun k hk => ?_)⟩
      simp only [estoversref19_Check.l3]
      rw [if_pos hlt,if_pos h0,H1 k hk]
      simp only [Option.bind_some]
      rw [if_pos c]
    · have stp : ∀ r,Ev (fun k => estoversref19_Check.l3 k l (i + 1)) r→Ev (fun k => estoversref19_Check.l3 k l i) r:=by
        rintro r ⟨K,hK⟩
        refine ev1 (K + K1) (fun k hk => ?_)
        simp only [estoversref19_Check.l3]
        rw [if_pos hlt,if_pos h0,H1 k (by omega)]
        simp only [Option.bind_some]
        rw [if_neg c,wr64 (by omega) (by omega)]
        exact hK k (by omega)
      have h2 : OwnFrom l i↔OwnFrom l (i + 1):=by rw [e];exact ⟨fun h => h.2,fun h => ⟨by omega,h⟩⟩
      rw [h2]
      exact ⟨fun h => stp _ ((ih (i + 1) (by omega) (by omega)).1 h),fun h => stp _ ((ih (i + 1) (by omega) (by omega)).2 h)⟩
theorem ref_l2 (l : List S30) (h8 : l.length≤8) : ∀ (d : Nat) (i : Int),0≤i→i + d = (l.length : Int)→(MaxFrom l i→∀ r,Ev (fun k => estoversref19_Check.l3 k l 0) r→Ev (fun k => estoversref19_Check.l2 k l i) r)∧(¬ MaxFrom l i→Ev (fun k => estoversref19_Check.l2 k l i) 17):=by
  intro d
  induction d with
  | zero =>
    intro i h0 hi
    refine ⟨fun _ r ⟨K,hK⟩ => ev1 K (fun k hk => ?_),fun h => absurd (fun j h2 h3 => by omega) h⟩
    simp only [estoversref19_Check.l2]
    rw [if_neg (by omega)]
    exact hK k hk
  | succ d ih =>
    intro i h0 hi
    have hlt : i < (l.length : Int):=by omega
    have e : MaxFrom l i↔(rd_T30 l i).f1≤(rd_T30 l i).f4∧MaxFrom l (i + 1):=from_step hlt
    by_cases c : (rd_T30 l i).f1 > (rd_T30 l i).f4
    · refine ⟨fun h => absurd (e.1 h).1 (by omega),fun _ => ev1 0 (fun k hk => ?_)⟩
      simp only [estoversref19_Check.l2]
      rw [if_pos hlt,if_pos h0,if_pos c]
    · have stp : ∀ r,Ev (fun k => estoversref19_Check.l2 k l (i + 1)) r→Ev (fun k => estoversref19_Check.l2 k l i) r:=by
        rintro r ⟨K,hK⟩
        refine ev1 K (fun k hk => ?_)
        simp only [estoversref19_Check.l2]
        rw [if_pos hlt,if_pos h0,if_neg c,wr64 (by omega) (by omega)]
        exact hK k (by omega)
      have h2 : MaxFrom l i↔MaxFrom l (i + 1):=by rw [e];exact ⟨fun h => h.2,fun h => ⟨by omega,h⟩⟩
      rw [h2]
      exact ⟨fun h r hr => stp _ ((ih (i + 1) (by omega) (by omega)).1 h r hr),fun h => stp _ ((ih (i + 1) (by omega) (by omega)).2 h)⟩
theorem ref_l1 (l : List S30) (h1 : 1≤l.length) (h8 : l.length≤8) : ∀ (d : Nat) (i : Int),0≤i→i + d = (l.length : Int)→(AmtFrom l i∧RootOk l→∀ r,Ev (fun k => estoversref19_Check.l2 k l 0) r→Ev (fun k => estoversref19_Check.l1 k l i) r)∧(¬ (AmtFrom l i∧RootOk l)→Ev (fun k => estoversref19_Check.l1 k l i) 2):=by
  intro d
  induction d with
  | zero =>
    intro i h0 hi
    have ha : AmtFrom l i:=fun j h2 h3 => by omega
    have stp : ∀ b : Bool,∀ r,(b = true→r = 2)→(b = false→Ev (fun k => estoversref19_Check.l2 k l 0) r)→Ev (fun k => estoversref19_Check.j5 k l b) r:=by
      intro b r hr hf
      cases b with
      | true => refine ev1 0 (fun k _ => ?_);simp only [estoversref19_Check.j5];rw [if_pos (by trivial),hr rfl]
      | false =>
        obtain ⟨K,hK⟩:=hf rfl
        refine ev1 K (fun k hk => ?_);simp only [estoversref19_Check.j5];rw [if_neg (by simp)];exact hK k hk
    have top : ∀ r,(¬ RootOk l→r = 2)→(RootOk l→Ev (fun k => estoversref19_Check.l2 k l 0) r)→Ev (fun k => estoversref19_Check.l1 k l i) r:=by
      intro r hr hf
      by_cases c : (rd_T30 l 0).f2 = 0
      · obtain ⟨K,hK⟩:=stp ((rd_T30 l 0).f3 != 0) r (fun h => hr (fun h2 => by simp [h2.2] at h)) (fun h => hf ⟨c,by simpa using h⟩)
        refine ev1 K (fun k hk => ?_)
        simp only [estoversref19_Check.l1]
        rw [if_neg (by omega),if_pos (by omega),if_pos c]
        exact hK k hk
      · obtain ⟨K,hK⟩:=stp true r (fun h => hr (fun h2 => c h2.1)) (fun h => by cases h)
        refine ev1 K (fun k hk => ?_)
        simp only [estoversref19_Check.l1]
        rw [if_neg (by omega),if_pos (by omega),if_neg c]
        exact hK k hk
    exact ⟨fun h r hr => top r (fun h2 => absurd h.2 h2) (fun _ => hr),fun h => top 2 (fun _ => rfl) (fun h2 => absurd ⟨ha,h2⟩ h)⟩
  | succ d ih =>
    intro i h0 hi
    have hlt : i < (l.length : Int):=by omega
    have e : AmtFrom l i↔amtAt l i∧AmtFrom l (i + 1):=from_step hlt
    have stp : ∀ r,(¬ amtAt l i→r = 2)→(amtAt l i→Ev (fun k => estoversref19_Check.l1 k l (i + 1)) r)→Ev (fun k => estoversref19_Check.l1 k l i) r:=by
      intro r hr hf
      have s2 : ∃ K,∀ b : Bool,∀ k,K≤k→((b = true→¬ amtAt l i)∧(b = false→amtAt l i))→estoversref19_Check.j4 k l i b = some r:=by
        by_cases c : amtAt l i
        · obtain ⟨K,hK⟩:=hf c
          refine ⟨K + 1,fun b k hk hb => ?_⟩
          obtain ⟨m,rfl⟩ : ∃ m,k = m + 1:=⟨k - 1,by omega⟩
          simp only [estoversref19_Check.j4]
          cases b with
          | true => exact absurd c (hb.1 rfl)
          | false => rw [if_neg (by simp),wr64 (by omega) (by omega)];exact hK m (by omega)
        · refine ⟨1,fun b k hk hb => ?_⟩
          obtain ⟨m,rfl⟩ : ∃ m,k = m + 1:=⟨k - 1,by omega⟩
          simp only [estoversref19_Check.j4]
          cases b with
          | false => exact absurd (hb.2 rfl) c
          | true => rw [if_pos (by trivial),hr c]
      obtain ⟨K,hK⟩:=s2
      refine ev1 K (fun k hk => ?_)
      simp only [estoversref19_Check.l1]
      rw [if_pos hlt,if_pos h0,in_iff19,in_iff19,in_iff19,in_iff19]
      simp only [Option.bind_some]
      have q : amtAt l i↔amt (rd_T30 l i).f1∧amt (rd_T30 l i).f2∧amt (rd_T30 l i).f3∧amt (rd_T30 l i).f4:=Iff.rfl
      by_cases q1 : amt (rd_T30 l i).f1
      · rw [decide_eq_true q1,if_pos (by trivial)]
        by_cases q2 : amt (rd_T30 l i).f2
        · rw [decide_eq_true q2,if_pos (by trivial)]
          by_cases q3 : amt (rd_T30 l i).f3
          · rw [decide_eq_true q3,if_pos (by trivial)]
            exact hK _ k hk ⟨fun h h2 => by simp [h2.2.2.2] at h,fun h => ⟨q1,q2,q3,by simpa using h⟩⟩
          · rw [decide_eq_false q3,if_neg (by simp)]
            exact hK _ k hk ⟨fun _ h2 => q3 h2.2.2.1,fun h => by cases h⟩
        · rw [decide_eq_false q2,if_neg (by simp)]
          exact hK _ k hk ⟨fun _ h2 => q2 h2.2.1,fun h => by cases h⟩
      · rw [decide_eq_false q1,if_neg (by simp)]
        exact hK _ k hk ⟨fun _ h2 => q1 h2.1,fun h => by cases h⟩
    constructor
    · intro h r hr
      exact stp r (fun h2 => absurd (e.1 h.1).1 h2) (fun _ => (ih (i + 1) (by omega) (by omega)).1 ⟨(e.1 h.1).2,h.2⟩ r hr)
    · intro h
      exact stp 2 (fun _ => rfl) (fun h2 => (ih (i + 1) (by omega) (by omega)).2 (fun h3 => h ⟨e.2 ⟨h2,h3.1⟩,h3.2⟩))
theorem ref_l0 (l : List S30) (h8 : l.length≤8) : ∀ (d : Nat) (i : Int),0≤i→i + d = (l.length : Int)→(TreeFrom l i→∀ r,Ev (fun k => estoversref19_Check.l1 k l 0) r→Ev (fun k => estoversref19_Check.l0 k l i) r)∧(¬ TreeFrom l i→Ev (fun k => estoversref19_Check.l0 k l i) 1):=by
  intro d
  induction d with
  | zero =>
    intro i h0 hi
    refine ⟨fun _ r ⟨K,hK⟩ => ev1 K (fun k hk => ?_),fun h => absurd (fun j h2 h3 => by omega) h⟩
    simp only [estoversref19_Check.l0]
    rw [if_neg (by omega)]
    exact hK k hk
  | succ d ih =>
    intro i h0 hi
    have hlt : i < (l.length : Int):=by omega
    have e : TreeFrom l i↔treeAt l i∧TreeFrom l (i + 1):=from_step hlt
    have ei:=treeAt_iff l i h0
    have stp : ∀ r,(¬ treeAt l i→r = 1)→(treeAt l i→Ev (fun k => estoversref19_Check.l0 k l (i + 1)) r)→Ev (fun k => estoversref19_Check.l0 k l i) r:=by
      intro r hr hf
      have s2 : ∃ K,∀ b : Bool,∀ k,K≤k→((b = true→¬ treeAt l i)∧(b = false→treeAt l i))→estoversref19_Check.j2 k l i b = some r:=by
        by_cases c : treeAt l i
        · obtain ⟨K,hK⟩:=hf c
          refine ⟨K + 1,fun b k hk hb => ?_⟩
          obtain ⟨m,rfl⟩ : ∃ m,k = m + 1:=⟨k - 1,by omega⟩
          simp only [estoversref19_Check.j2]
          cases b with
          | true => exact absurd c (hb.1 rfl)
          | false => rw [if_neg (by simp),wr64 (by omega) (by omega)];exact hK m (by omega)
        · refine ⟨1,fun b k hk hb => ?_⟩
          obtain ⟨m,rfl⟩ : ∃ m,k = m + 1:=⟨k - 1,by omega⟩
          simp only [estoversref19_Check.j2]
          cases b with
          | false => exact absurd (hb.2 rfl) c
          | true => rw [if_pos (by trivial),hr c]
      obtain ⟨K,hK⟩:=s2
      refine ev1 K (fun k hk => ?_)
      simp only [estoversref19_Check.l0]
      by_cases c0 : i = 0
      · by_cases c1 : (rd_T30 l i).f0 = -1
        · rw [if_pos hlt,if_pos c0,if_pos h0,if_pos c1,if_neg (by omega)]
          exact hK _ k hk ⟨fun h => (by cases h),fun _ => ei.2 (Or.inl ⟨c0,c1⟩)⟩
        · rw [if_pos hlt,if_pos c0,if_pos h0,if_neg c1]
          exact hK _ k hk ⟨fun _ h => (ei.1 h).elim (fun q => c1 q.2) (fun q => by omega),fun h => by cases h⟩
      · by_cases c1 : (rd_T30 l i).f0 < 0
        · rw [if_pos hlt,if_neg c0,if_pos (by omega),if_pos h0,if_pos c1]
          exact hK _ k hk ⟨fun _ h => (ei.1 h).elim (fun q => by omega) (fun q => by omega),fun h => by cases h⟩
        · rw [if_pos hlt,if_neg c0,if_pos (by omega),if_pos h0,if_neg c1]
          exact hK _ k hk ⟨fun h1 h => (ei.1 h).elim (fun q => by omega) (fun q => by have:=of_decide_eq_true h1;omega),fun h => ei.2 (Or.inr ⟨by omega,by omega,by have:=of_decide_eq_false h;omega⟩)⟩
    constructor
    · intro h r hr
      exact stp r (fun h2 => absurd (e.1 h).1 h2) (fun _ => (ih (i + 1) (by omega) (by omega)).1 (e.1 h).2 r hr)
    · intro h
      exact stp 1 (fun _ => rfl) (fun h2 => (ih (i + 1) (by omega) (by omega)).2 (fun h3 => h (e.2 ⟨h2,h3⟩)))
theorem check19_ev (l : List S30) : Ev (fun k => estoversref19_Check.f k l) (chk l):=by
  unfold chk
  by_cases c1 : 1≤l.length∧l.length≤8
  · rw [if_neg (not_not_intro c1)]
    obtain ⟨h1,h8⟩:=c1
    have key : ∀ r,Ev (fun k => estoversref19_Check.l0 k l 0) r→Ev (fun k => estoversref19_Check.f k l) r:=by
      rintro r ⟨K,hK⟩
      refine ev0 (K + 1) (fun k hk => ?_)
      obtain ⟨m,rfl⟩ : ∃ m,k = m + 1:=⟨k - 1,by omega⟩
      unfold estoversref19_Check.f
      rw [if_neg (by omega),decide_eq_false (by omega)]
      simp only [estoversref19_Check.j0]
      rw [if_neg (by simp)]
      exact hK m (by omega)
    apply key
    obtain ⟨a1,b1⟩:=ref_l0 l h8 l.length 0 (by omega) (by omega)
    obtain ⟨a2,b2⟩:=ref_l1 l h1 h8 l.length 0 (by omega) (by omega)
    obtain ⟨a3,b3⟩:=ref_l2 l h8 l.length 0 (by omega) (by omega)
    by_cases c2 : TreeFrom l 0
    · rw [if_neg (not_not_intro c2)]
      refine a1 c2 _ ?_
      by_cases c3 : AmtFrom l 0∧RootOk l
      · rw [if_neg (not_not_intro c3)]
        refine a2 c3 _ ?_
        obtain ⟨a4,b4⟩:=ref_l3 l h1 h8 c3.1 l.length 0 (by omega) (by omega)
        by_cases c4 : MaxFrom l 0
        · rw [if_neg (not_not_intro c4)]
          refine a3 c4 _ ?_
          by_cases c5 : OwnFrom l 0
          · rw [if_neg (not_not_intro c5)];exact a4 c5
          · rw [if_pos c5];exact b4 c5
        · rw [if_pos c4];exact b3 c4
      · rw [if_pos c3];exact b2 c3
    · rw [if_pos c2];exact b1 c2
  · rw [if_pos c1]
    have key : ∀ k,1≤k→estoversref19_Check.j0 k l true = some 9:=by
      intro k hk
      obtain ⟨m,rfl⟩ : ∃ m,k = m + 1:=⟨k - 1,by omega⟩
      simp only [estoversref19_Check.j0]
      rw [if_pos (by trivial)]
    refine ev0 1 (fun k hk => ?_)
    unfold estoversref19_Check.f
    by_cases c : (l.length : Int) < 1
    · rw [if_pos c];exact key k hk
    · rw [if_neg c,decide_eq_true (by omega)];exact key k hk
theorem ks_low (l : List S30) (ht : TreeFrom l 0) (f : Int→Int) (x : Int) : ∀ m : Nat,m≤l.length→(m : Int)≤x + 1→ks l f x m = 0
  | 0,_,_ => rfl
  | m + 1,h1,h2 => by
    rw [ks_succ,ks_low l ht f x m (by omega) (by omega),if_neg]
    · rfl
    · rintro ⟨h3,h4⟩
      have:=(ht m (by omega) (by omega)).2 (by omega)
      omega
theorem up_ind {l : List S30} (ht : TreeFrom l 0) {P : Int→Prop} (h0 : P 0) (hs : ∀ c : Int,0 < c→c < (l.length : Int)→0≤(rd_T30 l c).f0→(rd_T30 l c).f0 < c→P (rd_T30 l c).f0→P c) : ∀ c : Int,0≤c→c < (l.length : Int)→P c:=by
  have key : ∀ (n : Nat) (c : Int),c < (n : Int)→0≤c→c < (l.length : Int)→P c:=by
    intro n
    induction n with
    | zero => intro c h1 h2;omega
    | succ n ih =>
      intro c h1 h2 h3
      by_cases e : c = 0
      · rw [e];exact h0
      · have:=(ht c (by omega) h3).2 (by omega)
        exact hs c (by omega) h3 this.1 this.2 (ih _ (by omega) this.1 (by omega))
  intro c h1 h2
  exact key l.length c (by omega) h1 h2
def mi (l : List S30) (j : Int) : Int:=(rd_T30 l j).f2
def wa (l : List S30) (j : Int) : Int:=mn (rd_T30 l j).f2 (rd_T30 l j).f1
theorem mi_bd {l : List S30} (h : AmtFrom l 0) (j : Int) (h0 : 0≤j) (h1 : j < (l.length : Int)) : 0≤mi l j∧mi l j≤1048576:=(h j h0 h1).2.1
theorem wa_bd {l : List S30} (h : AmtFrom l 0) (j : Int) (h0 : 0≤j) (h1 : j < (l.length : Int)) : 0≤wa l j∧wa l j≤1048576:=by
  have a:=(h j h0 h1).2.1
  have b:=(h j h0 h1).1
  unfold amt at a b
  unfold wa mn
  split <;> omega
theorem ksm_bd {l : List S30} (h8 : l.length≤8) {f : Int→Int} (h : ∀ j : Int,0≤j→j < (l.length : Int)→0≤f j∧f j≤1048576) (x : Int) (m : Nat) (hm : m≤l.length) : 0≤ks l f x m∧ks l f x m≤8388608:=by
  have:=ks_bd l f x m (B:=1048576) (by omega) (fun j h1 h2 => h j (by omega) (by omega))
  omega
end Go.Proofs.Ytnmenfkmndnoaaa.Pr
