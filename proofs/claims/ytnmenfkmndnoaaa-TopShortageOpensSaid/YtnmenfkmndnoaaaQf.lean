/- The reference's Path, Inside, Guarded; Own and Open in both. -/
import Derived.Test.YtnmenfkmndnoaaaQe
import Derived.Test.YtnmenfkmndnoaaaFestoversref19Inside
import Derived.Test.YtnmenfkmndnoaaaFestoversref19Path
import Derived.Test.YtnmenfkmndnoaaaFestoversref20Guarded
import Derived.Test.YtnmenfkmndnoaaaM2
set_option linter.unusedVariables false
set_option linter.unusedSimpArgs false
namespace Go.Proofs.Ytnmenfkmndnoaaa.Pr
open Go.RowKit Go.Proofs.YtnmenfkmndnoaaaW.PrintWords Go.Proofs.YtnmenfkmndnoaaaW.PrintLast Go.Proofs.YtnmenfkmndnoaaaW.PrintMore
theorem has_ev (l : List S30) (x : Int) : ∃ b,Ev (fun k => accounts_is.f k l x) b∧Ev (fun k => estoversref19_has.f k l x) b∧(b = true↔Valid l∧0≤x∧x < (l.length : Int)):=by
  obtain ⟨K1,H1⟩:=check_ev l
  obtain ⟨K2,H2⟩:=check19_ev l
  dsimp only at H1 H2
  by_cases c : chk l = 0
  · by_cases c2 : x≥0
    · refine ⟨decide (x < (l.length : Int)),ev0 K1 (fun k hk => ?_),ev0 K2 (fun k hk => ?_),?_⟩
      · unfold accounts_is.f
        rw [H1 k hk]
        simp only [Option.bind_some]
        rw [if_pos c,if_pos c2]
      · unfold estoversref19_has.f
        rw [H2 k hk]
        simp only [Option.bind_some]
        rw [if_pos c,if_pos c2]
      · rw [decide_eq_true_iff]
        exact ⟨fun h => ⟨(chk_zero l).1 c,c2,h⟩,fun h => h.2.2⟩
    · refine ⟨false,ev0 K1 (fun k hk => ?_),ev0 K2 (fun k hk => ?_),?_⟩
      · unfold accounts_is.f
        rw [H1 k hk]
        simp only [Option.bind_some]
        rw [if_pos c,if_neg c2]
      · unfold estoversref19_has.f
        rw [H2 k hk]
        simp only [Option.bind_some]
        rw [if_pos c,if_neg c2]
      · simp only [Bool.false_eq_true,false_iff];exact fun h => c2 h.2.1
  · refine ⟨false,ev0 K1 (fun k hk => ?_),ev0 K2 (fun k hk => ?_),?_⟩
    · unfold accounts_is.f
      rw [H1 k hk]
      simp only [Option.bind_some]
      rw [if_neg c]
    · unfold estoversref19_has.f
      rw [H2 k hk]
      simp only [Option.bind_some]
      rw [if_neg c]
    · simp only [Bool.false_eq_true,false_iff];exact fun h => c ((chk_zero l).2 h.1)
theorem path_l0 (l : List S30) (hV : Valid l) : ∀ x : Int,0≤x→x < (l.length : Int)→∀ a : List Int,(a.length : Int) + x < 100→∃ p,Ev (fun k => estoversref19_Path.l0 k l x a) p∧p.length≤100∧∀ y,y ∈ p↔y ∈ a∨Anc l y x:=by
  refine up_ind hV.tree (P:=fun x => ∀ a : List Int,(a.length : Int) + x < 100→∃ p,Ev (fun k => estoversref19_Path.l0 k l x a) p∧p.length≤100∧∀ y,y ∈ p↔y ∈ a∨Anc l y x) ?_ ?_
  · intro a ha
    have hr0 : (rd_T30 l 0).f0 = -1:=(hV.tree 0 (by omega) (by have:=hV.len1;omega)).1 rfl
    refine ⟨a ++ [0],ev0 2 (fun k hk => ?_),by simp;omega,fun y => ?_⟩
    · obtain ⟨m,rfl⟩ : ∃ m,k = m + 1 + 1:=⟨k - 2,by omega⟩
      simp only [estoversref19_Path.l0]
      rw [if_pos (by omega),if_pos (by omega),if_pos (by omega),if_pos (by have:=hV.len1;omega),hr0,if_neg (by omega)]
    · rw [List.mem_append,List.mem_singleton]
      constructor
      · rintro (h | h)
        · exact Or.inl h
        · rw [h];exact Or.inr Anc.here
      · rintro (h | h)
        · exact Or.inl h
        · rcases anc_iff.1 h with h | ⟨h,_⟩
          · exact Or.inr h
          · omega
  · intro x hx0 hx1 hp0 hp1 ih a ha
    obtain ⟨p,⟨K,hK⟩,hl,hp⟩:=ih (a ++ [x]) (by simp;omega)
    refine ⟨p,ev1 K (fun k hk => ?_),hl,fun y => ?_⟩
    · simp only [estoversref19_Path.l0]
      rw [if_pos (by omega),if_pos (by omega),if_pos (by omega),if_pos hx1]
      exact hK k hk
    · rw [hp,List.mem_append,List.mem_singleton,anc_iff (x:=y) (c:=x)]
      constructor
      · rintro ((h | h) | h)
        · exact Or.inl h
        · exact Or.inr (Or.inl h)
        · exact Or.inr (Or.inr ⟨hx0,h⟩)
      · rintro (h | h | ⟨_,h⟩)
        · exact Or.inl (Or.inl h)
        · exact Or.inl (Or.inr h)
        · exact Or.inr h
theorem inside19_l0 (s : Int) (p : List Int) (hp : p.length≤100) : ∀ (d : Nat) (i : Int),0≤i→i + d = (p.length : Int)→∃ b,Ev (fun k => estoversref19_Inside.l0 k s p i) b∧(b = true↔∃ j,i≤j∧j < (p.length : Int)∧rd p j = s):=by
  intro d
  induction d with
  | zero =>
    intro i h0 hi
    refine ⟨false,ev1 0 (fun k _ => by simp only [estoversref19_Inside.l0];rw [if_neg (by omega)]),?_⟩
    simp only [Bool.false_eq_true,false_iff]
    rintro ⟨j,h1,h2,_⟩;omega
  | succ d ih =>
    intro i h0 hi
    have hlt : i < (p.length : Int):=by omega
    obtain ⟨b,⟨K,hK⟩,hb⟩:=ih (i + 1) (by omega) (by omega)
    by_cases c : rd p i = s
    · refine ⟨true,ev1 0 (fun k _ => by simp only [estoversref19_Inside.l0];rw [if_pos hlt,if_pos h0,if_pos c]),?_⟩
      simp only [true_iff]
      exact ⟨i,by omega,hlt,c⟩
    · refine ⟨b,ev1 K (fun k hk => ?_),?_⟩
      · simp only [estoversref19_Inside.l0]
        rw [if_pos hlt,if_pos h0,if_neg c,wr64 (by omega) (by omega)]
        exact hK k hk
      · rw [hb]
        constructor
        · rintro ⟨j,h1,h2,h3⟩;exact ⟨j,by omega,h2,h3⟩
        · rintro ⟨j,h1,h2,h3⟩
          refine ⟨j,?_,h2,h3⟩
          by_cases e : j = i
          · rw [e] at h3;exact absurd h3 c
          · omega
theorem mem_rd (p : List Int) (s : Int) : (∃ j : Int,0≤j∧j < (p.length : Int)∧rd p j = s)↔s ∈ p:=by
  rw [List.mem_iff_getElem]
  constructor
  · rintro ⟨j,h0,h1,h2⟩
    refine ⟨j.toNat,by omega,?_⟩
    unfold rd at h2
    rw [List.getD_eq_getElem?_getD,List.getElem?_eq_getElem (by omega)] at h2
    exact h2
  · rintro ⟨n,hn,h⟩
    refine ⟨n,by omega,by omega,?_⟩
    unfold rd
    rw [List.getD_eq_getElem?_getD,Int.toNat_natCast,List.getElem?_eq_getElem hn]
    exact h
theorem inside19_ev (l : List S30) (x s : Int) : ∃ b,Ev (fun k => estoversref19_Inside.f k l x s) b∧(b = true↔(Valid l∧0≤x∧x < (l.length : Int))∧(s = -1∨Anc l s x)):=by
  obtain ⟨b,_,⟨K1,H1⟩,hb⟩:=has_ev l x
  dsimp only at H1
  cases b with
  | false =>
    refine ⟨false,ev0 K1 (fun k hk => ?_),?_⟩
    · unfold estoversref19_Inside.f
      rw [H1 k hk]
      rfl
    · simp only [Bool.false_eq_true,false_iff]
      exact fun h => by simpa using hb.2 h.1
  | true =>
    have hv:=hb.1 rfl
    by_cases c : s = -1
    · refine ⟨true,ev0 K1 (fun k hk => ?_),?_⟩
      · unfold estoversref19_Inside.f
        rw [H1 k hk]
        simp only [Option.bind_some]
        rw [if_pos (by trivial),if_pos c]
      · simp only [true_iff];exact ⟨hv,Or.inl c⟩
    · obtain ⟨p,⟨K2,H2⟩,hpl,hp⟩:=path_l0 l hv.1 x hv.2.1 hv.2.2 [] (by have:=hv.1.len8;simp;omega)
      obtain ⟨b,⟨K3,H3⟩,hb3⟩:=inside19_l0 s p hpl p.length 0 (by omega) (by omega)
      dsimp only at H2 H3
      refine ⟨b,ev0 (K1 + K2 + K3) (fun k hk => ?_),?_⟩
      · unfold estoversref19_Inside.f estoversref19_Path.f
        rw [H1 k (by omega)]
        simp only [Option.bind_some]
        rw [if_pos (by trivial),if_neg c,if_pos (by trivial),H2 k (by omega)]
        simp only [Option.bind_some]
        exact H3 k (by omega)
      · rw [hb3,mem_rd,hp]
        simp [hv,c]
theorem guarded20_l0 (l : List S30) (q : List Int) (hV : Valid l) (hq : q.length = l.length) (hqb : ∀ x : Int,0≤x→x < (l.length : Int)→0≤rd q x∧rd q x≤268435456) (low : Bool) (s : Int) (hs : -1≤s) : ∀ (x : Int),0≤x→x < (l.length : Int)→(s = -1∨Anc l s x)→∃ b,Ev (fun k => estoversref20_Guarded.l0 k l s low q x) b∧(b = true↔Gd l q (mx s 0) low x):=by
  have fin : ∀ x : Int,0≤x→x < (l.length : Int)→(s = -1∨Anc l s x)→¬ (0 < x∧x≠s)→∃ b,Ev (fun k => estoversref20_Guarded.l0 k l s low q x) b∧(b = true↔Gd l q (mx s 0) low x):=by
    intro x h0 h1 ha hn
    have hle : mx s 0 = x:=by
      unfold mx
      rcases ha with h | h
      · split <;> omega
      · have:=h.le hV.tree h1
        split <;> omega
    have j : ∀ k,1≤k→estoversref20_Guarded.j2 k l s low q x false = some false:=by
      intro k hk
      obtain ⟨m,rfl⟩ : ∃ m,k = m + 1:=⟨k - 1,by omega⟩
      simp only [estoversref20_Guarded.j2]
      rw [if_neg (by simp)]
    refine ⟨false,ev1 1 (fun k hk => ?_),?_⟩
    · simp only [estoversref20_Guarded.l0]
      by_cases c : x > 0
      · rw [if_pos c,show (x != s) = false by simp;omega];exact j k hk
      · rw [if_neg c];exact j k hk
    · rw [gd_end hV.tree h1 (by omega),hle];simp
  refine up_ind hV.tree (P:=fun x => (s = -1∨Anc l s x)→∃ b,Ev (fun k => estoversref20_Guarded.l0 k l s low q x) b∧(b = true↔Gd l q (mx s 0) low x)) (fun h => fin 0 (by omega) (by have:=hV.len1;omega) h (by omega)) ?_
  intro x hx0 hx1 hp0 hp1 ih ha
  by_cases c : x = s
  · exact fin x (by omega) hx1 ha (by omega)
  · have hb:=hqb x (by omega) hx1
    have hu:=(hV.amts x (by omega) hx1).1
    unfold amt at hu
    have w : wrap64 ((rd_T30 l x).f1 - rd q x) = (rd_T30 l x).f1 - rd q x:=wr64 (by omega) (by omega)
    have hlt : mx s 0 < x:=by
      unfold mx
      rcases ha with h | h
      · split <;> omega
      · have:=h.le hV.tree hx1
        split <;> omega
    have ha2 : s = -1∨Anc l s (rd_T30 l x).f0:=by
      rcases ha with h | h
      · exact Or.inl h
      · rcases anc_iff.1 h with h2 | ⟨_,h2⟩
        · exact absurd h2.symm c
        · exact Or.inr h2
    obtain ⟨b,⟨K,hK⟩,hb2⟩:=ih ha2
    have j3 : ∀ m k,K + 1≤k→estoversref20_Guarded.j3 k l s low q x m = some (if (rd_T30 l x).f1 - rd q x≤m then true else b):=by
      intro m k hk
      obtain ⟨k2,rfl⟩ : ∃ k2,k = k2 + 1:=⟨k - 1,by omega⟩
      simp only [estoversref20_Guarded.j3]
      rw [if_pos (by omega),if_pos hx1,if_pos (by omega),w]
      by_cases c2 : (rd_T30 l x).f1 - rd q x≤m
      · rw [if_pos c2,if_pos c2]
      · rw [if_neg c2,if_neg c2];exact hK k2 (by omega)
    have top : ∀ m,(m = if low = true then (rd_T30 l x).f3 else (rd_T30 l x).f2)→∀ k,K + 2≤k→estoversref20_Guarded.l0 (k + 1) l s low q x = some (if (rd_T30 l x).f1 - rd q x≤m then true else b):=by
      intro m hm k hk
      obtain ⟨k2,rfl⟩ : ∃ k2,k = k2 + 1:=⟨k - 1,by omega⟩
      simp only [estoversref20_Guarded.l0]
      rw [if_pos (by omega),show (x != s) = true by simpa using c]
      simp only [estoversref20_Guarded.j2]
      rw [if_pos (by trivial),if_pos (by omega),if_pos hx1]
      cases low with
      | true => rw [if_pos (by trivial),hm,j3 _ k2 (by omega)];rfl
      | false => rw [if_neg (by simp),hm,j3 _ k2 (by omega)];rfl
    refine ⟨_,ev1 (K + 2) (top _ rfl),?_⟩
    rw [gd_step hx0 hlt,← hb2]
    unfold GP
    by_cases c2 : (rd_T30 l x).f1 - rd q x≤if low = true then (rd_T30 l x).f3 else (rd_T30 l x).f2
    · rw [if_pos c2];simp [c2]
    · rw [if_neg c2];simp [c2]
theorem guarded20_bad (l : List S30) (v : List Int) (x s : Int) (low : Bool) (h : ¬ (LvOk l v∧ArgOk l x s)) : Ev (fun k => estoversref20_Guarded.f k l v x s low) true:=by
  obtain ⟨b,_,⟨K,hK⟩,hb⟩:=valid_ev l v
  dsimp only at hK
  have j : ∀ k,1≤k→estoversref20_Guarded.j0 k l v x s low true = some true:=by
    intro k hk
    obtain ⟨m,rfl⟩ : ∃ m,k = m + 1:=⟨k - 1,by omega⟩
    simp only [estoversref20_Guarded.j0]
    rw [if_pos (by trivial)]
  refine ev0 (K + 1) (fun k hk => ?_)
  unfold estoversref20_Guarded.f
  rw [hK k (by omega)]
  simp only [Option.bind_some]
  cases b with
  | false => rw [if_neg (by simp)];exact j k (by omega)
  | true =>
    rw [if_pos (by trivial)]
    by_cases c1 : x < 0
    · rw [if_pos c1];exact j k (by omega)
    · rw [if_neg c1]
      by_cases c2 : x≥(l.length : Int)
      · rw [if_pos c2];exact j k (by omega)
      · rw [if_neg c2]
        by_cases c3 : s < -1
        · rw [if_pos c3];exact j k (by omega)
        · rw [if_neg c3,if_pos (Classical.byContradiction fun c4 => h ⟨hb.1 rfl,by omega,by omega,by omega,by omega⟩)];exact j k (by omega)
theorem guarded20_ok (l : List S30) (v q : List Int) (x s : Int) (low : Bool) (hL : LvOk l v) (hA : ArgOk l x s) (hq : IsIn l v q) : ∃ b,Ev (fun k => estoversref20_Guarded.f k l v x s low) b∧(b = true↔Gd l q (mx s 0) low x):=by
  obtain ⟨b,_,⟨K,hK⟩,hb⟩:=valid_ev l v
  obtain rfl:=hb.2 hL
  obtain ⟨q',_,⟨K2,H2⟩,hq',hqb⟩:=sums_ev l v hL
  obtain rfl:=isIn_uniq hL.1.tree hq hq'
  obtain ⟨h1,h2,h3,h4⟩:=hA
  obtain ⟨bi,⟨K4,H4⟩,hbi⟩:=inside19_ev l x s
  dsimp only at hK H2 H4
  by_cases ha : s = -1∨Anc l s x
  · obtain rfl:=hbi.2 ⟨⟨hL.1,h1,h2⟩,ha⟩
    obtain ⟨b,⟨K3,H3⟩,hb3⟩:=guarded20_l0 l q hL.1 hq.1 hqb low s h3 x h1 h2 ha
    dsimp only at H3
    refine ⟨b,ev0 (K + K2 + K3 + K4 + 1) (fun k hk => ?_),hb3⟩
    unfold estoversref20_Guarded.f
    rw [hK k (by omega)]
    simp only [Option.bind_some]
    rw [if_pos (by trivial),if_neg (by omega),if_neg (by omega),if_neg (by omega),if_neg (by omega),H4 k (by omega)]
    simp only [Option.bind_some,Bool.not_true]
    obtain ⟨m,rfl⟩ : ∃ m,k = m + 1:=⟨k - 1,by omega⟩
    simp only [estoversref20_Guarded.j0]
    rw [if_neg (by simp),H2 m (by omega)]
    simp only [Option.bind_some]
    exact H3 m (by omega)
  · have hbi2 : bi = false:=by cases bi with | true => exact absurd (hbi.1 rfl).2 ha | false => rfl
    subst hbi2
    refine ⟨true,ev0 (K + K4 + 1) (fun k hk => ?_),?_⟩
    · unfold estoversref20_Guarded.f
      rw [hK k (by omega)]
      simp only [Option.bind_some]
      rw [if_pos (by trivial),if_neg (by omega),if_neg (by omega),if_neg (by omega),if_neg (by omega),H4 k (by omega)]
      simp only [Option.bind_some,Bool.not_false]
      obtain ⟨m,rfl⟩ : ∃ m,k = m + 1:=⟨k - 1,by omega⟩
      simp only [estoversref20_Guarded.j0]
      rw [if_pos (by trivial)]
    · simp only [true_iff]
      refine Or.inr fun h => ?_
      by_cases c : s = -1
      · exact ha (Or.inl c)
      · rw [show mx s 0 = s by unfold mx;split <;> omega] at h
        exact ha (Or.inr h)
theorem guarded_ev (l : List S30) (v : List Int) (x s : Int) (low : Bool) : ∃ b,Ev (fun k => protection_Guarded.f k l v x s low) b∧Ev (fun k => estoversref20_Guarded.f k l v x s low) b∧(b = false→LvOk l v∧ArgOk l x s)∧∀ q,LvOk l v→ArgOk l x s→IsIn l v q→(b = true↔Gd l q (mx s 0) low x):=by
  by_cases h : LvOk l v∧ArgOk l x s
  · obtain ⟨q,_,_,hq,_⟩:=sums_ev l v h.1
    obtain ⟨b,h1,h2⟩:=guarded_ok l v q x s low h.1 h.2 hq
    obtain ⟨b',h1',h2'⟩:=guarded20_ok l v q x s low h.1 h.2 hq
    obtain rfl : b = b':=by rw [Bool.eq_iff_iff,h2,h2']
    exact ⟨b,h1,h1',fun _ => h,fun q' _ _ hq' => by obtain rfl:=isIn_uniq h.1.1.tree hq hq';exact h2⟩
  · exact ⟨true,guarded_bad l v x s low h,guarded20_bad l v x s low h,(fun h => by cases h),fun q h1 h2 _ => absurd ⟨h1,h2⟩ h⟩
end Go.Proofs.Ytnmenfkmndnoaaa.Pr
