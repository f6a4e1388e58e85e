/- Leaving pages of accounts, Inside of the program, and the question that ask answers. -/
import Derived.Test.YtnmenfkmndnoaaaQf
import Derived.Test.YtnmenfkmndnoaaaKas
import Derived.Test.YtnmenfkmndnoaaaM2
set_option linter.unusedVariables false
set_option linter.unusedSimpArgs false
namespace Go.Proofs.Ytnmenfkmndnoaaa.Pr
open Go.RowKit Go.Proofs.YtnmenfkmndnoaaaW.PrintWords Go.Proofs.YtnmenfkmndnoaaaW.PrintLast Go.Proofs.YtnmenfkmndnoaaaW.PrintMore
def lcnt (x : Int) : List S34→Int
  | [] => 0
  | p :: ps => (if p.f6 = true∧p.f1 = x then 1 else 0) + lcnt x ps
theorem lcnt_bd (x : Int) : ∀ ps,0≤lcnt x ps∧lcnt x ps≤(ps.length : Int)
  | [] => by simp [lcnt]
  | p :: ps => by
    have:=lcnt_bd x ps
    simp only [lcnt,List.length_cons]
    split <;> omega
theorem lvFold_rd (n : Int) : ∀ (ps : List S34) (a : List Int),(a.length : Int) = n→(∀ p ∈ ps,p.f1 < n)→(∀ x,0≤rd a x∧rd a x + ps.length≤2000000)→∀ x,0≤x→x < n→rd (ps.foldl lvStep a) x = rd a x + lcnt x ps
  | [],a,_,_,_,x,_,_ => by simp [lcnt]
  | p :: ps,a,hl,hp,hb,x,h0,h1 => by
    have hpn:=hp p (by simp)
    have hbp:=hb p.f1
    simp only [List.length_cons] at hb hbp
    have e : ∀ y,0≤y→rd (lvStep a p) y = rd a y + (if p.f6 = true∧p.f1 = y then 1 else 0):=by
      intro y hy
      unfold lvStep
      by_cases c : p.f6 = true∧0≤p.f1
      · rw [if_pos c,rd_set _ _ _ _ c.2 (by omega) hy,wr64 (by omega) (by omega)]
        by_cases c2 : y = p.f1
        · rw [if_pos c2,if_pos ⟨c.1,c2.symm⟩,c2]
        · rw [if_neg c2,if_neg (fun h => c2 h.2.symm)];omega
      · rw [if_neg c,if_neg (fun h => c ⟨h.1,by omega⟩)];omega
    have e2 : ∀ y,0≤rd (lvStep a p) y∧rd (lvStep a p) y + ps.length≤2000000:=by
      intro y
      have:=hb y
      by_cases c : 0≤y
      · rw [e y c];split <;> omega
      · unfold lvStep
        split
        · rename_i c2
          have h2:=hb (0 : Int)
          have e3 : rd (a.set p.f1.toNat (wrap64 (rd a p.f1 + 1))) y = rd (a.set p.f1.toNat (wrap64 (rd a p.f1 + 1))) 0:=by unfold rd;rw [show y.toNat = (0 : Int).toNat by omega]
          rw [e3,rd_set _ _ _ _ c2.2 (by omega) (by omega),wr64 (by omega) (by omega)]
          split <;> omega
        · omega
    rw [List.foldl_cons,lvFold_rd n ps _ (by rw [lvStep_length];exact hl) (fun q hq => hp q (by simp [hq])) e2 x h0 h1,e x h0]
    simp only [lcnt]
    omega
theorem lvOf_length (n : Nat) (ps : List S34) : (lvOf n ps).length = n:=by unfold lvOf;rw [lvFold_length];simp
theorem lvOf_rd (n : Nat) (ps : List S34) (hl : ps.length < 1000000) (hp : ∀ p ∈ ps,p.f1 < (n : Int)) (x : Int) (h0 : 0≤x) (h1 : x < (n : Int)) : rd (lvOf n ps) x = lcnt x ps:=by
  unfold lvOf
  rw [lvFold_rd (n : Int) ps _ (by simp) hp (fun y => by rw [rd_replicate];omega) x h0 h1,rd_replicate]
  omega
theorem lvOk_of {l1 : List S30} (hV : Valid l1) (l0 : List S34) (hl : l0.length < 1000000) (hp : ∀ p ∈ l0,p.f1 < (l1.length : Int)) : LvOk l1 (lvOf l1.length l0):=by
  refine ⟨hV,lvOf_length _ _,fun j h0 h1 => ?_⟩
  rw [lvOf_length] at h1
  rw [lvOf_rd _ _ hl hp j h0 h1]
  have:=lcnt_bd j l0
  unfold amt
  omega
theorem index_l0 (p : List Int) (s : Int) (hp : p.length≤100) : ∀ (d : Nat) (i : Int),0≤i→i + d = (p.length : Int)→∃ r,Ev (fun k => slices_Index_int_int.l0 k p s (p.length : Int) i) r∧(r≥0↔∃ j,i≤j∧j < (p.length : Int)∧rd p j = s):=by
  intro d
  induction d with
  | zero =>
    intro i h0 hi
    refine ⟨-1,ev1 0 (fun k _ => by simp only [slices_Index_int_int.l0];rw [if_neg (by omega)]),?_⟩
    constructor
    · omega
    · rintro ⟨j,h1,h2,_⟩;omega
  | succ d ih =>
    intro i h0 hi
    have hlt : i < (p.length : Int):=by omega
    obtain ⟨r,⟨K,hK⟩,hr⟩:=ih (i + 1) (by omega) (by omega)
    by_cases c : s = rd p i
    · refine ⟨i,ev1 0 (fun k _ => by simp only [slices_Index_int_int.l0];rw [if_pos hlt,if_pos h0,if_pos hlt,if_pos c]),?_⟩
      exact ⟨fun _ => ⟨i,by omega,hlt,c.symm⟩,fun _ => h0⟩
    · refine ⟨r,ev1 K (fun k hk => ?_),?_⟩
      · simp only [slices_Index_int_int.l0]
        rw [if_pos hlt,if_pos h0,if_pos hlt,if_neg c,wr64 (by omega) (by omega)]
        exact hK k hk
      · rw [hr]
        constructor
        · rintro ⟨j,h1,h2,h3⟩;exact ⟨j,by omega,h2,h3⟩
        · rintro ⟨j,h1,h2,h3⟩
          refine ⟨j,?_,h2,h3⟩
          by_cases e : j = i
          · rw [e] at h3;exact absurd h3.symm c
          · omega
theorem ppath_l0 (l : List S30) (hV : Valid l) : ∀ x : Int,0≤x→x < (l.length : Int)→∀ a : List Int,(a.length : Int) + x < 100→∃ p,Ev (fun k => accounts_Path.l0 k l a x) p∧p.length≤100∧∀ y,y ∈ p↔y ∈ a∨Anc l y x:=by
  refine up_ind hV.tree (P:=fun x => ∀ a : List Int,(a.length : Int) + x < 100→∃ p,Ev (fun k => accounts_Path.l0 k l a x) p∧p.length≤100∧∀ y,y ∈ p↔y ∈ a∨Anc l y x) ?_ ?_
  · intro a ha
    have hr0 : (rd_T30 l 0).f0 = -1:=(hV.tree 0 (by omega) (by have:=hV.len1;omega)).1 rfl
    refine ⟨a ++ [0],ev0 2 (fun k hk => ?_),by simp;omega,fun y => ?_⟩
    · obtain ⟨m,rfl⟩ : ∃ m,k = m + 1 + 1:=⟨k - 2,by omega⟩
      simp only [accounts_Path.l0]
      rw [if_pos (by omega),if_pos (by omega),if_pos (by omega),if_pos (by have:=hV.len1;omega),hr0,if_neg (by omega)]
    · rw [List.mem_append,List.mem_singleton]
      constructor
      · rintro (h | h)
        · exact Or.inl h
        · rw [h];exact Or.inr Anc.here
      · rintro (h | h)
        · exact Or.inl h
        · rcases anc_iff.1 h with h | ⟨h,_⟩
          · exact Or.inr h
          · omega
  · intro x hx0 hx1 hp0 hp1 ih a ha
    obtain ⟨p,⟨K,hK⟩,hl,hp⟩:=ih (a ++ [x]) (by simp;omega)
    refine ⟨p,ev1 K (fun k hk => ?_),hl,fun y => ?_⟩
    · simp only [accounts_Path.l0]
      rw [if_pos (by omega),if_pos (by omega),if_pos (by omega),if_pos hx1]
      exact hK k hk
    · rw [hp,List.mem_append,List.mem_singleton,anc_iff (x:=y) (c:=x)]
      constructor
      · rintro ((h | h) | h)
        · exact Or.inl h
        · exact Or.inr (Or.inl h)
        · exact Or.inr (Or.inr ⟨hx0,h⟩)
      · rintro (h | h | ⟨_,h⟩)
        · exact Or.inl (Or.inl h)
        · exact Or.inl (Or.inr h)
        · exact Or.inr h
theorem pinside_ev (l : List S30) (x s : Int) : ∃ b,Ev (fun k => accounts_Inside.f k l x s) b∧(b = true↔(Valid l∧0≤x∧x < (l.length : Int))∧(s = -1∨Anc l s x)):=by
  obtain ⟨b,⟨K1,H1⟩,_,hb⟩:=has_ev l x
  dsimp only at H1
  cases b with
  | false =>
    refine ⟨false,ev0 K1 (fun k hk => ?_),?_⟩
    · unfold accounts_Inside.f
      rw [H1 k hk]
      rfl
    · simp only [Bool.false_eq_true,false_iff]
      exact fun h => by simpa using hb.2 h.1
  | true =>
    have hv:=hb.1 rfl
    by_cases c : s = -1
    · refine ⟨true,ev0 K1 (fun k hk => ?_),?_⟩
      · unfold accounts_Inside.f
        rw [H1 k hk]
        simp only [Option.bind_some]
        rw [if_pos (by trivial),if_pos c]
      · simp only [true_iff];exact ⟨hv,Or.inl c⟩
    · obtain ⟨p,⟨K2,H2⟩,hpl,hp⟩:=ppath_l0 l hv.1 x hv.2.1 hv.2.2 [] (by have:=hv.1.len8;simp;omega)
      obtain ⟨r,⟨K3,H3⟩,hb3⟩:=index_l0 p s hpl p.length 0 (by omega) (by omega)
      dsimp only at H2 H3
      refine ⟨decide (r≥0),ev0 (K1 + K2 + K3) (fun k hk => ?_),?_⟩
      · unfold accounts_Inside.f accounts_Path.f slices_Contains_int_int.f slices_Index_int_int.f
        rw [H1 k (by omega)]
        simp only [Option.bind_some]
        rw [if_pos (by trivial),if_neg c,if_pos (by trivial),H2 k (by omega)]
        simp only [Option.bind_some]
        rw [H3 k (by omega)]
        rfl
      · rw [decide_eq_true_iff,hb3,mem_rd,hp]
        simp [hv,c]
def tl (f : Int→Bool) : Nat→Int→List Bool
  | 0,_ => []
  | n + 1,i => f i :: tl f n (i + 1)
theorem tl_length (f : Int→Bool) : ∀ n i,(tl f n i).length = n
  | 0,_ => rfl
  | n + 1,i => by rw [tl,List.length_cons,tl_length f n]
theorem tl_get (f : Int→Bool) : ∀ (n : Nat) (i : Int) (j : Nat),j < n→(tl f n i).getD j false = f (i + j)
  | 0,_,j,h => by omega
  | n + 1,i,0,_ => by simp [tl]
  | n + 1,i,j + 1,h => by
    rw [tl,List.getD_cons_succ,tl_get f n (i + 1) j (by omega)]
    congr 1
    omega
theorem tl_rd (f : Int→Bool) (n : Nat) (j : Int) (h0 : 0≤j) (h1 : j < (n : Int)) : rdOf false (tl f n 0) j = f j:=by
  unfold rdOf
  rw [tl_get f n 0 j.toNat (by omega)]
  congr 1
  omega
theorem askFold_ev (l1 : List S30) (lv : List Int) (s : Int) (fi fg fs : Int→Bool) (h1 : ∀ j,Ev (fun k => accounts_Inside.f k l1 j s) (fi j)) (h2 : ∀ j,Ev (fun k => protection_Guarded.f k l1 lv j s false) (fg j)) (h3 : ∀ j,Ev (fun k => protection_Guarded.f k l1 lv j s true) (fs j)) :
    ∀ (n : Nat) (i : Int) (a b c : List Bool),Ev (fun k => askFold k l1 lv s n i a b c) (a ++ tl fi n i,b ++ tl fg n i,c ++ tl fs n i)
  | 0,i,a,b,c => ev0 0 (fun k _ => by simp [askFold,tl])
  | n + 1,i,a,b,c => by
    obtain ⟨K,hK⟩:=askFold_ev l1 lv s fi fg fs h1 h2 h3 n (i + 1) (a ++ [fi i]) (b ++ [fg i]) (c ++ [fs i])
    obtain ⟨K1,H1⟩:=h1 i
    obtain ⟨K2,H2⟩:=h2 i
    obtain ⟨K3,H3⟩:=h3 i
    dsimp only at hK H1 H2 H3
    refine ev0 (K + K1 + K2 + K3) (fun k hk => ?_)
    simp only [askFold]
    rw [H1 k (by omega),H2 k (by omega),H3 k (by omega)]
    simp only [Option.bind_some]
    rw [hK k (by omega)]
    simp [tl]
structure AskSt (l0 : List S34) (l1 : List S30) (s : Int) (a b c : List Bool) : Prop where
  zero : pchk l0 l1 = 0
  sc : ScOk (l1.length : Int) s
  few : l0.length < 1000000
  la : a.length = l1.length
  lb : b.length = l1.length
  lc : c.length = l1.length
  ins : ∀ j,0≤j→j < (l1.length : Int)→(rdOf false a j = true↔s = -1∨Anc l1 s j)
  gd : ∀ j,0≤j→j < (l1.length : Int)→Ev (fun k => estoversref20_Guarded.f k l1 (lvOf l1.length l0) j s false) (rdOf false b j)
  sf : ∀ j,0≤j→j < (l1.length : Int)→Ev (fun k => estoversref20_Guarded.f k l1 (lvOf l1.length l0) j s true) (rdOf false c j)
  gdq : ∀ q,IsIn l1 (lvOf l1.length l0) q→∀ j,0≤j→j < (l1.length : Int)→(rdOf false b j = true↔Gd l1 q (mx s 0) false j)
  sfq : ∀ q,IsIn l1 (lvOf l1.length l0) q→∀ j,0≤j→j < (l1.length : Int)→(rdOf false c j = true↔Gd l1 q (mx s 0) true j)
theorem mem_rd34 {l0 : List S34} {p : S34} (h : p ∈ l0) : ∃ j : Int,0≤j∧j < (l0.length : Int)∧rd_T34 l0 j = p:=by
  obtain ⟨n,hn,e⟩:=List.mem_iff_getElem.1 h
  exact ⟨n,by omega,by omega,by rw [rd34_get l0 n hn,e]⟩
theorem pg_of {l0 : List S34} {l1 : List S30} (h : pchk l0 l1 = 0) : ∀ p ∈ l0,PgOk (l1.length : Int) p:=by
  intro p hp
  obtain ⟨j,h0,h1,e⟩:=mem_rd34 hp
  rw [← e]
  exact (((pchk_zero l0 l1).1 h).2 j h0 h1).1
theorem AskSt.pages {l0 : List S34} {l1 : List S30} {s : Int} {a b c : List Bool} (h : AskSt l0 l1 s a b c) : ∀ p ∈ l0,PgOk (l1.length : Int) p:=pg_of h.zero
theorem AskSt.valid {l0 : List S34} {l1 : List S30} {s : Int} {a b c : List Bool} (h : AskSt l0 l1 s a b c) : Valid l1:=((pchk_zero l0 l1).1 h.zero).1
theorem AskSt.lvOk {l0 : List S34} {l1 : List S30} {s : Int} {a b c : List Bool} (h : AskSt l0 l1 s a b c) : LvOk l1 (lvOf l1.length l0) :=
  lvOk_of h.valid l0 h.few (fun p hp => (h.pages p hp).2.2.2.1)
theorem ask_ok_ev (l0 : List S34) (l1 : List S30) (s : Int) (hn : l0.length < 1000000) (hz : pchk l0 l1 = 0) (hs : ScOk (l1.length : Int) s) : ∃ a b c,Ev (fun k => reclaimplan_ask.f k l0 l1 s) (0,a,b,c)∧AskSt l0 l1 s a b c:=by
  have hV:=((pchk_zero l0 l1).1 hz).1
  have hP:=pg_of hz
  have hL:=lvOk_of hV l0 hn (fun p hp => (hP p hp).2.2.2.1)
  obtain ⟨fi,hfi⟩:=Classical.skolem.1 (fun j => pinside_ev l1 j s)
  obtain ⟨fg,hfg⟩:=Classical.skolem.1 (fun j => guarded_ev l1 (lvOf l1.length l0) j s false)
  obtain ⟨fs,hfs⟩:=Classical.skolem.1 (fun j => guarded_ev l1 (lvOf l1.length l0) j s true)
  obtain ⟨K1,H1⟩:=pchk_ev l0 l1 hn
  obtain ⟨K2,H2⟩:=askFold_ev l1 (lvOf l1.length l0) s fi fg fs (fun j => (hfi j).1) (fun j => (hfg j).1) (fun j => (hfs j).1) l1.length 0 [] [] []
  dsimp only at H1 H2
  refine ⟨tl fi l1.length 0,tl fg l1.length 0,tl fs l1.length 0,ev0 (K1 + K2) (fun k hk => ?_),⟨hz,hs,hn,tl_length ..,tl_length ..,tl_length ..,fun j h0 h1 => ?_,fun j h0 h1 => ?_,fun j h0 h1 => ?_,fun q hq j h0 h1 => ?_,fun q hq j h0 h1 => ?_⟩⟩
  · unfold reclaimplan_ask.f
    rw [H1 k (by omega)]
    simp only [Option.bind_some]
    have hok : askOk l0 l1 = true:=by
      unfold askOk
      rw [Bool.and_eq_true,Bool.and_eq_true,List.all_eq_true]
      exact ⟨⟨decide_eq_true (by have:=hV.len8;omega),decide_eq_true hn⟩,fun p hp => decide_eq_true (hP p hp).2.2.2.1⟩
    rw [if_pos hz,if_neg (by have:=hs.1;have:=hs.2;omega),if_pos hok,H2 k (by omega)]
    rfl
  · rw [tl_rd _ _ _ h0 h1,(hfi j).2]
    exact ⟨fun h => h.2,fun h => ⟨⟨hV,h0,h1⟩,h⟩⟩
  · rw [tl_rd _ _ _ h0 h1];exact (hfg j).2.1
  · rw [tl_rd _ _ _ h0 h1];exact (hfs j).2.1
  · rw [tl_rd _ _ _ h0 h1];exact (hfg j).2.2.2 q hL ⟨h0,h1,hs.1,hs.2⟩ hq
  · rw [tl_rd _ _ _ h0 h1];exact (hfs j).2.2.2 q hL ⟨h0,h1,hs.1,hs.2⟩ hq
theorem ask_bad_ev (l0 : List S34) (l1 : List S30) (s : Int) (hn : l0.length < 1000000) (h : ¬ (pchk l0 l1 = 0∧ScOk (l1.length : Int) s)) : ∃ e,Ev (fun k => reclaimplan_ask.f k l0 l1 s) (e,[],[],[])∧e≠0∧e = (if pchk l0 l1 = 0 then 2 else pchk l0 l1):=by
  obtain ⟨K1,H1⟩:=pchk_ev l0 l1 hn
  dsimp only at H1
  by_cases c : pchk l0 l1 = 0
  · refine ⟨2,ev0 K1 (fun k hk => ?_),by omega,by rw [if_pos c]⟩
    unfold reclaimplan_ask.f
    rw [H1 k (by omega)]
    simp only [Option.bind_some]
    rw [if_pos c,if_pos (Classical.byContradiction fun h2 => h ⟨c,by unfold ScOk;omega⟩)]
  · refine ⟨pchk l0 l1,ev0 K1 (fun k hk => ?_),c,by rw [if_neg c]⟩
    unfold reclaimplan_ask.f
    rw [H1 k (by omega)]
    simp only [Option.bind_some]
    rw [if_neg c]
end Go.Proofs.Ytnmenfkmndnoaaa.Pr
