/- Pages that leave, summed over the tree: the sums inside the accounts count the leaving pages inside. -/
import Derived.Test.YtnmenfkmndnoaaaKes
set_option linter.unusedVariables false
set_option linter.unusedSimpArgs false
namespace Go.Proofs.Ytnmenfkmndnoaaa.Pr
open Go.RowKit Go.Proofs.YtnmenfkmndnoaaaW.PrintWords Go.Proofs.YtnmenfkmndnoaaaW.PrintLast Go.Proofs.YtnmenfkmndnoaaaW.PrintMore
def wsum (g : S34→Int) : List S34→Int
  | [] => 0
  | p :: ps => g p + wsum g ps
theorem wsum_bd {g : S34→Int} (h : ∀ p,0≤g p∧g p≤1) : ∀ ps,0≤wsum g ps∧wsum g ps≤(ps.length : Int)
  | [] => by simp [wsum]
  | p :: ps => by
    have h1:=wsum_bd h ps
    have h2:=h p
    simp only [wsum,List.length_cons]
    omega
theorem wsum_congr {g g' : S34→Int} : ∀ ps,(∀ p ∈ ps,g p = g' p)→wsum g ps = wsum g' ps
  | [],_ => rfl
  | p :: ps,h => by rw [wsum,wsum,h p (by simp),wsum_congr ps (fun q hq => h q (by simp [hq]))]
theorem wsum_setN (g : S34→Int) (v : S34) : ∀ (ps : List S34) (n : Nat) (hn : n < ps.length),wsum g (ps.set n v) = wsum g ps - g ps[n] + g v
  | p :: ps,0,_ => by simp only [List.set_cons_zero,wsum,List.getElem_cons_zero];omega
  | p :: ps,n + 1,hn => by
    simp only [List.set_cons_succ,wsum,List.getElem_cons_succ]
    rw [wsum_setN g v ps n (by simpa using hn)]
    omega
theorem wsum_set (g : S34→Int) (v : S34) (ps : List S34) (i : Int) (h0 : 0≤i) (h1 : i < (ps.length : Int)) : wsum g (ps.set i.toNat v) = wsum g ps - g (rd_T34 ps i) + g v:=by
  obtain ⟨n,rfl⟩ : ∃ n : Nat,i = n:=⟨i.toNat,by omega⟩
  rw [Int.toNat_natCast,wsum_setN g v ps n (by omega),rd34_get ps n (by omega)]
theorem wsum_pos {g : S34→Int} (h : ∀ p,0≤g p) : ∀ ps p,p ∈ ps→g p≤wsum g ps
  | q :: ps,p,hp => by
    have hs : ∀ l,0≤wsum g l:=fun l => by
      induction l with
      | nil => simp [wsum]
      | cons r l ih => have:=h r;simp only [wsum];omega
    rcases List.mem_cons.1 hp with rfl | hp
    · have:=hs ps;simp only [wsum];omega
    · have:=wsum_pos h ps p hp;have:=h q;simp only [wsum];omega
open Classical in
noncomputable def ind (l : List S30) (a x : Int) : Int:=if Anc l x a then 1 else 0
theorem ind_bd (l : List S30) (a x : Int) : 0≤ind l a x∧ind l a x≤1:=by unfold ind;split <;> omega
theorem ks_delta (l : List S30) (a x : Int) : ∀ m : Nat,ks l (fun c => if c = a then 1 else 0) x m = if 1≤a∧a < (m : Int)∧(rd_T30 l a).f0 = x then 1 else 0
  | 0 => by rw [ks_zero',if_neg (by omega)]
  | m + 1 => by
    rw [ks_succ,ks_delta l a x m]
    by_cases e : (m : Int) = a
    · rw [if_pos e,if_neg (by omega)]
      by_cases c : 1≤m∧(rd_T30 l m).f0 = x
      · rw [if_pos c,if_pos ⟨by omega,by omega,by rw [← e];exact c.2⟩];omega
      · rw [if_neg c,if_neg (fun h => c ⟨by omega,by rw [e];exact h.2.2⟩)];omega
    · rw [if_neg e]
      have e2 : (if 1≤m∧(rd_T30 l m).f0 = x then (0 : Int) else 0) = 0:=by split <;> rfl
      rw [e2]
      by_cases c : 1≤a∧a < (m : Int)∧(rd_T30 l a).f0 = x
      · rw [if_pos c,if_pos ⟨c.1,by omega,c.2.2⟩];omega
      · rw [if_neg c,if_neg (fun h => c ⟨h.1,by omega,h.2.2⟩)];omega
theorem ks_add (l : List S30) (f g : Int→Int) (x : Int) (m : Nat) : ks l (fun j => f j + g j) x m = ks l f x m + ks l g x m:=by
  unfold ks
  rw [← sumTo_add]
  refine sumTo_congr m (fun j _ => ?_)
  unfold kid
  dsimp only
  split <;> omega
theorem ks_nil (l : List S30) {f : Int→Int} (x : Int) (m : Nat) (h : ∀ j : Int,1≤j→j < m→f j = 0) : ks l f x m = 0:=by
  refine sumTo_zero m (fun j hj => ?_)
  unfold kid
  split
  · rename_i c;exact h j (by omega) (by omega)
  · rfl
theorem ind_step {l : List S30} (V : Valid l) (a y : Int) (h0 : 0 < a) (h1 : a < (l.length : Int)) : ind l a y = (if y = a then 1 else 0) + ind l (rd_T30 l a).f0 y:=by
  have ht:=(V.tree a (by omega) h1).2 h0
  have e:=anc_iff (l:=l) (x:=y) (c:=a)
  unfold ind
  by_cases c1 : y = a
  · rw [if_pos c1,if_pos (e.2 (Or.inl c1)),if_neg (fun h => by have:=h.le V.tree (by omega);omega)];omega
  · rw [if_neg c1]
    by_cases c2 : Anc l y (rd_T30 l a).f0
    · rw [if_pos c2,if_pos (e.2 (Or.inr ⟨h0,c2⟩))];omega
    · rw [if_neg c2,if_neg (fun h => (e.1 h).elim c1 (fun h => c2 h.2))];omega
theorem anc_sum {l : List S30} (V : Valid l) (x : Int) (hx0 : 0≤x) (hx1 : x < (l.length : Int)) : ∀ a,0≤a→a < (l.length : Int)→ind l a x = (if a = x then 1 else 0) + ks l (ind l a) x l.length:=by
  refine up_ind V.tree (P:=fun a => ind l a x = (if a = x then 1 else 0) + ks l (ind l a) x l.length) ?_ ?_
  · have e : ∀ y,Anc l y 0↔y = 0:=fun y => by rw [anc_iff];exact ⟨fun h => h.elim id (fun h => by omega),Or.inl⟩
    rw [ks_nil l x l.length (f:=ind l 0) (fun j h1 h2 => by unfold ind;rw [if_neg (fun h => by have:=(e j).1 h;omega)])]
    unfold ind
    by_cases c : x = 0
    · rw [if_pos ((e x).2 c),if_pos c.symm];rfl
    · rw [if_neg (fun h => c ((e x).1 h)),if_neg (fun h => c h.symm)];rfl
  · intro a h0 h1 hp0 hp1 ih
    have e : ks l (ind l a) x l.length = ks l (fun c => if c = a then 1 else 0) x l.length + ks l (ind l (rd_T30 l a).f0) x l.length:=by
      rw [← ks_add]
      exact ks_congr l x l.length (fun j _ _ _ => ind_step V a j h0 h1)
    rw [e,ks_delta,ind_step V a x h0 h1,ih]
    by_cases c : (rd_T30 l a).f0 = x
    · rw [if_pos c,if_pos (show 1≤a∧a < (l.length : Int)∧_ from ⟨by omega,h1,c⟩)]
      by_cases c2 : x = a
      · rw [if_pos c2,if_pos c2.symm];try omega
      · rw [if_neg c2,if_neg (fun h => c2 h.symm)];try omega
    · rw [if_neg c,if_neg (show ¬ (1≤a∧a < (l.length : Int)∧_) from fun h => c h.2.2)]
      by_cases c2 : x = a
      · rw [if_pos c2,if_pos c2.symm];try omega
      · rw [if_neg c2,if_neg (fun h => c2 h.symm)];try omega
noncomputable def gin (l : List S30) (x : Int) (p : S34) : Int:=if p.f6 = true∧0≤p.f1 then ind l p.f1 x else 0
theorem gin_bd (l : List S30) (x : Int) (p : S34) : 0≤gin l x p∧gin l x p≤1:=by
  unfold gin
  have:=ind_bd l p.f1 x
  split <;> omega
theorem lin_sum {l : List S30} (V : Valid l) (x : Int) (hx0 : 0≤x) (hx1 : x < (l.length : Int)) : ∀ ps : List S34,(∀ p ∈ ps,p.f1 < (l.length : Int))→wsum (gin l x) ps = lcnt x ps + ks l (fun y => wsum (gin l y) ps) x l.length
  | [],_ => by
    rw [ks_nil l x l.length (f:=fun y => wsum (gin l y) []) (fun _ _ _ => rfl)]
    rfl
  | p :: ps,h => by
    have ih:=lin_sum V x hx0 hx1 ps (fun q hq => h q (by simp [hq]))
    have hp:=h p (by simp)
    simp only [wsum,lcnt]
    rw [ks_add l (fun y => gin l y p) (fun y => wsum (gin l y) ps),ih]
    have key : gin l x p = (if p.f6 = true∧p.f1 = x then 1 else 0) + ks l (fun y => gin l y p) x l.length:=by
      by_cases c : p.f6 = true∧0≤p.f1
      · have e : (fun y => gin l y p) = ind l p.f1:=by funext y;unfold gin;rw [if_pos c]
        rw [e,show gin l x p = ind l p.f1 x by unfold gin;rw [if_pos c],anc_sum V x hx0 hx1 p.f1 c.2 hp]
        by_cases c2 : p.f1 = x
        · rw [if_pos c2,if_pos ⟨c.1,c2⟩]
        · rw [if_neg c2,if_neg (fun h => c2 h.2)]
      · rw [ks_nil l x l.length (f:=fun y => gin l y p) (fun y _ _ => by unfold gin;rw [if_neg c]),show gin l x p = 0 by unfold gin;rw [if_neg c],if_neg (fun h => c ⟨h.1,by omega⟩)]
        rfl
    omega
theorem rd_range (f : Int→Int) (n : Nat) (j : Int) (h0 : 0≤j) (h1 : j < (n : Int)) : rd ((List.range n).map fun i => f (i : Nat)) j = f j:=by
  unfold rd
  rw [List.getD_eq_getElem?_getD,List.getElem?_map,List.getElem?_range (by omega)]
  simp only [Option.map_some,Option.getD_some]
  congr 1
  omega
theorem lin_eq {l : List S30} (V : Valid l) (ps : List S34) (hl : ps.length < 1000000) (hp : ∀ p ∈ ps,p.f1 < (l.length : Int)) {q : List Int} (hq : IsIn l (lvOf l.length ps) q) (x : Int) (hx0 : 0≤x) (hx1 : x < (l.length : Int)) : rd q x = wsum (gin l x) ps:=by
  have : IsIn l (lvOf l.length ps) ((List.range l.length).map fun i => wsum (gin l ((i : Nat) : Int)) ps):=by
    refine ⟨by simp,fun y h0 h1 => ?_⟩
    rw [rd_range (fun y => wsum (gin l y) ps) _ _ h0 h1,lvOf_rd _ _ hl hp y h0 h1,lin_sum V y h0 h1 ps hp]
    congr 1
    exact ks_congr l y l.length (fun j h2 h3 _ => (rd_range (fun y => wsum (gin l y) ps) _ _ (by omega) h3).symm)
  rw [isIn_uniq V.tree hq this,rd_range (fun y => wsum (gin l y) ps) _ _ hx0 hx1]
theorem anc_par {l : List S30} {x a : Int} (h : Anc l x a) (h0 : 0 < x) : Anc l (rd_T30 l x).f0 a:=by
  induction h with
  | here => exact Anc.up h0 Anc.here
  | up hc _ ih => exact Anc.up hc ih
def gU (s : Int) (kn : Bool) (a : List Bool) (p : S34) : Int:=if p.f6 = true∧qOut s a p = false∧(kn = false∨p.f5 = true) then 1 else 0
theorem gU_bd (s : Int) (kn : Bool) (a : List Bool) (p : S34) : 0≤gU s kn a p∧gU s kn a p≤1:=by unfold gU;split <;> omega
theorem reason8' (s : Int) (kn : Bool) (a b : List Bool) (p : S34) (h : p.f6 = true) : qReason s kn a b p = 8↔qOut s a p = false∧(kn = false∨p.f5 = true):=by
  unfold qReason
  cases qOut s a p with
  | true => simp
  | false => cases kn <;> cases p.f5 <;> simp [h]
theorem useful_sum (s : Int) (kn : Bool) (a b : List Bool) : ∀ (ps : List S34) (n : Int),ps.foldl (uStep s kn a b) n = n + wsum (gU s kn a) ps
  | [],n => by simp [wsum]
  | p :: ps,n => by
    have e : uStep s kn a b n p = n + gU s kn a p:=by
      unfold uStep gU
      by_cases c : p.f6 = true
      · by_cases c2 : qReason s kn a b p = 8
        · rw [if_pos ⟨c,c2⟩,if_pos ⟨c,(reason8' s kn a b p c).1 c2⟩]
        · rw [if_neg (fun h => c2 h.2),if_neg (fun h => c2 ((reason8' s kn a b p c).2 h.2))];omega
      · rw [if_neg (fun h => c h.1),if_neg (fun h => c h.1)];omega
    rw [List.foldl_cons,useful_sum s kn a b ps,e,wsum]
    omega
end Go.Proofs.Ytnmenfkmndnoaaa.Pr
