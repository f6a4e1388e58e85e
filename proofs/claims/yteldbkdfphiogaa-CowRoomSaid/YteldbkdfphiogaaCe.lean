/- CowAlone: the run without an error. -/
import Derived.Test.YteldbkdfphiogaaCd
import Derived.Test.YteldbkdfphiogaaCx
set_option linter.unusedVariables false
set_option linter.unusedSimpArgs false
namespace Go.Proofs.Yteldbkdfphiogaa.Pr
open Go.RowKit Go.Proofs.YteldbkdfphiogaaW.PrintWords Go.Proofs.YteldbkdfphiogaaW.PrintLast Go.Proofs.YteldbkdfphiogaaW.PrintMore
theorem seq_exists {α : Type} (Inv : Nat→α→Prop) (R : Nat→α→α→Prop) (n : Nat) (c0 : α) (h0 : Inv 0 c0) (step : ∀ j c,j < n→Inv j c→∃ d,R j c d∧Inv (j + 1) d) : ∃ c : Nat→α,c 0 = c0∧(∀ j,j < n→R j (c j) (c (j + 1)))∧∀ j,j≤n→Inv j (c j):=by
  classical
  let f : Nat→α→α:=fun j c => if h : j < n∧Inv j c then (step j c h.1 h.2).choose else c
  let s : Nat→α:=fun j => Nat.rec c0 (fun j c => f j c) j
  have hs : ∀ j,s (j + 1) = f j (s j):=fun _ => rfl
  have inv : ∀ j,j≤n→Inv j (s j):=by
    intro j
    induction j with
    | zero => exact fun _ => h0
    | succ j ih =>
      intro hj
      have hi:=ih (by omega)
      rw [hs]
      simp only [f]
      rw [dif_pos ⟨by omega,hi⟩]
      exact (step j (s j) (by omega) hi).choose_spec.2
  refine ⟨s,rfl,fun j hj => ?_,inv⟩
  have hi:=inv j (by omega)
  rw [hs]
  simp only [f]
  rw [dif_pos ⟨hj,hi⟩]
  exact (step j (s j) hj hi).choose_spec.1
theorem new_step (n m : Nat) (hn : 1≤n∧n≤256) (hm : 1≤m∧m≤512) (k : Nat) : cow_New.f k n m = some ((m : Int),[⟨true,List.replicate m ⟨-1,false⟩⟩],List.replicate n ⟨0,0⟩,0,0)∧WF m [⟨true,List.replicate m ⟨-1,false⟩⟩] (List.replicate n ⟨0,0⟩) 0:=by
  constructor
  · unfold cow_New.f
    rw [if_neg (by omega),Int.toNat_natCast,Int.toNat_natCast]
  · have hp : pagesOf [(⟨true,List.replicate m ⟨-1,false⟩⟩ : S62)] = List.replicate m ⟨-1,false⟩:=by simp [pagesOf]
    have hz : ∀ i : Nat,cntN (List.replicate m (⟨-1,false⟩ : S64)) i = 0∧wrtN (List.replicate m (⟨-1,false⟩ : S64)) i = false:=fun i => cntN_none _ (fun p hp => List.eq_of_mem_replicate hp) i
    refine ⟨⟨by omega,by omega,by simp,by simp,by simp;omega,by simp;omega,by omega,by omega⟩,?_,?_⟩
    · intro s hs
      rw [List.mem_singleton] at hs
      subst hs
      unfold lenOk
      rw [if_pos rfl]
      simp
    · rw [hp]
      refine ⟨fun p hp => ?_,fun i hi => ?_,fun i hi hw => ?_⟩
      · rw [List.eq_of_mem_replicate hp,List.length_replicate]
        exact ⟨by simp only;omega,by simp only;omega,fun _ => rfl⟩
      · rw [List.length_replicate] at hi
        have : rd_T57 (List.replicate n (⟨0,0⟩ : S57)) (i : Int) = ⟨0,0⟩:=by
          unfold rd_T57;rw [List.getD_eq_getElem?_getD,Int.toNat_natCast,List.getElem?_replicate,if_pos hi];rfl
        rw [this,(hz i).1]
        exact ⟨rfl,fun _ => rfl⟩
      · rw [(hz i).2] at hw;cases hw
def usedN (fs : List S57) : Nat:=fs.countP (fun f => decide (0 < f.f0))
theorem used_l0 (fs : List S57) (hn : fs.length < 4611686018427387904) : ∀ (d j x : Nat),j + d = fs.length→x≤j→Ev (fun k => cow_Used.l0 k x fs (fs.length : Int) j) ((x + usedN (fs.drop j) : Nat) : Int):=by
  intro d
  induction d with
  | zero =>
    intro j x hj hx
    rw [List.drop_of_length_le (by omega)]
    refine ev1 0 (fun k _ => ?_)
    simp only [cow_Used.l0]
    rw [if_neg (by omega)]
    rfl
  | succ d ih =>
    intro j x hj hx
    rw [drop57 fs j (by omega)]
    by_cases c : (rd_T57 fs (j : Int)).f0 > 0
    · obtain ⟨K,hK⟩:=ih (j + 1) (x + 1) (by omega) (by omega)
      refine ev1 K (fun k hk => ?_)
      simp only [cow_Used.l0]
      rw [if_pos (by omega),if_pos (by omega),if_pos (by omega),if_pos c,wr1 (by omega),wr1 (by omega)]
      refine (hK k hk).trans ?_
      have e : usedN (rd_T57 fs (j : Int) :: fs.drop (j + 1)) = usedN (fs.drop (j + 1)) + 1:=by
        unfold usedN;rw [List.countP_cons,if_pos (by simpa using c)]
      rw [e]
      congr 2
      omega
    · obtain ⟨K,hK⟩:=ih (j + 1) x (by omega) (by omega)
      refine ev1 K (fun k hk => ?_)
      simp only [cow_Used.l0]
      rw [if_pos (by omega),if_pos (by omega),if_pos (by omega),if_neg c,wr1 (by omega)]
      refine (hK k hk).trans ?_
      have e : usedN (rd_T57 fs (j : Int) :: fs.drop (j + 1)) = usedN (fs.drop (j + 1)):=by
        unfold usedN;rw [List.countP_cons,if_neg (by simpa using c)];rfl
      rw [e]
theorem used_ev {sz : Int} {ss : List S62} {fs : List S57} {cp : Int} (h : WF sz ss fs cp) : Ev (fun k => cow_Used.f k sz ss fs cp) (usedN fs : Int):=by
  have hC:=check_ev sz ss fs cp h.small.1 h.small.2
  rw [h.chk] at hC
  have:=used_l0 fs (by have:=h.rg.2.2.2.2.2.1;omega) fs.length 0 0 (by omega) (by omega)
  rw [List.drop_zero,Nat.zero_add] at this
  unfold cow_Used.f
  exact ev_bind hC this
theorem usedN_half (fs : List S57) (n : Nat) (hn : n≤fs.length) (h1 : ∀ i : Nat,i < n→0 < (rd_T57 fs (i : Int)).f0) (h2 : ∀ i : Nat,n≤i→i < fs.length→(rd_T57 fs (i : Int)).f0≤0) : usedN fs = n:=by
  unfold usedN
  conv => lhs;rw [← List.take_append_drop n fs]
  rw [List.countP_append]
  have a : (fs.take n).countP (fun f => decide (0 < f.f0)) = (fs.take n).length:=by
    rw [List.countP_eq_length]
    intro f hf
    obtain ⟨t,ht,rfl⟩:=List.getElem_of_mem hf
    rw [List.length_take] at ht
    have:=h1 t (by omega)
    unfold rd_T57 at this
    rw [List.getD_eq_getElem?_getD,Int.toNat_natCast,List.getElem?_eq_getElem (by omega)] at this
    simpa using this
  have b : (fs.drop n).countP (fun f => decide (0 < f.f0)) = 0:=by
    rw [List.countP_eq_zero]
    intro f hf
    obtain ⟨t,ht,rfl⟩:=List.getElem_of_mem hf
    rw [List.length_drop] at ht
    have:=h2 (n + t) (by omega) (by omega)
    unfold rd_T57 at this
    rw [List.getD_eq_getElem?_getD,Int.toNat_natCast,List.getElem?_eq_getElem (by omega)] at this
    simpa using this
  rw [a,b,List.length_take]
  omega
theorem pages_one (ss : List S62) (h : 0 < ss.length) (hd : ∀ t : Nat,0 < t→t < ss.length→rd_T62 ss (t : Int) = ⟨false,[]⟩) : pagesOf ss = (rd_T62 ss 0).f1:=by
  have h1:=self_split62 ss 0 h
  have h2 : pagesOf (ss.drop 1) = []:=by
    unfold pagesOf
    rw [List.flatMap_eq_nil_iff]
    intro s hs
    obtain ⟨t,ht,rfl⟩:=List.getElem_of_mem hs
    rw [List.length_drop] at ht
    have:=hd (1 + t) (by omega) (by omega)
    unfold rd_T62 at this
    rw [List.getD_eq_getElem?_getD,Int.toNat_natCast,List.getElem?_eq_getElem (by omega)] at this
    simp only [Option.getD_some] at this
    rw [List.getElem_drop,this]
  conv => lhs;rw [h1]
  rw [List.take_zero,List.nil_append,pagesOf_cons,h2,List.append_nil]
  rfl
theorem cntN_zero (ps : List S64) (i : Nat) (h : ∀ t : Nat,t < ps.length→(rd_T64 ps (t : Int)).f0≠(i : Int)) : cntN ps i = 0:=by
  unfold cntN
  have : ps.countP (fun p => decide (p.f0 = (i : Int))) = 0:=by
    rw [List.countP_eq_zero]
    intro p hp
    have:=(all64 ps (fun p => p.f0≠(i : Int))).2 h p hp
    simpa using this
  omega
theorem rd64_take (ps : List S64) (p t : Nat) (h : t < p) : rd_T64 (ps.take p) (t : Int) = rd_T64 ps (t : Int):=by
  unfold rd_T64
  rw [List.getD_eq_getElem?_getD,List.getD_eq_getElem?_getD,Int.toNat_natCast,List.getElem?_take,if_pos h]
theorem rd64_drop (ps : List S64) (p t : Nat) : rd_T64 (ps.drop p) (t : Int) = rd_T64 ps ((p + t : Nat) : Int):=by
  unfold rd_T64
  rw [List.getD_eq_getElem?_getD,List.getD_eq_getElem?_getD,Int.toNat_natCast,Int.toNat_natCast,List.getElem?_drop]
theorem cntN_one (ps : List S64) (i p : Nat) (hp : p < ps.length) (he : (rd_T64 ps (p : Int)).f0 = (i : Int)) (h : ∀ t : Nat,t < ps.length→t≠p→(rd_T64 ps (t : Int)).f0≠(i : Int)) : cntN ps i = 1:=by
  conv => lhs;rw [self_split64 ps p hp]
  rw [cntN_mid,if_pos he,cntN_zero,cntN_zero]
  · rfl
  · intro t ht
    rw [List.length_drop] at ht
    rw [rd64_drop]
    exact h _ (by omega) (by omega)
  · intro t ht
    rw [List.length_take] at ht
    rw [rd64_take _ _ _ (by omega)]
    exact h _ (by omega) (by omega)
structure Al (n : Nat) (j q : Nat) (c : Mc) : Prop where
  wf : WF c.1 c.2.1 c.2.2.1 c.2.2.2
  sz : c.1 = (n : Int)
  ns : c.2.1.length = q + 1
  lv : (rd_T62 c.2.1 0).f0 = true
  dead : ∀ t : Nat,0 < t→t < c.2.1.length→rd_T62 c.2.1 (t : Int) = ⟨false,[]⟩
  row : ∀ t : Nat,t < n→(rd_T64 (rd_T62 c.2.1 0).f1 (t : Int)).f0 = if t < j then (t : Int) else -1
  nf : c.2.2.1.length = 2 * n
  cp : c.2.2.2 = 0
theorem Al.len {n j q : Nat} {c : Mc} (h : Al n j q c) : (rd_T62 c.2.1 0).f1.length = n:=by
  have:=h.wf.row 0 (by rw [h.ns];omega) h.lv
  rw [h.sz] at this
  exact Int.ofNat.inj this
theorem Al.cnt {n j q : Nat} {c : Mc} (h : Al n j q c) (hj : j≤n) (i : Nat) (hi : i < 2 * n) : (rd_T57 c.2.2.1 (i : Int)).f0 = if i < j then 1 else 0:=by
  have hs:=(h.wf.wp.st i (by rw [h.nf];exact hi)).1
  rw [hs,pages_one _ (by rw [h.ns];omega) h.dead]
  have hl:=h.len
  by_cases c1 : i < j
  · rw [if_pos c1]
    refine cntN_one _ i i (by omega) (by rw [h.row i (by omega),if_pos c1]) (fun t ht hne => ?_)
    rw [h.row t (by omega)]
    split <;> omega
  · rw [if_neg c1]
    refine cntN_zero _ i (fun t ht => ?_)
    rw [h.row t (by omega)]
    split <;> omega
theorem Al.used {n j q : Nat} {c : Mc} (h : Al n n q c) : nUsed c (n : Int):=by
  have hu:=used_ev h.wf
  have e : usedN c.2.2.1 = n:=usedN_half _ n (by rw [h.nf];omega) (fun i hi => by rw [h.cnt (Nat.le_refl _) i (by omega),if_pos hi];omega) (fun i h1 h2 => by rw [h.nf] at h2;rw [h.cnt (Nat.le_refl _) i h2,if_neg (by omega)];omega)
  rw [e] at hu
  exact hu.rounds
theorem Al.put {n j q : Nat} {c : Mc} (h : Al n j q c) (p : Nat) (hp : p < n) (g : Int) (j' : Nat) (hg : g = if p < j' then (p : Int) else -1) (ho : ∀ t : Nat,t < n→t≠p→(t < j↔t < j')) (fs' : List S57) (cp' : Int) (hw : WF c.1 (setPage c.2.1 0 (p : Int) ⟨g,true⟩) fs' cp') (hf : fs'.length = c.2.2.1.length) (hc : cp' = 0) : Al n j' q (c.1,setPage c.2.1 0 (p : Int) ⟨g,true⟩,fs',cp'):=by
  have hl0 : 0 < c.2.1.length:=by rw [h.ns];omega
  have hlen:=h.len
  refine ⟨hw,h.sz,(setPage_len _ _ _ _).trans h.ns,?_,fun t h0 ht => ?_,fun t ht => ?_,hf.trans h.nf,hc⟩
  · show (rd_T62 (setPage c.2.1 0 (p : Int) ⟨g,true⟩) 0).f0 = true
    rw [setPage_row _ _ _ _ (by omega) (by omega)]
    exact h.lv
  · show rd_T62 (setPage c.2.1 0 (p : Int) ⟨g,true⟩) (t : Int) = _
    have:=setPage_other c.2.1 0 p ⟨g,true⟩ hl0 t (by omega)
    refine this.trans (h.dead t h0 ?_)
    rw [← setPage_len c.2.1 0 (p : Int) ⟨g,true⟩]
    exact ht
  · show (rd_T64 (rd_T62 (setPage c.2.1 0 (p : Int) ⟨g,true⟩) 0).f1 (t : Int)).f0 = _
    have:=setPage_at c.2.1 0 p ⟨g,true⟩ hl0 (by show p < (rd_T62 c.2.1 0).f1.length;omega) t
    refine (congrArg S64.f0 this).trans ?_
    by_cases e : t = p
    · subst e;rw [if_pos rfl];exact hg
    · rw [if_neg e]
      refine (h.row t ht).trans ?_
      have:=ho t ht e
      by_cases c1 : t < j
      · rw [if_pos c1,if_pos (this.1 c1)]
      · rw [if_neg c1,if_neg (fun h => c1 (this.2 h))]
theorem al_new (n : Nat) (h1 : 0 < n) (h8 : n≤8) : ∃ c : Mc,nNew (2 * (n : Int)) (n : Int) c∧Al n 0 0 c:=by
  obtain ⟨e,w⟩:=new_step (2 * n) n (by omega) (by omega) 0
  refine ⟨((n : Int),[⟨true,List.replicate n ⟨-1,false⟩⟩],List.replicate (2 * n) ⟨0,0⟩,0),⟨0,?_⟩,⟨w,rfl,rfl,rfl,fun t h0 ht => ?_,fun t ht => ?_,by simp,rfl⟩⟩
  · have : ((2 * n : Nat) : Int) = 2 * (n : Int):=by omega
    rw [← this]
    exact e
  · simp at ht;omega
  · rw [if_neg (by omega)]
    show (rd_T64 (List.replicate n (⟨-1,false⟩ : S64)) (t : Int)).f0 = -1
    unfold rd_T64
    rw [List.getD_eq_getElem?_getD,Int.toNat_natCast,List.getElem?_replicate,if_pos ht]
    rfl
theorem al_wr1 (n j : Nat) (c : Mc) (hj : j < n) (h : Al n j 0 c) (x : Int) : ∃ d : Mc,nWrite c 0 (j : Int) x d∧Al n (j + 1) 0 d:=by
  have hl0 : 0 < c.2.1.length:=by rw [h.ns];omega
  have hq:=h.row j hj
  rw [if_neg (by omega)] at hq
  rcases write_step h.wf 0 j hl0 h.lv (by rw [h.sz];omega) x with ⟨hall,_,_⟩ | ⟨g,fs',cp',hev,hwf,hlen,hcase⟩
  · exact absurd (by rw [h.cnt (by omega) j (by omega),if_neg (by omega)]) (hall j (by rw [h.nf];omega))
  · rcases hcase with ⟨h0,_⟩ | ⟨_,hcp,_,i,hi,hg,hz,hmin⟩
    · exact absurd h0 (by show ¬ 0≤(rd_T64 (rd_T62 c.2.1 0).f1 (j : Int)).f0;rw [hq];omega)
    · have hij : i = j:=by
        by_cases c1 : i < j
        · rw [h.nf] at hi
          rw [h.cnt (by omega) i hi,if_pos c1] at hz
          omega
        · by_cases c2 : j < i
          · exact absurd (by rw [h.cnt (by omega) j (by omega),if_neg (by omega)]) (hmin j c2)
          · omega
      subst hij
      have hc0 : cp' = 0:=by
        rw [hcp]
        show wCopies (rd_T64 (rd_T62 c.2.1 0).f1 (i : Int)).f0 c.2.2.2 = 0
        rw [hq,h.cp]
        rfl
      exact ⟨(c.1,setPage c.2.1 0 (i : Int) ⟨g,true⟩,fs',cp'),hev.rounds,h.put i hj g (i + 1) (by rw [if_pos (by omega)];exact hg) (fun t ht hne => by omega) fs' cp' hwf hlen hc0⟩
theorem al_wr2 (n j q : Nat) (c : Mc) (hj : j < n) (h : Al n n q c) (x : Int) : ∃ d : Mc,nWrite c 0 (j : Int) x d∧Al n n q d:=by
  have hl0 : 0 < c.2.1.length:=by rw [h.ns];omega
  have hq:=h.row j hj
  rw [if_pos hj] at hq
  have hone : (rd_T57 c.2.2.1 (rd_T64 (rd_T62 c.2.1 0).f1 (j : Int)).f0).f0 = 1:=by rw [hq,h.cnt (Nat.le_refl _) j (by omega),if_pos hj]
  have hno : ¬ ((rd_T64 (rd_T62 c.2.1 0).f1 (j : Int)).f0 < 0∨1 < (rd_T57 c.2.2.1 (rd_T64 (rd_T62 c.2.1 0).f1 (j : Int)).f0).f0):=by rw [hone,hq];omega
  rcases write_step h.wf 0 j hl0 h.lv (by rw [h.sz];omega) x with ⟨_,hc,_⟩ | ⟨g,fs',cp',hev,hwf,hlen,hcase⟩
  · exact absurd hc hno
  · rcases hcase with ⟨_,_,hg,hcp,_⟩ | ⟨hc,_⟩
    · exact ⟨(c.1,setPage c.2.1 0 (j : Int) ⟨g,true⟩,fs',cp'),hev.rounds,h.put j hj g n (by rw [if_pos hj,hg];exact hq) (fun t ht hne => Iff.rfl) fs' cp' hwf hlen (by rw [hcp];exact h.cp)⟩
    · exact absurd hc hno
theorem al_fe (n j : Nat) (c : Mc) (hj : j < 7) (h : Al n n j c) : ∃ d : Mc,(∃ (m : Mc) (ch : Int),nFork c 0 m ch∧nExit m ch d)∧Al n n (j + 1) d:=by
  have hl0 : 0 < c.2.1.length:=by rw [h.ns];omega
  obtain ⟨f1,f2,f3,f4,f5,f6,f7⟩:=fork_step h.wf 0 hl0 h.lv (by rw [h.ns];omega)
  obtain ⟨x1,x2,x3,x4,x5,x6⟩:=exit_step f2 c.2.1.length (by rw [f3];omega) (by rw [f7])
  have hrow : rd_T62 (exitSS (forkSS c.2.1 c.2.2.1 ((0 : Nat) : Int)) (forkFS c.2.1 c.2.2.1 ((0 : Nat) : Int)) (c.2.1.length : Int)) 0 = ⟨true,(rd_T62 c.2.1 0).f1.map clr⟩:=(x6 0 (by omega)).trans f6
  refine ⟨(c.1,exitSS (forkSS c.2.1 c.2.2.1 ((0 : Nat) : Int)) (forkFS c.2.1 c.2.2.1 ((0 : Nat) : Int)) (c.2.1.length : Int),exitFS (forkSS c.2.1 c.2.2.1 ((0 : Nat) : Int)) (forkFS c.2.1 c.2.2.1 ((0 : Nat) : Int)) (c.2.1.length : Int),c.2.2.2),⟨(c.1,forkSS c.2.1 c.2.2.1 ((0 : Nat) : Int),forkFS c.2.1 c.2.2.1 ((0 : Nat) : Int),c.2.2.2),(c.2.1.length : Int),f1.rounds,x1.rounds⟩,⟨x2,h.sz,?_,?_,fun t h0 ht => ?_,fun t ht => ?_,?_,h.cp⟩⟩
  · show (exitSS _ _ _).length = _
    rw [x3,f3,h.ns]
  · show (rd_T62 (exitSS _ _ _) 0).f0 = true
    rw [hrow]
  · show rd_T62 (exitSS _ _ _) (t : Int) = _
    by_cases e : t = c.2.1.length
    · rw [e];exact x5
    · rw [x6 t e,f5 t (by omega) e]
      refine h.dead t h0 ?_
      have ht' : t < (exitSS (forkSS c.2.1 c.2.2.1 ((0 : Nat) : Int)) (forkFS c.2.1 c.2.2.1 ((0 : Nat) : Int)) (c.2.1.length : Int)).length:=ht
      rw [x3,f3] at ht'
      omega
  · show (rd_T64 (rd_T62 (exitSS _ _ _) 0).f1 (t : Int)).f0 = _
    rw [hrow]
    show (rd_T64 ((rd_T62 c.2.1 0).f1.map clr) (t : Int)).f0 = _
    rw [rd64_map _ _ (by rw [h.len];exact ht)]
    exact h.row t ht
  · show (exitFS _ _ _).length = _
    rw [x4,f4,h.nf]
theorem alone_run (l0 : List Int) (h1 : 0 < l0.length) (h8 : l0.length≤8) (K : Nat) (hK : K≤7) : ∃ c d e,AloneRun l0 K c d e:=by
  obtain ⟨c0,hn,a0⟩:=al_new l0.length h1 h8
  obtain ⟨c,ec,rc,ic⟩:=seq_exists (fun j c => Al l0.length j 0 c) (fun j c d => nWrite c 0 (j : Int) (rd l0 (j : Int)) d) l0.length c0 a0 (fun j c hj h => al_wr1 l0.length j c hj h _)
  obtain ⟨d,ed,rd',id'⟩:=seq_exists (fun j c => Al l0.length l0.length j c) (fun j c d => ∃ (m : Mc) (ch : Int),nFork c 0 m ch∧nExit m ch d) K (c l0.length) (ic _ (Nat.le_refl _)) (fun j c hj h => al_fe l0.length j c (by omega) h)
  obtain ⟨e,ee,re,ie⟩:=seq_exists (fun j c => Al l0.length l0.length K c) (fun j c d => nWrite c 0 (j : Int) (rd l0 (j : Int)) d) l0.length (d K) (id' _ (Nat.le_refl _)) (fun j c hj h => al_wr2 l0.length j K c hj h _)
  have hd:=id' K (Nat.le_refl _)
  have he:=ie l0.length (Nat.le_refl _)
  exact ⟨c,d,e,⟨by rw [ec];exact hn,rc,ed,rd',hd.used (j:=0),ee,re,he.used (j:=0),he.cp⟩⟩
end Go.Proofs.Yteldbkdfphiogaa.Pr
