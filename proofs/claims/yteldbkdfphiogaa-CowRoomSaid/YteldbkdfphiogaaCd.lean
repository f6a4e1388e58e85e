/- What the program's operations do to a well-formed machine. -/
import Derived.Test.YteldbkdfphiogaaCc
import Derived.Test.YteldbkdfphiogaaFapiCowFrame33
import Derived.Test.YteldbkdfphiogaaFcowExit
import Derived.Test.YteldbkdfphiogaaFcowFork
import Derived.Test.YteldbkdfphiogaaFcowNew
import Derived.Test.YteldbkdfphiogaaFcowRead
import Derived.Test.YteldbkdfphiogaaFcowUnmap
import Derived.Test.YteldbkdfphiogaaFcowUsed
import Derived.Test.YteldbkdfphiogaaFcowWrite
import Derived.Test.YteldbkdfphiogaaFcowown
set_option linter.unusedVariables false
set_option linter.unusedSimpArgs false
namespace Go.Proofs.Yteldbkdfphiogaa.Pr
open Go.RowKit Go.Proofs.YteldbkdfphiogaaW.PrintWords Go.Proofs.YteldbkdfphiogaaW.PrintLast Go.Proofs.YteldbkdfphiogaaW.PrintMore
theorem ev_const {α : Type} (r : α) : Ev (fun _ => some r) r:=⟨0,fun _ _ => rfl⟩
theorem ev_bind {α β : Type} {g : Nat→Option α} {f : Nat→α→Option β} {a : α} {r : β} (h : Ev g a) (k : Ev (fun n => f n a) r) : Ev (fun n => (g n).bind (f n)) r:=by
  obtain ⟨K,h⟩:=h
  obtain ⟨K',k⟩:=k
  refine ⟨K + K',fun n hn => ?_⟩
  show (g n).bind (f n) = some r
  rw [h n (by omega),Option.bind_some]
  exact k n (by omega)
def small (ss : List S62) : Prop:=ss.length < 4611686018427387904∧∀ s ∈ ss,s.f1.length < 4611686018427387904
def liveE (sz : Int) (ss : List S62) (fs : List S57) (cp s : Int) : Int:=if chk sz ss fs cp = 0 then (if 0≤s∧s < (ss.length : Int)∧(rd_T62 ss s).f0 = true then 0 else 6) else chk sz ss fs cp
def atE (sz : Int) (ss : List S62) (fs : List S57) (cp s p : Int) : Int:=if liveE sz ss fs cp s = 0 then (if 0≤p∧p < sz then 0 else 2) else liveE sz ss fs cp s
theorem live_ev (sz : Int) (ss : List S62) (fs : List S57) (cp s : Int) (h : small ss) : Ev (fun k => cow_live.f k sz ss fs cp s) (liveE sz ss fs cp s):=by
  obtain ⟨K,hK⟩:=check_ev sz ss fs cp h.1 h.2
  replace hK : ∀ k,K≤k→cow_Check.f k sz ss fs cp = some (chk sz ss fs cp):=hK
  refine ev0 (K + 1) (fun k hk => ?_)
  obtain ⟨m,rfl⟩ : ∃ m,k = m + 1:=⟨k - 1,by omega⟩
  unfold cow_live.f liveE
  rw [hK (m + 1) (by omega),Option.bind_some]
  by_cases c : chk sz ss fs cp = 0
  · rw [if_pos c,if_pos c]
    by_cases c1 : s < 0
    · rw [if_pos c1,if_neg (by omega)];rfl
    · rw [if_neg c1]
      by_cases c2 : s≥(ss.length : Int)
      · rw [if_pos c2,if_neg (by omega)];rfl
      · rw [if_neg c2,if_pos (by omega),if_pos (by omega)]
        cases hl : (rd_T62 ss s).f0
        · rw [if_neg (by simp)];rfl
        · rw [if_pos ⟨by omega,by omega,rfl⟩];rfl
  · rw [if_neg c,if_neg c]
theorem at_ev (sz : Int) (ss : List S62) (fs : List S57) (cp s p : Int) (h : small ss) : Ev (fun k => cow_at.f k sz ss fs cp s p) (atE sz ss fs cp s p):=by
  obtain ⟨K,hK⟩:=live_ev sz ss fs cp s h
  replace hK : ∀ k,K≤k→cow_live.f k sz ss fs cp s = some (liveE sz ss fs cp s):=hK
  refine ev0 (K + 1) (fun k hk => ?_)
  obtain ⟨m,rfl⟩ : ∃ m,k = m + 1:=⟨k - 1,by omega⟩
  unfold cow_at.f atE
  rw [hK (m + 1) (by omega),Option.bind_some]
  by_cases c : liveE sz ss fs cp s = 0
  · rw [if_pos c,if_pos c]
    by_cases c1 : p < 0
    · rw [if_pos c1,if_neg (by omega)];rfl
    · rw [if_neg c1]
      by_cases c2 : p≥sz
      · rw [decide_eq_true c2,if_neg (by omega)];rfl
      · rw [decide_eq_false c2,if_pos (by omega)];rfl
  · rw [if_neg c,if_neg c]
theorem WF.rows {sz : Int} {ss : List S62} {fs : List S57} {cp : Int} (h : WF sz ss fs cp) : ∀ s ∈ ss,s.f1.length≤512:=by
  intro s hs
  have h1:=h.ln s hs
  have h2:=h.rg.2.1
  unfold lenOk at h1
  split at h1
  · have:=of_decide_eq_true h1;omega
  · have:=of_decide_eq_true h1;omega
theorem pages_le (ss : List S62) (n : Nat) (h : ∀ s ∈ ss,s.f1.length≤n) : (pagesOf ss).length≤n * ss.length:=by
  induction ss with
  | nil => simp [pagesOf]
  | cons s ss ih =>
    rw [pagesOf_cons,List.length_append,List.length_cons,Nat.mul_succ]
    have:=h s (by simp)
    have:=ih (fun t ht => h t (by simp [ht]))
    omega
theorem WF.small {sz : Int} {ss : List S62} {fs : List S57} {cp : Int} (h : WF sz ss fs cp) : small ss :=
  ⟨by have:=h.rg.2.2.2.1;omega,fun s hs => by have:=h.rows s hs;omega⟩
theorem WF.pages {sz : Int} {ss : List S62} {fs : List S57} {cp : Int} (h : WF sz ss fs cp) : (pagesOf ss).length≤4096:=by
  have:=pages_le ss 512 h.rows
  have:=h.rg.2.2.2.1
  omega
theorem WF.okC {sz : Int} {ss : List S62} {fs : List S57} {cp : Int} (h : WF sz ss fs cp) : okC ss fs :=
  ⟨by have:=h.rg.2.2.2.1;omega,by have:=h.rg.2.2.2.2.2.1;omega,fun x hx => by have:=h.rows x hx;omega⟩
theorem all62 (ss : List S62) (P : S62→Prop) : (∀ s ∈ ss,P s)↔∀ t : Nat,t < ss.length→P (rd_T62 ss (t : Int)):=by
  constructor
  · intro h t ht;exact h _ (mem62 ss t ht)
  · intro h s hs
    obtain ⟨t,ht,rfl⟩:=List.getElem_of_mem hs
    have:=h t ht
    unfold rd_T62 at this
    rw [List.getD_eq_getElem?_getD,Int.toNat_natCast,List.getElem?_eq_getElem ht] at this
    exact this
theorem WF.row {sz : Int} {ss : List S62} {fs : List S57} {cp : Int} (h : WF sz ss fs cp) (s : Nat) (hs : s < ss.length) (hl : (rd_T62 ss (s : Int)).f0 = true) : ((rd_T62 ss (s : Int)).f1.length : Int) = sz:=by
  have:=h.ln _ (mem62 ss s hs)
  unfold lenOk at this
  rw [if_pos hl] at this
  exact of_decide_eq_true this
theorem WF.page {sz : Int} {ss : List S62} {fs : List S57} {cp : Int} (h : WF sz ss fs cp) (s p : Nat) (hs : s < ss.length) (hp : p < (rd_T62 ss (s : Int)).f1.length) : -1≤(rd_T64 (rd_T62 ss (s : Int)).f1 (p : Int)).f0∧(rd_T64 (rd_T62 ss (s : Int)).f1 (p : Int)).f0 < (fs.length : Int):=by
  have:=h.wp.pg _ (mem_pagesOf (mem62 ss s hs) (mem64 _ p hp))
  exact ⟨this.1,this.2.1⟩
theorem WF.live {sz : Int} {ss : List S62} {fs : List S57} {cp : Int} (h : WF sz ss fs cp) (s : Int) : liveE sz ss fs cp s = if 0≤s∧s < (ss.length : Int)∧(rd_T62 ss s).f0 = true then 0 else 6:=by
  unfold liveE;rw [if_pos h.chk]
theorem setPage_ln {sz : Int} {ss : List S62} (h : ∀ s ∈ ss,lenOk sz s = true) (j k : Nat) (p : S64) (hj : j < ss.length) : ∀ s ∈ setPage ss (j : Int) (k : Int) p,lenOk sz s = true:=by
  intro s hs
  unfold setPage at hs
  rcases List.mem_or_eq_of_mem_set hs with h1 | rfl
  · exact h s h1
  · have:=h _ (mem62 ss j hj)
    unfold lenOk at this ⊢
    simp only [List.length_set]
    exact this
theorem WF.step {sz : Int} {ss ss' : List S62} {fs fs' : List S57} {cp cp' : Int} (h : WF sz ss fs cp) (l1 : ss'.length = ss.length) (l2 : fs'.length = fs.length) (hc : 0≤cp'∧cp'≤1048576) (ln : ∀ s ∈ ss',lenOk sz s = true) (wp : WP (pagesOf ss') fs') : WF sz ss' fs' cp' :=
  ⟨by obtain ⟨a,b,c,d,e,f,g,i⟩:=h.rg;exact ⟨a,b,by omega,by omega,by omega,by omega,hc.1,hc.2⟩,ln,wp⟩
theorem free_ev (fs : List S57) (hn : fs.length < 4611686018427387904) : ∃ r,Ev (fun k => api_CowFrame_33.f k fs) r∧((r = -1∧∀ i : Nat,i < fs.length→(rd_T57 fs (i : Int)).f0≠0)∨∃ i : Nat,i < fs.length∧r = (i : Int)∧(rd_T57 fs (i : Int)).f0 = 0∧∀ j : Nat,j < i→(rd_T57 fs (j : Int)).f0≠0):=by
  have key : ∀ (d j : Nat),j + d = fs.length→(∀ i : Nat,i < j→(rd_T57 fs (i : Int)).f0≠0)→∃ r,Ev (fun k => api_CowFrame_33.l0 k fs (fs.length : Int) j) r∧((r = -1∧∀ i : Nat,i < fs.length→(rd_T57 fs (i : Int)).f0≠0)∨∃ i : Nat,i < fs.length∧r = (i : Int)∧(rd_T57 fs (i : Int)).f0 = 0∧∀ j : Nat,j < i→(rd_T57 fs (j : Int)).f0≠0):=by
    intro d
    induction d with
    | zero =>
      intro j hj hno
      refine ⟨-1,ev1 0 (fun k _ => ?_),Or.inl ⟨rfl,fun i hi => hno i (by omega)⟩⟩
      simp only [api_CowFrame_33.l0]
      rw [if_neg (by omega)]
    | succ d ih =>
      intro j hj hno
      by_cases c : (rd_T57 fs (j : Int)).f0 = 0
      · refine ⟨(j : Int),ev1 0 (fun k _ => ?_),Or.inr ⟨j,by omega,rfl,c,hno⟩⟩
        simp only [api_CowFrame_33.l0]
        rw [if_pos (by omega),if_pos (by omega),if_pos (by omega)]
        simp [cow_Write_1.f,c]
      · obtain ⟨r,⟨K,hK⟩,hr⟩:=ih (j + 1) (by omega) (fun i hi => by
          by_cases e : i = j
          · subst e;exact c
          · exact hno i (by omega))
        refine ⟨r,ev1 K (fun k hk => ?_),hr⟩
        simp only [api_CowFrame_33.l0]
        rw [if_pos (by omega),if_pos (by omega),if_pos (by omega),wr1 (by omega)]
        simp [cow_Write_1.f,c]
        exact hK k hk
  exact key fs.length 0 (by omega) (fun i hi => by omega)
theorem wCopies_rg (f cp : Int) (h : 0≤cp∧cp≤1048576) : 0≤wCopies f cp∧wCopies f cp≤1048576:=by
  unfold wCopies incC
  split
  · unfold mn wrap64;omega
  · exact h
theorem write_step {sz : Int} {ss : List S62} {fs : List S57} {cp : Int} (h : WF sz ss fs cp) (s p : Nat) (hs : s < ss.length) (hl : (rd_T62 ss (s : Int)).f0 = true) (hp : (p : Int) < sz) (x : Int) :
    ((∀ i : Nat,i < fs.length→(rd_T57 fs (i : Int)).f0≠0)∧((rd_T64 (rd_T62 ss (s : Int)).f1 (p : Int)).f0 < 0∨1 < (rd_T57 fs (rd_T64 (rd_T62 ss (s : Int)).f1 (p : Int)).f0).f0)∧Ev (fun k => cow_Write.f k sz ss fs cp s p x) (0,[],[],0,16))
    ∨ (∃ (g : Int) (fs' : List S57) (cp' : Int),Ev (fun k => cow_Write.f k sz ss fs cp s p x) (sz,setPage ss (s : Int) (p : Int) ⟨g,true⟩,fs',cp',0)∧WF sz (setPage ss (s : Int) (p : Int) ⟨g,true⟩) fs' cp'∧fs'.length = fs.length ∧
      ((0≤(rd_T64 (rd_T62 ss (s : Int)).f1 (p : Int)).f0∧(rd_T57 fs (rd_T64 (rd_T62 ss (s : Int)).f1 (p : Int)).f0).f0≤1∧g = (rd_T64 (rd_T62 ss (s : Int)).f1 (p : Int)).f0∧cp' = cp∧fs' = fs.set (rd_T64 (rd_T62 ss (s : Int)).f1 (p : Int)).f0.toNat ⟨(rd_T57 fs (rd_T64 (rd_T62 ss (s : Int)).f1 (p : Int)).f0).f0,x⟩)
      ∨ (((rd_T64 (rd_T62 ss (s : Int)).f1 (p : Int)).f0 < 0∨1 < (rd_T57 fs (rd_T64 (rd_T62 ss (s : Int)).f1 (p : Int)).f0).f0)∧cp' = wCopies (rd_T64 (rd_T62 ss (s : Int)).f1 (p : Int)).f0 cp∧fs' = wFS fs (rd_T64 (rd_T62 ss (s : Int)).f1 (p : Int)).f0 g x∧∃ i : Nat,i < fs.length∧g = (i : Int)∧(rd_T57 fs (i : Int)).f0 = 0∧∀ j : Nat,j < i→(rd_T57 fs (j : Int)).f0≠0))):=by
  have hrow:=h.row s hs hl
  have hpr : p < (rd_T62 ss (s : Int)).f1.length:=by omega
  have hpg:=h.page s p hs hpr
  have hat : atE sz ss fs cp s p = 0:=by
    have hlv : liveE sz ss fs cp s = 0:=by rw [h.live,if_pos ⟨by omega,by omega,hl⟩]
    unfold atE
    rw [if_pos hlv,if_pos ⟨by omega,hp⟩]
  have hok : okP ss fs (s : Int) (p : Int):=⟨h.okC,by omega,by omega,by omega,by omega,hpg.2⟩
  have hA:=at_ev sz ss fs cp s p h.small
  rw [hat] at hA
  obtain ⟨X,Y,e1,e2⟩:=page_split ss s p hs hpr
  have hpl:=h.pages
  have hwp:=h.wp
  rw [e1] at hwp hpl
  have hcp : 0≤cp∧cp≤1048576:=⟨h.rg.2.2.2.2.2.2.1,h.rg.2.2.2.2.2.2.2⟩
  generalize hq : rd_T64 (rd_T62 ss (s : Int)).f1 (p : Int) = q at *
  by_cases c : q.f0 < 0∨1 < (rd_T57 fs q.f0).f0
  · obtain ⟨r,hr,hcase⟩:=free_ev fs (by have:=h.rg.2.2.2.2.2.1;omega)
    rcases hcase with ⟨rfl,hall⟩ | ⟨i,hi,rfl,hz,hmin⟩
    · refine Or.inl ⟨hall,c,?_⟩
      unfold cow_Write.f
      refine ev_bind hA ?_
      simp only [if_true,if_pos hok,hq,if_pos c]
      refine ev_bind hr ?_
      exact ev_const _
    · refine Or.inr ⟨(i : Int),wFS fs q.f0 (i : Int) x,wCopies q.f0 cp,?_,?_,?_,Or.inr ⟨c,rfl,rfl,i,hi,rfl,hz,hmin⟩⟩
      · unfold cow_Write.f
        refine ev_bind hA ?_
        simp only [if_true,if_pos hok,hq,if_pos c]
        refine ev_bind hr ?_
        rw [if_neg (by omega),if_pos (by omega)]
        exact ev_const _
      · refine h.step (setPage_len _ _ _ _) ?_ (wCopies_rg _ _ hcp) (setPage_ln h.ln s p _ hs) ?_
        · unfold wFS;rw [List.length_set];split
          · exact List.length_set
          · rfl
        · rw [e2]
          exact hwp.fresh (by omega) c i hi hz x
      · unfold wFS;rw [List.length_set];split
        · exact List.length_set
        · rfl
  · have c0 : 0≤q.f0:=by omega
    have c1 : (rd_T57 fs q.f0).f0≤1:=by omega
    refine Or.inr ⟨q.f0,fs.set q.f0.toNat ⟨(rd_T57 fs q.f0).f0,x⟩,cp,?_,?_,List.length_set,Or.inl ⟨c0,c1,rfl,rfl,rfl⟩⟩
    · unfold cow_Write.f
      refine ev_bind hA ?_
      simp only [if_true,if_pos hok,hq,if_neg c]
      exact ev_const _
    · refine h.step (setPage_len _ _ _ _) List.length_set hcp (setPage_ln h.ln s p _ hs) ?_
      rw [e2]
      exact hwp.inplace c0 c1 x
theorem unmap_step {sz : Int} {ss : List S62} {fs : List S57} {cp : Int} (h : WF sz ss fs cp) (s p : Nat) (hs : s < ss.length) (hl : (rd_T62 ss (s : Int)).f0 = true) (hp : (p : Int) < sz) :
    Ev (fun k => cow_Unmap.f k sz ss fs cp s p) (sz,setPage ss (s : Int) (p : Int) ⟨-1,false⟩,clearF fs (rd_T64 (rd_T62 ss (s : Int)).f1 (p : Int)).f0,cp,0)∧WF sz (setPage ss (s : Int) (p : Int) ⟨-1,false⟩) (clearF fs (rd_T64 (rd_T62 ss (s : Int)).f1 (p : Int)).f0) cp:=by
  have hrow:=h.row s hs hl
  have hpr : p < (rd_T62 ss (s : Int)).f1.length:=by omega
  have hpg:=h.page s p hs hpr
  have hat : atE sz ss fs cp s p = 0:=by
    have hlv : liveE sz ss fs cp s = 0:=by rw [h.live,if_pos ⟨by omega,by omega,hl⟩]
    unfold atE
    rw [if_pos hlv,if_pos ⟨by omega,hp⟩]
  have hok : okP ss fs (s : Int) (p : Int):=⟨h.okC,by omega,by omega,by omega,by omega,hpg.2⟩
  have hA:=at_ev sz ss fs cp s p h.small
  rw [hat] at hA
  obtain ⟨X,Y,e1,e2⟩:=page_split ss s p hs hpr
  have hpl:=h.pages
  have hwp:=h.wp
  rw [e1] at hwp hpl
  have hcp : 0≤cp∧cp≤1048576:=⟨h.rg.2.2.2.2.2.2.1,h.rg.2.2.2.2.2.2.2⟩
  constructor
  · unfold cow_Unmap.f
    refine ev_bind hA ?_
    simp only [if_true,if_pos hok]
    exact ev_const _
  · refine h.step (setPage_len _ _ _ _) (clearF_len _ _) hcp (setPage_ln h.ln s p _ hs) ?_
    rw [e2]
    exact hwp.unmap (by omega)
theorem setPage_other (ss : List S62) (j k : Nat) (p : S64) (hj : j < ss.length) (t : Nat) (ht : t≠j) : rd_T62 (setPage ss (j : Int) (k : Int) p) (t : Int) = rd_T62 ss (t : Int):=by
  unfold setPage
  rw [Int.toNat_natCast,rd62s _ _ _ _ hj,if_neg ht]
theorem setPage_at (ss : List S62) (j k : Nat) (p : S64) (hj : j < ss.length) (hk : k < (rd_T62 ss (j : Int)).f1.length) (t : Nat) : rd_T64 (rd_T62 (setPage ss (j : Int) (k : Int) p) (j : Int)).f1 (t : Int) = if t = k then p else rd_T64 (rd_T62 ss (j : Int)).f1 (t : Int):=by
  unfold setPage
  rw [Int.toNat_natCast,rd62s _ _ _ _ hj,if_pos rfl,Int.toNat_natCast]
  exact rd64s _ _ _ _ hk
theorem exitN_wf {sz : Int} {ss : List S62} {fs : List S57} {cp : Int} (h : WF sz ss fs cp) (j : Nat) (hj : j < ss.length) (hl : (rd_T62 ss (j : Int)).f0 = true) :
    ∀ i : Nat,i≤(rd_T62 ss (j : Int)).f1.length→WF sz (exitN j ss fs i).1 (exitN j ss fs i).2 cp∧(∀ k : Nat,k < i→rd_T64 (rd_T62 (exitN j ss fs i).1 (j : Int)).f1 (k : Int) = ⟨-1,false⟩)∧∀ t : Nat,t≠j→rd_T62 (exitN j ss fs i).1 (t : Int) = rd_T62 ss (t : Int)
  | 0,_ => ⟨h,fun k hk => by omega,fun _ _ => rfl⟩
  | i + 1,hi => by
    obtain ⟨w,a,b⟩:=exitN_wf h j hj hl i (by omega)
    obtain ⟨i1,i2,i3,i4,i5⟩:=exitN_inv (j : Int) ss fs (by omega) (by omega) i
    have hrow:=h.row j hj hl
    have hj' : j < (exitN j ss fs i).1.length:=by rw [i1];exact hj
    have hu:=unmap_step w j i hj' (by rw [i3];exact hl) (by omega)
    refine ⟨hu.2,fun k hk => ?_,fun t ht => ?_⟩
    · show rd_T64 (rd_T62 (setPage (exitN j ss fs i).1 j i ⟨-1,false⟩) (j : Int)).f1 (k : Int) = _
      rw [setPage_at _ _ _ _ hj' (by rw [i4];omega)]
      by_cases e : k = i
      · rw [if_pos e]
      · rw [if_neg e];exact a k (by omega)
    · show rd_T62 (setPage (exitN j ss fs i).1 j i ⟨-1,false⟩) (t : Int) = _
      rw [setPage_other _ _ _ _ hj' _ ht]
      exact b t ht
theorem all64 (ss : List S64) (P : S64→Prop) : (∀ s ∈ ss,P s)↔∀ t : Nat,t < ss.length→P (rd_T64 ss (t : Int)):=by
  constructor
  · intro h t ht;exact h _ (mem64 ss t ht)
  · intro h s hs
    obtain ⟨t,ht,rfl⟩:=List.getElem_of_mem hs
    have:=h t ht
    unfold rd_T64 at this
    rw [List.getD_eq_getElem?_getD,Int.toNat_natCast,List.getElem?_eq_getElem ht] at this
    exact this
theorem cntN_none (ps : List S64) (h : ∀ p ∈ ps,p = ⟨-1,false⟩) (i : Nat) : cntN ps i = 0∧wrtN ps i = false:=by
  have h0 : cntN ps i = 0:=by
    have:=(cntN_le ps i).1
    by_cases c : cntN ps i = 0
    · exact c
    · unfold cntN at c this
      have hp : 0 < ps.countP (fun p => decide (p.f0 = (i : Int))):=by omega
      obtain ⟨p,hp1,hp2⟩:=List.countP_pos_iff.1 hp
      rw [h p hp1] at hp2
      simp at hp2
  exact ⟨h0,wrtN_zero _ _ h0⟩
theorem exit_step {sz : Int} {ss : List S62} {fs : List S57} {cp : Int} (h : WF sz ss fs cp) (j : Nat) (hj : j < ss.length) (hl : (rd_T62 ss (j : Int)).f0 = true) :
    Ev (fun k => cow_Exit.f k sz ss fs cp j) (sz,exitSS ss fs j,exitFS ss fs j,cp,0)∧WF sz (exitSS ss fs j) (exitFS ss fs j) cp∧(exitSS ss fs j).length = ss.length∧(exitFS ss fs j).length = fs.length∧rd_T62 (exitSS ss fs j) (j : Int) = ⟨false,[]⟩∧∀ t : Nat,t≠j→rd_T62 (exitSS ss fs j) (t : Int) = rd_T62 ss (t : Int):=by
  have hrow:=h.row j hj hl
  have hsz:=h.rg.1
  have hlv : liveE sz ss fs cp j = 0:=by rw [h.live,if_pos ⟨by omega,by omega,hl⟩]
  have hA:=live_ev sz ss fs cp j h.small
  rw [hlv] at hA
  have hok : okE ss fs (j : Int):=⟨h.okC,by omega,by omega,by omega,fun k hk => (h.page j k hj hk).2⟩
  obtain ⟨w,a,b⟩:=exitN_wf h j hj hl _ (Nat.le_refl _)
  obtain ⟨i1,i2,i3,i4,i5⟩:=exitN_inv (j : Int) ss fs (by omega) (by omega) (rd_T62 ss (j : Int)).f1.length
  have hj' : j < (exitN j ss fs (rd_T62 ss (j : Int)).f1.length).1.length:=by rw [i1];exact hj
  have hrs : ∀ t : Nat,rd_T62 (exitSS ss fs j) (t : Int) = if t = j then ⟨false,[]⟩ else rd_T62 (exitN j ss fs (rd_T62 ss (j : Int)).f1.length).1 (t : Int):=by
    intro t;unfold exitSS;rw [Int.toNat_natCast];exact rd62s _ _ _ _ hj'
  have hlen : (exitSS ss fs j).length = ss.length:=by unfold exitSS;rw [List.length_set,i1]
  refine ⟨?_,?_,hlen,i2,by rw [hrs,if_pos rfl],fun t ht => by rw [hrs,if_neg ht];exact b t ht⟩
  · unfold cow_Exit.f
    refine ev_bind hA ?_
    simp only [if_true,if_pos hok]
    exact ev_const _
  · refine h.step hlen i2 ⟨h.rg.2.2.2.2.2.2.1,h.rg.2.2.2.2.2.2.2⟩ ?_ ?_
    · intro s hs
      unfold exitSS at hs
      rcases List.mem_or_eq_of_mem_set hs with h1 | rfl
      · exact w.ln s h1
      · rfl
    · obtain ⟨X,Y,e1,e2⟩:=row_split _ j hj'
      have hwp:=w.wp
      rw [e1] at hwp
      unfold exitSS exitFS
      rw [Int.toNat_natCast,e2,List.nil_append]
      have hn : ∀ p ∈ (rd_T62 (exitN j ss fs (rd_T62 ss (j : Int)).f1.length).1 (j : Int)).f1,p = ⟨-1,false⟩:=(all64 _ _).2 (fun t ht => a t (by rw [i4] at ht;exact ht))
      generalize (rd_T62 (exitN j ss fs (rd_T62 ss (j : Int)).f1.length).1 (j : Int)).f1 = R at hwp hn
      have hc : ∀ i,cntN (X ++ (R ++ Y)) i = cntN (X ++ Y) i:=fun i => by rw [cntN_append,cntN_append,cntN_append,(cntN_none R hn i).1];omega
      have hw : ∀ i,wrtN (X ++ (R ++ Y)) i = wrtN (X ++ Y) i:=fun i => by rw [wrtN_append,wrtN_append,wrtN_append,(cntN_none R hn i).2,Bool.false_or]
      refine ⟨fun p hp => hwp.pg p ?_,fun i hi => ?_,fun i hi hh => ?_⟩
      · rcases List.mem_append.1 hp with h1 | h1 <;> simp [h1]
      · rw [← hc];exact hwp.st i hi
      · rw [← hc];exact hwp.ac i hi (by rw [hw];exact hh)
def clr (p : S64) : S64:=⟨p.f0,false⟩
theorem forkN_wp {sz : Int} {ss : List S62} {fs : List S57} {cp : Int} (h : WF sz ss fs cp) (j : Nat) (hj : j < ss.length) (hl : (rd_T62 ss (j : Int)).f0 = true) :
    ∀ i : Nat,i≤(rd_T62 ss (j : Int)).f1.length→WP (pagesOf (forkN j ss fs i).1 ++ ((rd_T62 ss (j : Int)).f1.take i).map clr) (forkN j ss fs i).2∧(∀ s ∈ (forkN j ss fs i).1,lenOk sz s = true)∧(∀ k : Nat,k < i→rd_T64 (rd_T62 (forkN j ss fs i).1 (j : Int)).f1 (k : Int) = clr (rd_T64 (rd_T62 ss (j : Int)).f1 (k : Int)))∧(∀ t : Nat,t≠j→rd_T62 (forkN j ss fs i).1 (t : Int) = rd_T62 ss (t : Int))∧(pagesOf (forkN j ss fs i).1).length = (pagesOf ss).length
  | 0,_ => ⟨by rw [List.take_zero,List.map_nil,List.append_nil];exact h.wp,h.ln,fun k hk => by omega,fun _ _ => rfl,rfl⟩
  | i + 1,hi => by
    obtain ⟨w,l,a,b,c⟩:=forkN_wp h j hj hl i (by omega)
    obtain ⟨i1,i2,i3,i4,i5⟩:=forkN_inv (j : Int) ss fs (by omega) (by omega) i
    have hj' : j < (forkN j ss fs i).1.length:=by rw [i1];exact hj
    have hk' : i < (rd_T62 (forkN j ss fs i).1 (j : Int)).f1.length:=by rw [i4];omega
    obtain ⟨X,Y,e1,e2⟩:=page_split (forkN j ss fs i).1 j i hj' hk'
    have hq:=i5 i (Nat.le_refl _)
    have hpl:=h.pages
    have hp2:=pages_le ss 512 h.rows
    have hrow:=h.rows _ (mem62 ss j hj)
    rw [e1] at w c
    refine ⟨?_,setPage_ln l j i _ hj',fun k hk => ?_,fun t ht => ?_,?_⟩
    · show WP (pagesOf (setPage (forkN j ss fs i).1 j i ⟨(rd_T64 (rd_T62 (forkN j ss fs i).1 j).f1 i).f0,false⟩) ++ _) (incF (forkN j ss fs i).2 (rd_T64 (rd_T62 (forkN j ss fs i).1 j).f1 i).f0)
      rw [e2,take64 _ i (by omega),List.map_append,List.map_singleton,← hq]
      exact w.share (by rw [List.length_append,c,List.length_map,List.length_take];omega)
    · show rd_T64 (rd_T62 (setPage (forkN j ss fs i).1 j i _) (j : Int)).f1 (k : Int) = _
      rw [setPage_at _ _ _ _ hj' hk']
      by_cases e : k = i
      · rw [if_pos e,hq,e];rfl
      · rw [if_neg e];exact a k (by omega)
    · show rd_T62 (setPage (forkN j ss fs i).1 j i _) (t : Int) = _
      rw [setPage_other _ _ _ _ hj' _ ht]
      exact b t ht
    · show (pagesOf (setPage (forkN j ss fs i).1 j i _)).length = _
      rw [e2,← c,List.length_append,List.length_append,List.length_cons,List.length_cons]
theorem rd64_ext {a b : List S64} (hl : a.length = b.length) (h : ∀ t : Nat,t < a.length→rd_T64 a (t : Int) = rd_T64 b (t : Int)) : a = b:=by
  apply List.ext_getElem hl
  intro t h1 h2
  have:=h t h1
  unfold rd_T64 at this
  rw [List.getD_eq_getElem?_getD,List.getD_eq_getElem?_getD,Int.toNat_natCast,List.getElem?_eq_getElem h1,List.getElem?_eq_getElem h2] at this
  exact this
theorem rd64_map (xs : List S64) (t : Nat) (h : t < xs.length) : rd_T64 (xs.map clr) (t : Int) = clr (rd_T64 xs (t : Int)):=by
  unfold rd_T64
  rw [List.getD_eq_getElem?_getD,List.getD_eq_getElem?_getD,Int.toNat_natCast,List.getElem?_map,List.getElem?_eq_getElem h]
  rfl
theorem rd62_app (ss : List S62) (s : S62) (t : Nat) : rd_T62 (ss ++ [s]) (t : Int) = if t = ss.length then s else rd_T62 ss (t : Int):=by
  unfold rd_T62
  rw [List.getD_eq_getElem?_getD,List.getD_eq_getElem?_getD,Int.toNat_natCast]
  by_cases c : t < ss.length
  · rw [List.getElem?_append_left c,if_neg (by omega)]
  · by_cases e : t = ss.length
    · subst e;simp
    · rw [if_neg e,List.getElem?_eq_none (by simp;omega),List.getElem?_eq_none (by omega)]
theorem fork_step {sz : Int} {ss : List S62} {fs : List S57} {cp : Int} (h : WF sz ss fs cp) (j : Nat) (hj : j < ss.length) (hl : (rd_T62 ss (j : Int)).f0 = true) (h8 : ss.length < 8) :
    Ev (fun k => cow_Fork.f k sz ss fs cp j) (sz,forkSS ss fs j,forkFS ss fs j,cp,(ss.length : Int),0)∧WF sz (forkSS ss fs j) (forkFS ss fs j) cp∧(forkSS ss fs j).length = ss.length + 1∧(forkFS ss fs j).length = fs.length∧(∀ t : Nat,t≠j→t≠ss.length→rd_T62 (forkSS ss fs j) (t : Int) = rd_T62 ss (t : Int))∧rd_T62 (forkSS ss fs j) (j : Int) = ⟨true,(rd_T62 ss (j : Int)).f1.map clr⟩∧rd_T62 (forkSS ss fs j) (ss.length : Int) = ⟨true,(rd_T62 ss (j : Int)).f1.map clr⟩:=by
  have hrow:=h.row j hj hl
  have hsz:=h.rg.1
  have hlv : liveE sz ss fs cp j = 0:=by rw [h.live,if_pos ⟨by omega,by omega,hl⟩]
  have hA:=live_ev sz ss fs cp j h.small
  rw [hlv] at hA
  have hok : okE ss fs (j : Int):=⟨h.okC,by omega,by omega,by omega,fun k hk => (h.page j k hj hk).2⟩
  obtain ⟨w,l,a,b,c⟩:=forkN_wp h j hj hl _ (Nat.le_refl _)
  obtain ⟨i1,i2,i3,i4,i5⟩:=forkN_inv (j : Int) ss fs (by omega) (by omega) (rd_T62 ss (j : Int)).f1.length
  rw [List.take_length] at w
  have hR : (rd_T62 (forkN j ss fs (rd_T62 ss (j : Int)).f1.length).1 (j : Int)).f1 = (rd_T62 ss (j : Int)).f1.map clr:=by
    apply rd64_ext
    · rw [i4,List.length_map]
    · intro t ht
      rw [i4] at ht
      rw [a t ht,rd64_map _ _ ht]
  have hRow : rd_T62 (forkN j ss fs (rd_T62 ss (j : Int)).f1.length).1 (j : Int) = ⟨true,(rd_T62 ss (j : Int)).f1.map clr⟩:=by
    rw [← hR,← hl,← i3]
  have hss : forkSS ss fs j = (forkN j ss fs (rd_T62 ss (j : Int)).f1.length).1 ++ [⟨true,(rd_T62 ss (j : Int)).f1.map clr⟩]:=by
    unfold forkSS;rw [hR]
  have hlen : (forkSS ss fs j).length = ss.length + 1:=by rw [hss,List.length_append,i1];rfl
  refine ⟨?_,?_,hlen,i2,fun t h1 h2 => ?_,?_,?_⟩
  · unfold cow_Fork.f
    refine ev_bind hA ?_
    simp only [if_true,if_pos hok]
    rw [if_neg (by omega)]
    exact ev_const _
  · obtain ⟨r1,r2,r3,r4,r5,r6,r7,r8⟩:=h.rg
    refine ⟨⟨r1,r2,by omega,by omega,by unfold forkFS;omega,by unfold forkFS;omega,r7,r8⟩,?_,?_⟩
    · rw [hss]
      intro s hs
      rcases List.mem_append.1 hs with h1 | h1
      · exact l s h1
      · rw [List.mem_singleton] at h1
        subst h1
        unfold lenOk
        rw [if_pos rfl]
        simp [hrow]
    · rw [hss,pagesOf_append]
      have e : pagesOf [(⟨true,(rd_T62 ss (j : Int)).f1.map clr⟩ : S62)] = (rd_T62 ss (j : Int)).f1.map clr:=by simp [pagesOf]
      rw [e]
      exact w
  · rw [hss,rd62_app,if_neg (by rw [i1];exact h2)]
    exact b t h1
  · rw [hss,rd62_app,if_neg (by rw [i1];omega)]
    exact hRow
  · rw [hss,rd62_app,if_pos i1.symm]
end Go.Proofs.Yteldbkdfphiogaa.Pr
