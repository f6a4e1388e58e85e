/- CowRoom: with as many frames as pages no write is refused for memory. -/
import Derived.Test.YteldbkdfphiogaaCe
import Derived.Test.YteldbkdfphiogaaCy
set_option linter.unusedVariables false
set_option linter.unusedSimpArgs false
namespace Go.Proofs.Yteldbkdfphiogaa.Pr
open Go.RowKit Go.Proofs.YteldbkdfphiogaaW.PrintWords Go.Proofs.YteldbkdfphiogaaW.PrintLast Go.Proofs.YteldbkdfphiogaaW.PrintMore
def wfm (c : Mc) : Prop:=WF c.1 c.2.1 c.2.2.1 c.2.2.2
theorem at_cases {sz : Int} {ss : List S62} {fs : List S57} {cp : Int} (h : WF sz ss fs cp) (s p : Int) : (atE sz ss fs cp s p = 0∧∃ a b : Nat,s = (a : Int)∧p = (b : Int)∧a < ss.length∧(rd_T62 ss (a : Int)).f0 = true∧(b : Int) < sz)∨(atE sz ss fs cp s p≠0∧atE sz ss fs cp s p≠16):=by
  unfold atE
  rw [h.live]
  by_cases c : 0≤s∧s < (ss.length : Int)∧(rd_T62 ss s).f0 = true
  · rw [if_pos c,if_pos rfl]
    by_cases d : 0≤p∧p < sz
    · rw [if_pos d]
      obtain ⟨a,rfl⟩ : ∃ a : Nat,s = a:=⟨s.toNat,by omega⟩
      obtain ⟨b,rfl⟩ : ∃ b : Nat,p = b:=⟨p.toNat,by omega⟩
      exact Or.inl ⟨rfl,a,b,rfl,rfl,by omega,c.2.2,d.2⟩
    · rw [if_neg d]
      exact Or.inr ⟨by decide,by decide⟩
  · rw [if_neg c,if_neg (by decide)]
    exact Or.inr ⟨by decide,by decide⟩
theorem live_cases {sz : Int} {ss : List S62} {fs : List S57} {cp : Int} (h : WF sz ss fs cp) (s : Int) : (liveE sz ss fs cp s = 0∧∃ a : Nat,s = (a : Int)∧a < ss.length∧(rd_T62 ss (a : Int)).f0 = true)∨(liveE sz ss fs cp s≠0∧liveE sz ss fs cp s≠16):=by
  rw [h.live]
  by_cases c : 0≤s∧s < (ss.length : Int)∧(rd_T62 ss s).f0 = true
  · rw [if_pos c]
    obtain ⟨a,rfl⟩ : ∃ a : Nat,s = a:=⟨s.toNat,by omega⟩
    exact Or.inl ⟨rfl,a,rfl,by omega,c.2.2⟩
  · rw [if_neg c]
    exact Or.inr ⟨by decide,by decide⟩
structure Stepped (c : Mc) (o : S40) (d : Mc) (x e : Int) : Prop where
  ev : nPlay c o d x e
  ok : e = 0→0≤o.f0→o.f0≤3→wfm d∧d.1 = c.1∧d.2.2.1.length = c.2.2.1.length
  full : e = 16→(∀ i : Nat,i < c.2.2.1.length→(rd_T57 c.2.2.1 (i : Int)).f0≠0)∧∃ s p : Nat,s < c.2.1.length∧p < (rd_T62 c.2.1 (s : Int)).f1.length∧((rd_T64 (rd_T62 c.2.1 (s : Int)).f1 (p : Int)).f0 < 0∨1 < (rd_T57 c.2.2.1 (rd_T64 (rd_T62 c.2.1 (s : Int)).f1 (p : Int)).f0).f0)
theorem play_write {c : Mc} {o : S40} (h0 : o.f0 = 0) {d : Mc} {e : Int} (h : Ev (fun k => cow_Write.f k c.1 c.2.1 c.2.2.1 c.2.2.2 o.f1 o.f2 o.f3) (d.1,d.2.1,d.2.2.1,d.2.2.2,e)) : nPlay c o d 0 e:=by
  obtain ⟨k,hk⟩:=h.rounds
  refine ⟨k,?_⟩
  unfold estoverslaw25_play.f
  rw [if_pos h0,hk]
  rfl
theorem play_fork {c : Mc} {o : S40} (h0 : o.f0 = 1) {d : Mc} {x e : Int} (h : Ev (fun k => cow_Fork.f k c.1 c.2.1 c.2.2.1 c.2.2.2 o.f1) (d.1,d.2.1,d.2.2.1,d.2.2.2,x,e)) : nPlay c o d x e:=by
  obtain ⟨k,hk⟩:=h.rounds
  refine ⟨k,?_⟩
  unfold estoverslaw25_play.f
  rw [if_neg (by omega),if_pos h0,hk]
  rfl
theorem play_unmap {c : Mc} {o : S40} (h0 : o.f0 = 2) {d : Mc} {e : Int} (h : Ev (fun k => cow_Unmap.f k c.1 c.2.1 c.2.2.1 c.2.2.2 o.f1 o.f2) (d.1,d.2.1,d.2.2.1,d.2.2.2,e)) : nPlay c o d 0 e:=by
  obtain ⟨k,hk⟩:=h.rounds
  refine ⟨k,?_⟩
  unfold estoverslaw25_play.f
  rw [if_neg (by omega),if_neg (by omega),if_pos h0,hk]
  rfl
theorem play_exit {c : Mc} {o : S40} (h0 : o.f0 = 3) {d : Mc} {e : Int} (h : Ev (fun k => cow_Exit.f k c.1 c.2.1 c.2.2.1 c.2.2.2 o.f1) (d.1,d.2.1,d.2.2.1,d.2.2.2,e)) : nPlay c o d 0 e:=by
  obtain ⟨k,hk⟩:=h.rounds
  refine ⟨k,?_⟩
  unfold estoverslaw25_play.f
  rw [if_neg (by omega),if_neg (by omega),if_neg (by omega),if_pos h0,hk]
  rfl
theorem play_read {c : Mc} {o : S40} (h0 : ¬ (0≤o.f0∧o.f0≤3)) {x e : Int} (h : Ev (fun k => cow_Read.f k c.1 c.2.1 c.2.2.1 c.2.2.2 o.f1 o.f2) (x,e)) : nPlay c o c x e:=by
  obtain ⟨k,hk⟩:=h.rounds
  refine ⟨k,?_⟩
  unfold estoverslaw25_play.f
  rw [if_neg (by omega),if_neg (by omega),if_neg (by omega),if_neg (by omega),hk]
  rfl
theorem read_step {c : Mc} (h : wfm c) (s p : Int) : ∃ x e,Ev (fun k => cow_Read.f k c.1 c.2.1 c.2.2.1 c.2.2.2 s p) (x,e)∧e≠16:=by
  have hA:=at_ev c.1 c.2.1 c.2.2.1 c.2.2.2 s p h.small
  rcases at_cases h s p with ⟨h0,a,b,rfl,rfl,ha,hl,hb⟩ | ⟨h0,h16⟩
  · rw [h0] at hA
    have hrow:=h.row a ha hl
    have hpg:=h.page a b ha (by omega)
    unfold cow_Read.f
    by_cases cc : (rd_T64 (rd_T62 c.2.1 (a : Int)).f1 (b : Int)).f0 < 0
    · refine ⟨0,0,ev_bind hA ?_,by decide⟩
      rw [if_pos rfl,if_pos (by omega),if_pos (by omega),if_pos (by omega),if_pos (by omega),if_pos cc]
      exact ev_const _
    · refine ⟨(rd_T57 c.2.2.1 (rd_T64 (rd_T62 c.2.1 (a : Int)).f1 (b : Int)).f0).f1,0,ev_bind hA ?_,by decide⟩
      rw [if_pos rfl,if_pos (by omega),if_pos (by omega),if_pos (by omega),if_pos (by omega),if_neg cc,if_pos (by omega),if_pos (by omega)]
      exact ev_const _
  · unfold cow_Read.f
    refine ⟨0,_,ev_bind hA ?_,h16⟩
    rw [if_neg h0]
    exact ev_const _
theorem play_step (c : Mc) (h : wfm c) (o : S40) : ∃ d x e,Stepped c o d x e:=by
  have bad : ∀ e : Int,e≠0→e≠16→∀ x,nPlay c o ((0 : Int),([] : List S62),([] : List S57),(0 : Int)) x e→∃ d x e,Stepped c o d x e:=fun e h0 h16 x hp => ⟨_,x,e,hp,fun h => absurd h h0,fun h => absurd h h16⟩
  by_cases c0 : o.f0 = 0
  · have hA:=at_ev c.1 c.2.1 c.2.2.1 c.2.2.2 o.f1 o.f2 h.small
    rcases at_cases h o.f1 o.f2 with ⟨h0,a,b,ha,hb,hal,hl,hbl⟩ | ⟨h0,h16⟩
    · rcases write_step h a b hal hl hbl o.f3 with ⟨hall,hc,hev⟩ | ⟨g,fs',cp',hev,hwf,hlen,_⟩
      · rw [← ha,← hb] at hev
        have hrow:=h.row a hal hl
        exact ⟨((0 : Int),([] : List S62),([] : List S57),(0 : Int)),0,16,play_write c0 hev,fun h => absurd h (by decide),fun _ => ⟨hall,a,b,hal,by omega,hc⟩⟩
      · rw [← ha,← hb] at hev
        exact ⟨(c.1,setPage c.2.1 o.f1 o.f2 ⟨g,true⟩,fs',cp'),0,0,play_write c0 hev,fun _ _ _ => ⟨by rw [ha,hb];exact hwf,rfl,hlen⟩,fun h => absurd h (by decide)⟩
    · refine bad _ h0 h16 0 (play_write c0 ?_)
      unfold cow_Write.f
      refine ev_bind hA ?_
      simp only [if_neg h0]
      exact ev_const _
  by_cases c1 : o.f0 = 1
  · have hA:=live_ev c.1 c.2.1 c.2.2.1 c.2.2.2 o.f1 h.small
    rcases live_cases h o.f1 with ⟨h0,a,ha,hal,hl⟩ | ⟨h0,h16⟩
    · by_cases h8 : c.2.1.length < 8
      · obtain ⟨f1,f2,f3,f4,_⟩:=fork_step h a hal hl h8
        rw [← ha] at f1 f2 f3 f4
        exact ⟨(c.1,forkSS c.2.1 c.2.2.1 o.f1,forkFS c.2.1 c.2.2.1 o.f1,c.2.2.2),_,0,play_fork c1 f1,fun _ _ _ => ⟨f2,rfl,f4⟩,fun h => absurd h (by decide)⟩
      · refine bad 9 (by decide) (by decide) 0 (play_fork c1 ?_)
        have hrow:=h.row a hal hl
        have hsz:=h.rg.1
        have hok : okE c.2.1 c.2.2.1 o.f1:=by rw [ha];exact ⟨h.okC,by omega,by omega,by omega,fun k hk => (h.page a k hal hk).2⟩
        rw [h0] at hA
        unfold cow_Fork.f
        refine ev_bind hA ?_
        simp only [if_true,if_pos hok]
        rw [if_pos (by omega)]
        exact ev_const _
    · refine bad _ h0 h16 0 (play_fork c1 ?_)
      unfold cow_Fork.f
      refine ev_bind hA ?_
      simp only [if_neg h0]
      exact ev_const _
  by_cases c2 : o.f0 = 2
  · have hA:=at_ev c.1 c.2.1 c.2.2.1 c.2.2.2 o.f1 o.f2 h.small
    rcases at_cases h o.f1 o.f2 with ⟨h0,a,b,ha,hb,hal,hl,hbl⟩ | ⟨h0,h16⟩
    · obtain ⟨u1,u2⟩:=unmap_step h a b hal hl hbl
      rw [← ha,← hb] at u1 u2
      exact ⟨(c.1,setPage c.2.1 o.f1 o.f2 ⟨-1,false⟩,clearF c.2.2.1 (rd_T64 (rd_T62 c.2.1 o.f1).f1 o.f2).f0,c.2.2.2),0,0,play_unmap c2 u1,fun _ _ _ => ⟨u2,rfl,clearF_len _ _⟩,fun h => absurd h (by decide)⟩
    · refine bad _ h0 h16 0 (play_unmap c2 ?_)
      unfold cow_Unmap.f
      refine ev_bind hA ?_
      simp only [if_neg h0]
      exact ev_const _
  by_cases c3 : o.f0 = 3
  · have hA:=live_ev c.1 c.2.1 c.2.2.1 c.2.2.2 o.f1 h.small
    rcases live_cases h o.f1 with ⟨h0,a,ha,hal,hl⟩ | ⟨h0,h16⟩
    · obtain ⟨x1,x2,x3,x4,_⟩:=exit_step h a hal hl
      rw [← ha] at x1 x2 x3 x4
      exact ⟨(c.1,exitSS c.2.1 c.2.2.1 o.f1,exitFS c.2.1 c.2.2.1 o.f1,c.2.2.2),0,0,play_exit c3 x1,fun _ _ _ => ⟨x2,rfl,x4⟩,fun h => absurd h (by decide)⟩
    · refine bad _ h0 h16 0 (play_exit c3 ?_)
      unfold cow_Exit.f
      refine ev_bind hA ?_
      simp only [if_neg h0]
      exact ev_const _
  · obtain ⟨x,e,hev,h16⟩:=read_step h o.f1 o.f2
    exact ⟨c,x,e,play_read (by omega) hev,fun _ a b => by omega,fun h => absurd h h16⟩
def sumC (ps : List S64) : Nat→Int
  | 0 => 0
  | n + 1 => sumC ps n + cntN ps n
theorem sumC_cons (p : S64) (ps : List S64) : ∀ n,sumC (p :: ps) n = sumC ps n + (if 0≤p.f0∧p.f0 < (n : Int) then 1 else 0)
  | 0 => by rw [if_neg (by omega)];rfl
  | n + 1 => by
    simp only [sumC]
    rw [sumC_cons p ps n,cntN_cons]
    by_cases c : p.f0 = (n : Int)
    · rw [if_pos c,if_neg (by omega),if_pos (by omega)];omega
    · rw [if_neg c]
      by_cases d : 0≤p.f0∧p.f0 < (n : Int)
      · rw [if_pos d,if_pos (by omega)];omega
      · rw [if_neg d,if_neg (by omega)];omega
def negs (ps : List S64) : Int:=(ps.countP (fun p => decide (p.f0 < 0)) : Nat)
theorem sumC_le (ps : List S64) (n : Nat) : sumC ps n + negs ps≤ps.length:=by
  induction ps with
  | nil =>
    have : ∀ n,sumC [] n = 0:=by
      intro n
      induction n with
      | zero => rfl
      | succ n ih => simp only [sumC,ih,cntN_nil];rfl
    rw [this];simp [negs]
  | cons p ps ih =>
    rw [sumC_cons]
    have e : negs (p :: ps) = negs ps + (if p.f0 < 0 then 1 else 0):=by
      unfold negs;rw [List.countP_cons]
      by_cases c : p.f0 < 0
      · simp [c]
      · simp [c]
    rw [e,List.length_cons]
    by_cases c : p.f0 < 0
    · rw [if_pos c,if_neg (by omega)];omega
    · rw [if_neg c]
      by_cases d : 0≤p.f0∧p.f0 < (n : Int)
      · rw [if_pos d];omega
      · rw [if_neg d];omega
theorem sumC_ge (ps : List S64) : ∀ n,(∀ i : Nat,i < n→1≤cntN ps i)→(n : Int)≤sumC ps n
  | 0,_ => by simp [sumC]
  | n + 1,h => by
    have:=sumC_ge ps n (fun i hi => h i (by omega))
    have:=h n (by omega)
    simp only [sumC]
    omega
theorem sumC_gt (ps : List S64) (t : Nat) (ht : 2≤cntN ps t) : ∀ n,t < n→(∀ i : Nat,i < n→1≤cntN ps i)→(n : Int) + 1≤sumC ps n
  | 0,h,_ => by omega
  | n + 1,h,hall => by
    simp only [sumC]
    by_cases e : t = n
    · subst e
      have:=sumC_ge ps t (fun i hi => hall i (by omega))
      omega
    · have:=sumC_gt ps t ht n (by omega) (fun i hi => hall i (by omega))
      have:=hall n (by omega)
      omega
theorem room_ok (c : Mc) (h : wfm c) (hf : (c.2.2.1.length : Int) = 8 * c.1) (hall : ∀ i : Nat,i < c.2.2.1.length→(rd_T57 c.2.2.1 (i : Int)).f0≠0) (s p : Nat) (hs : s < c.2.1.length) (hp : p < (rd_T62 c.2.1 (s : Int)).f1.length) (hc : (rd_T64 (rd_T62 c.2.1 (s : Int)).f1 (p : Int)).f0 < 0∨1 < (rd_T57 c.2.2.1 (rd_T64 (rd_T62 c.2.1 (s : Int)).f1 (p : Int)).f0).f0) : False:=by
  have hsz : ∀ t ∈ c.2.1,t.f1.length≤c.1.toNat:=by
    intro t ht
    have h1:=h.ln t ht
    have:=h.rg.1
    unfold lenOk at h1
    split at h1
    · have:=of_decide_eq_true h1;omega
    · have:=of_decide_eq_true h1;omega
  have hpl:=pages_le c.2.1 _ hsz
  have h8:=h.rg.2.2.2.1
  have hm : c.1.toNat * c.2.1.length≤c.1.toNat * 8:=Nat.mul_le_mul_left _ h8
  have h1:=h.rg.1
  have hle:=sumC_le (pagesOf c.2.1) c.2.2.1.length
  have hone : ∀ i : Nat,i < c.2.2.1.length→1≤cntN (pagesOf c.2.1) i:=by
    intro i hi
    have a:=hall i hi
    rw [(h.wp.st i hi).1] at a
    have:=(cntN_le (pagesOf c.2.1) i).1
    omega
  have hmem:=mem_pagesOf (mem62 c.2.1 s hs) (mem64 _ p hp)
  rcases hc with hc | hc
  · have hge:=sumC_ge (pagesOf c.2.1) _ hone
    have : 1≤negs (pagesOf c.2.1):=by
      have : 0 < (pagesOf c.2.1).countP (fun p => decide (p.f0 < 0)):=List.countP_pos_iff.2 ⟨_,hmem,by simpa using hc⟩
      unfold negs
      omega
    omega
  · have hpg:=h.page s p hs hp
    have hn : 0≤negs (pagesOf c.2.1):=by unfold negs;omega
    by_cases hneg : (rd_T64 (rd_T62 c.2.1 (s : Int)).f1 (p : Int)).f0 < 0
    · have hge:=sumC_ge (pagesOf c.2.1) _ hone
      have : 1≤negs (pagesOf c.2.1):=by
        have : 0 < (pagesOf c.2.1).countP (fun p => decide (p.f0 < 0)):=List.countP_pos_iff.2 ⟨_,hmem,by simpa using hneg⟩
        unfold negs
        omega
      omega
    · obtain ⟨t,ht⟩ : ∃ t : Nat,(rd_T64 (rd_T62 c.2.1 (s : Int)).f1 (p : Int)).f0 = (t : Int):=⟨_,(Int.toNat_of_nonneg (by omega)).symm⟩
      rw [ht] at hc hpg
      have htl : t < c.2.2.1.length:=by omega
      rw [(h.wp.st t htl).1] at hc
      have:=sumC_gt (pagesOf c.2.1) t (by omega) _ htl hone
      omega
theorem room_run (n : Nat) (h1 : 1≤n) (h4 : n≤4) (l1 : List S40) : ∃ c,RoomRun n l1 c:=by
  obtain ⟨e,w⟩:=new_step (n * 8) n (by omega) (by omega) 0
  have hcast : ((n * 8 : Nat) : Int) = (n : Int) * 8:=by omega
  rw [hcast] at e
  obtain ⟨c,ec,rc,ic⟩:=seq_exists (fun _ (c : Mc) => wfm c∧(c.2.2.1.length : Int) = 8 * c.1) (fun j (c d : Mc) => ∃ (d' : Mc) (x e : Int),nPlay c (rd_T40 l1 (j : Int)) d' x e∧e≠16∧((e = 0∧0≤(rd_T40 l1 (j : Int)).f0∧(rd_T40 l1 (j : Int)).f0≤3∧d = d')∨(¬ (e = 0∧0≤(rd_T40 l1 (j : Int)).f0∧(rd_T40 l1 (j : Int)).f0≤3)∧d = c))) l1.length
    ((n : Int),[⟨true,List.replicate n ⟨-1,false⟩⟩],List.replicate (n * 8) ⟨0,0⟩,0) ⟨w,by simp;omega⟩ (fun j c hj hinv => by
      obtain ⟨hw,hf⟩:=hinv
      obtain ⟨d,x,e,st⟩:=play_step c hw (rd_T40 l1 (j : Int))
      have h16 : e≠16:=by
        intro he
        obtain ⟨hall,s,p,hs,hp,hc⟩:=st.full he
        exact room_ok c hw hf hall s p hs hp hc
      by_cases ok : e = 0∧0≤(rd_T40 l1 (j : Int)).f0∧(rd_T40 l1 (j : Int)).f0≤3
      · obtain ⟨a,b,l⟩:=st.ok ok.1 ok.2.1 ok.2.2
        exact ⟨d,⟨d,x,e,st.ev,h16,Or.inl ⟨ok.1,ok.2.1,ok.2.2,rfl⟩⟩,a,by rw [l,b];exact hf⟩
      · exact ⟨c,⟨d,x,e,st.ev,h16,Or.inr ⟨ok,rfl⟩⟩,hw,hf⟩)
  refine ⟨c,⟨by rw [ec];exact ⟨0,e⟩,rc,?_⟩⟩
  have hw:=(ic l1.length (Nat.le_refl _)).1
  have hC:=check_ev (c l1.length).1 (c l1.length).2.1 (c l1.length).2.2.1 (c l1.length).2.2.2 hw.small.1 hw.small.2
  rw [hw.chk] at hC
  exact hC.rounds
end Go.Proofs.Yteldbkdfphiogaa.Pr
