/- Machines that are well-formed, and that each step of the program leaves them so. -/
import Derived.Test.YteldbkdfphiogaaCb
import Derived.Test.YteldbkdfphiogaaFcowown
set_option linter.unusedVariables false
set_option linter.unusedSimpArgs false
namespace Go.Proofs.Yteldbkdfphiogaa.Pr
open Go.RowKit Go.Proofs.YteldbkdfphiogaaW.PrintWords Go.Proofs.YteldbkdfphiogaaW.PrintLast Go.Proofs.YteldbkdfphiogaaW.PrintMore
structure WP (ps : List S64) (fs : List S57) : Prop where
  pg : ∀ p ∈ ps,-1≤p.f0∧p.f0 < (fs.length : Int)∧(p.f0 = -1→p.f1 = false)
  st : ∀ i : Nat,i < fs.length→(rd_T57 fs (i : Int)).f0 = cntN ps i∧(cntN ps i = 0→(rd_T57 fs (i : Int)).f1 = 0)
  ac : ∀ i : Nat,i < fs.length→wrtN ps i = true→cntN ps i = 1
structure WF (sz : Int) (ss : List S62) (fs : List S57) (cp : Int) : Prop where
  rg : rangeOk sz ss fs cp
  ln : ∀ s ∈ ss,lenOk sz s = true
  wp : WP (pagesOf ss) fs
theorem mem_pagesOf {ss : List S62} {s : S62} {p : S64} (hs : s ∈ ss) (hp : p ∈ s.f1) : p ∈ pagesOf ss:=List.mem_flatMap.2 ⟨s,hs,hp⟩
theorem WF.chk {sz : Int} {ss : List S62} {fs : List S57} {cp : Int} (h : WF sz ss fs cp) : chk sz ss fs cp = 0:=by
  have hf : formB sz fs.length ss = true:=by
    refine List.all_eq_true.2 (fun s hs => ?_)
    unfold spaceOk
    rw [h.ln s hs,Bool.true_and]
    refine List.all_eq_true.2 (fun p hp => ?_)
    obtain ⟨a,b,c⟩:=h.wp.pg p (mem_pagesOf hs hp)
    unfold pageOk
    by_cases e : p.f0 = -1
    · simp [a,b,e,c e];omega
    · simp [a,b,e]
  have hs : (List.range fs.length).all (stateOk (pagesOf ss) fs) = true:=by
    refine List.all_eq_true.2 (fun i hi => ?_)
    obtain ⟨a,b⟩:=h.wp.st i (List.mem_range.1 hi)
    unfold stateOk
    by_cases e : cntN (pagesOf ss) i = 0
    · simp [a,e,b e]
    · simp [a,e]
  have ha : (List.range fs.length).all (accOk (pagesOf ss)) = true:=by
    refine List.all_eq_true.2 (fun i hi => ?_)
    have a:=h.wp.ac i (List.mem_range.1 hi)
    unfold accOk
    cases hw : wrtN (pagesOf ss) i
    · rfl
    · simp [a hw]
  unfold Pr.chk
  rw [if_neg (fun hn => hn h.rg),if_neg (by rw [hf];simp),if_neg (by rw [hs];simp),if_neg (by rw [ha];simp)]
theorem rd57s (fs : List S57) (a i : Nat) (v : S57) (ha : a < fs.length) : rd_T57 (fs.set a v) (i : Int) = if i = a then v else rd_T57 fs (i : Int):=by
  unfold rd_T57
  rw [List.getD_eq_getElem?_getD,List.getElem?_set,Int.toNat_natCast]
  by_cases h : i = a
  · subst h;simp [ha]
  · rw [if_neg (fun e => h e.symm),if_neg h,← List.getD_eq_getElem?_getD]
theorem rd62s (ss : List S62) (a i : Nat) (v : S62) (ha : a < ss.length) : rd_T62 (ss.set a v) (i : Int) = if i = a then v else rd_T62 ss (i : Int):=by
  unfold rd_T62
  rw [List.getD_eq_getElem?_getD,List.getElem?_set,Int.toNat_natCast]
  by_cases h : i = a
  · subst h;simp [ha]
  · rw [if_neg (fun e => h e.symm),if_neg h,← List.getD_eq_getElem?_getD]
theorem rd64s (ps : List S64) (a i : Nat) (v : S64) (ha : a < ps.length) : rd_T64 (ps.set a v) (i : Int) = if i = a then v else rd_T64 ps (i : Int):=by
  unfold rd_T64
  rw [List.getD_eq_getElem?_getD,List.getElem?_set,Int.toNat_natCast]
  by_cases h : i = a
  · subst h;simp [ha]
  · rw [if_neg (fun e => h e.symm),if_neg h,← List.getD_eq_getElem?_getD]
theorem set_split {α : Type} (xs : List α) (j : Nat) (h : j < xs.length) : ∀ v,xs.set j v = xs.take j ++ v :: xs.drop (j + 1):=fun v => List.set_eq_take_append_cons_drop.trans (by rw [if_pos h])
theorem self_split62 (ss : List S62) (j : Nat) (h : j < ss.length) : ss = ss.take j ++ rd_T62 ss (j : Int) :: ss.drop (j + 1):=by
  rw [← drop62 ss j h,List.take_append_drop]
theorem self_split64 (ss : List S64) (j : Nat) (h : j < ss.length) : ss = ss.take j ++ rd_T64 ss (j : Int) :: ss.drop (j + 1):=by
  rw [← drop64 ss j h,List.take_append_drop]
theorem row_split (ss : List S62) (j : Nat) (h : j < ss.length) : ∃ X Y,pagesOf ss = X ++ ((rd_T62 ss (j : Int)).f1 ++ Y)∧∀ v : S62,pagesOf (ss.set j v) = X ++ (v.f1 ++ Y):=by
  refine ⟨pagesOf (ss.take j),pagesOf (ss.drop (j + 1)),?_,fun v => ?_⟩
  · conv => lhs;rw [self_split62 ss j h]
    rw [pagesOf_append,pagesOf_cons]
  · rw [set_split ss j h,pagesOf_append,pagesOf_cons]
theorem page_split (ss : List S62) (j k : Nat) (h : j < ss.length) (hk : k < (rd_T62 ss (j : Int)).f1.length) : ∃ X Y,pagesOf ss = X ++ rd_T64 (rd_T62 ss (j : Int)).f1 (k : Int) :: Y∧∀ q : S64,pagesOf (setPage ss (j : Int) (k : Int) q) = X ++ q :: Y:=by
  obtain ⟨X,Y,e1,e2⟩:=row_split ss j h
  refine ⟨X ++ (rd_T62 ss (j : Int)).f1.take k,(rd_T62 ss (j : Int)).f1.drop (k + 1) ++ Y,?_,fun q => ?_⟩
  · rw [e1]
    conv => lhs;rw [self_split64 _ k hk]
    simp
  · unfold setPage
    rw [Int.toNat_natCast,e2,Int.toNat_natCast,set_split _ k hk]
    simp
theorem cntN_mid (X Y : List S64) (q : S64) (i : Nat) : cntN (X ++ q :: Y) i = cntN X i + cntN Y i + (if q.f0 = (i : Int) then 1 else 0):=by
  rw [cntN_append,cntN_cons];omega
theorem wrtN_mid (X Y : List S64) (q : S64) (i : Nat) : wrtN (X ++ q :: Y) i = (wrtN X i || wrtN Y i || (decide (q.f0 = (i : Int)) && q.f1)):=by
  rw [wrtN_append];unfold wrtN;rw [List.any_cons]
  cases List.any X _ <;> cases List.any Y _ <;> simp
theorem wrtN_zero (X : List S64) (i : Nat) (h : cntN X i = 0) : wrtN X i = false:=by
  unfold wrtN
  rw [List.any_eq_false]
  intro p hp hw
  simp only [Bool.and_eq_true,decide_eq_true_eq] at hw
  have : 0 < X.countP (fun p => decide (p.f0 = (i : Int))):=List.countP_pos_iff.2 ⟨p,hp,by simpa using hw.1⟩
  unfold cntN at h
  omega
theorem cntN_pos (X : List S64) (p : S64) (hp : p ∈ X) (i : Nat) (h : p.f0 = (i : Int)) : 1≤cntN X i:=by
  have : 0 < X.countP (fun p => decide (p.f0 = (i : Int))):=List.countP_pos_iff.2 ⟨p,hp,by simpa using h⟩
  unfold cntN
  omega
theorem pg_mid {X Y : List S64} {q q' : S64} {n n' : Nat} (hn : n' = n) (h : ∀ p ∈ X ++ q :: Y,-1≤p.f0∧p.f0 < (n : Int)∧(p.f0 = -1→p.f1 = false)) (hq : -1≤q'.f0∧q'.f0 < (n : Int)∧(q'.f0 = -1→q'.f1 = false)) : ∀ p ∈ X ++ q' :: Y,-1≤p.f0∧p.f0 < (n' : Int)∧(p.f0 = -1→p.f1 = false):=by
  subst hn
  intro p hp
  rcases List.mem_append.1 hp with h1 | h1
  · exact h p (List.mem_append_left _ h1)
  · rcases List.mem_cons.1 h1 with rfl | h2
    · exact hq
    · exact h p (List.mem_append_right _ (List.mem_cons_of_mem _ h2))
theorem WP.unmap {X Y : List S64} {q : S64} {fs : List S57} (h : WP (X ++ q :: Y) fs) (hb : (X ++ q :: Y).length < 4611686018427387904) : WP (X ++ ⟨-1,false⟩ :: Y) (clearF fs q.f0):=by
  have hq:=h.pg q (by simp)
  have hm : (⟨-1,false⟩ : S64).f0 = -1:=rfl
  refine ⟨pg_mid (clearF_len _ _) h.pg ⟨by rw [hm];omega,by rw [hm];omega,fun _ => rfl⟩,fun i hi => ?_,fun i hi hw => ?_⟩
  · rw [clearF_len] at hi
    obtain ⟨s1,s2⟩:=h.st i hi
    have hle:=cntN_le (X ++ q :: Y) i
    rw [cntN_mid] at s1 s2 hle
    rw [cntN_mid,if_neg (by rw [hm];omega)]
    have hx:=(cntN_le X i).1
    have hy:=(cntN_le Y i).1
    unfold clearF
    by_cases c : 0≤q.f0
    · rw [if_pos c,rd57s _ _ _ _ (by omega)]
      by_cases e : i = q.f0.toNat
      · have e' : q.f0 = (i : Int):=by omega
        rw [if_pos e'] at s1 s2 hle
        rw [if_pos e,e',s1]
        have w : wrap64 (cntN X i + cntN Y i + 1 - 1) = cntN X i + cntN Y i:=by unfold wrap64;omega
        rw [w]
        refine ⟨by simp,fun h0 => ?_⟩
        have h0' : cntN X i + cntN Y i = 0:=by omega
        simp [h0']
      · rw [if_neg (by omega)] at s1 s2
        rw [if_neg e]
        exact ⟨by rw [s1],fun h0 => s2 (by omega)⟩
    · rw [if_neg c]
      rw [if_neg (by omega)] at s1 s2
      exact ⟨s1,s2⟩
  · rw [clearF_len] at hi
    have a:=h.ac i hi
    rw [wrtN_mid] at hw
    rw [wrtN_mid,cntN_mid] at a
    rw [cntN_mid,if_neg (by rw [hm];omega)]
    simp only [Bool.and_false,Bool.or_false] at hw
    have a1:=a (by rw [hw];rfl)
    by_cases e : q.f0 = (i : Int)
    · rw [if_pos e] at a1
      have hx:=(cntN_le X i).1
      have hy:=(cntN_le Y i).1
      rw [wrtN_zero X i (by omega),wrtN_zero Y i (by omega)] at hw
      cases hw
    · rw [if_neg e] at a1
      exact a1
theorem WP.inplace {X Y : List S64} {q : S64} {fs : List S57} (h : WP (X ++ q :: Y) fs) (h0 : 0≤q.f0) (h1 : (rd_T57 fs q.f0).f0≤1) (x : Int) : WP (X ++ ⟨q.f0,true⟩ :: Y) (fs.set q.f0.toNat ⟨(rd_T57 fs q.f0).f0,x⟩):=by
  have hq:=h.pg q (by simp)
  have hqi : ((q.f0.toNat : Nat) : Int) = q.f0:=by omega
  have hs:=h.st q.f0.toNat (by omega)
  rw [hqi,cntN_mid,if_pos hqi.symm] at hs
  have hx:=(cntN_le X q.f0.toNat).1
  have hy:=(cntN_le Y q.f0.toNat).1
  refine ⟨pg_mid List.length_set h.pg ⟨hq.1,hq.2.1,fun e => by simp only at e;omega⟩,fun i hi => ?_,fun i hi hw => ?_⟩
  · rw [List.length_set] at hi
    obtain ⟨s1,s2⟩:=h.st i hi
    rw [cntN_mid] at s1 s2
    rw [cntN_mid,rd57s _ _ _ _ (by omega)]
    by_cases e : i = q.f0.toNat
    · subst e
      rw [if_pos rfl,if_pos hqi.symm]
      exact ⟨hs.1,fun h => by omega⟩
    · rw [if_neg e]
      exact ⟨s1,s2⟩
  · rw [List.length_set] at hi
    have a:=h.ac i hi
    rw [wrtN_mid] at hw
    rw [wrtN_mid,cntN_mid] at a
    rw [cntN_mid]
    by_cases e : q.f0 = (i : Int)
    · have e2 : i = q.f0.toNat:=by omega
      subst e2
      simp only [if_pos e] at *
      omega
    · simp only [e,decide_false,Bool.false_and,Bool.or_false] at hw a ⊢
      exact a hw
theorem WP.fresh {X Y : List S64} {q : S64} {fs : List S57} (h : WP (X ++ q :: Y) fs) (hb : (X ++ q :: Y).length < 4611686018427387904) (h0 : q.f0 < 0∨1 < (rd_T57 fs q.f0).f0) (fr : Nat) (hfr : fr < fs.length) (hz : (rd_T57 fs (fr : Int)).f0 = 0) (x : Int) : WP (X ++ ⟨(fr : Int),true⟩ :: Y) (wFS fs q.f0 (fr : Int) x):=by
  have hq:=h.pg q (by simp)
  have hsf:=h.st fr hfr
  rw [hz,cntN_mid] at hsf
  have hxf:=(cntN_le X fr).1
  have hyf:=(cntN_le Y fr).1
  have hne : q.f0≠(fr : Int):=by
    intro e
    rw [if_pos e] at hsf
    omega
  rw [if_neg hne] at hsf
  have hl : (wFS fs q.f0 (fr : Int) x).length = fs.length:=by
    unfold wFS;rw [List.length_set];split
    · exact List.length_set
    · rfl
  refine ⟨pg_mid hl h.pg ⟨by simp only;omega,by simp only;omega,fun e => by simp only at e;omega⟩,fun i hi => ?_,fun i hi hw => ?_⟩
  · rw [hl] at hi
    obtain ⟨s1,s2⟩:=h.st i hi
    have hle:=cntN_le (X ++ q :: Y) i
    rw [cntN_mid] at s1 s2 hle
    rw [cntN_mid]
    have hx:=(cntN_le X i).1
    have hy:=(cntN_le Y i).1
    unfold wFS
    rw [Int.toNat_natCast,rd57s _ _ _ _ (by split <;> simp [hfr])]
    by_cases e : i = fr
    · subst e
      rw [if_pos rfl,if_pos rfl]
      exact ⟨by simp only;omega,fun h => by omega⟩
    · rw [if_neg e,if_neg (show ¬ ((fr : Int) = (i : Int)) by omega)]
      by_cases c : 0≤q.f0
      · rw [if_pos c,rd57s _ _ _ _ (by omega)]
        by_cases e2 : i = q.f0.toNat
        · have e' : q.f0 = (i : Int):=by omega
          rw [if_pos e'] at s1 s2 hle
          rw [if_pos e2]
          rw [e'] at h0 ⊢
          rw [s1] at h0 ⊢
          refine ⟨?_,fun h => by omega⟩
          simp only
          unfold wrap64
          omega
        · rw [if_neg (by omega)] at s1 s2
          rw [if_neg e2]
          exact ⟨s1,s2⟩
      · rw [if_neg (by omega)] at s1 s2
        rw [if_neg c]
        exact ⟨s1,s2⟩
  · rw [hl] at hi
    have a:=h.ac i hi
    have s1:=(h.st i hi).1
    rw [wrtN_mid] at hw
    rw [wrtN_mid,cntN_mid] at a
    rw [cntN_mid] at s1
    rw [cntN_mid]
    by_cases e : i = fr
    · subst e
      rw [if_pos rfl]
      omega
    · have e' : ¬ ((fr : Int) = (i : Int)):=by omega
      rw [if_neg e']
      simp only [e',decide_false,Bool.false_and,Bool.or_false] at hw
      have a1:=a (by rw [hw];rfl)
      by_cases e2 : q.f0 = (i : Int)
      · rw [if_pos e2] at a1 s1
        have hx:=(cntN_le X i).1
        have hy:=(cntN_le Y i).1
        rw [wrtN_zero X i (by omega),wrtN_zero Y i (by omega)] at hw
        cases hw
      · rw [if_neg e2] at a1
        exact a1
theorem WP.share {X Y E : List S64} {q : S64} {fs : List S57} (h : WP ((X ++ q :: Y) ++ E) fs) (hb : ((X ++ q :: Y) ++ E).length < 4611686018427387904) : WP ((X ++ ⟨q.f0,false⟩ :: Y) ++ (E ++ [⟨q.f0,false⟩])) (incF fs q.f0):=by
  have hq:=h.pg q (by simp)
  refine ⟨fun p hp => ?_,fun i hi => ?_,fun i hi hw => ?_⟩
  · rw [incF_len]
    have hq' : -1≤(⟨q.f0,false⟩ : S64).f0∧(⟨q.f0,false⟩ : S64).f0 < (fs.length : Int)∧((⟨q.f0,false⟩ : S64).f0 = -1→(⟨q.f0,false⟩ : S64).f1 = false):=⟨hq.1,hq.2.1,fun _ => rfl⟩
    simp only [List.mem_append,List.mem_cons,List.not_mem_nil,or_false] at hp
    rcases hp with (h1 | rfl | h1) | h1 | rfl
    · exact h.pg p (by simp [h1])
    · exact hq'
    · exact h.pg p (by simp [h1])
    · exact h.pg p (by simp [h1])
    · exact hq'
  · rw [incF_len] at hi
    obtain ⟨s1,s2⟩:=h.st i hi
    have hle:=cntN_le ((X ++ q :: Y) ++ E) i
    rw [cntN_append,cntN_mid] at s1 s2 hle
    rw [cntN_append,cntN_mid,cntN_snoc]
    have hx:=(cntN_le X i).1
    have hy:=(cntN_le Y i).1
    have he:=(cntN_le E i).1
    simp only
    unfold incF
    by_cases c : 0≤q.f0
    · rw [if_pos c,rd57s _ _ _ _ (by omega)]
      by_cases e : i = q.f0.toNat
      · have e' : q.f0 = (i : Int):=by omega
        rw [if_pos e'] at s1 s2 hle
        rw [if_pos e,if_pos e',e',s1]
        refine ⟨?_,fun h => by omega⟩
        simp only
        unfold wrap64
        omega
      · have e' : ¬ q.f0 = (i : Int):=by omega
        rw [if_neg e'] at s1 s2
        rw [if_neg e,if_neg e']
        exact ⟨by omega,fun h => s2 (by omega)⟩
    · have e' : ¬ q.f0 = (i : Int):=by omega
      rw [if_neg e'] at s1 s2
      rw [if_neg c,if_neg e']
      exact ⟨by omega,fun h => s2 (by omega)⟩
  · rw [incF_len] at hi
    have a:=h.ac i hi
    rw [wrtN_append,wrtN_mid,wrtN_snoc] at hw
    rw [wrtN_append,wrtN_mid,cntN_append,cntN_mid] at a
    rw [cntN_append,cntN_mid,cntN_snoc]
    simp only [Bool.and_false,Bool.or_false] at hw ⊢
    have hx:=(cntN_le X i).1
    have hy:=(cntN_le Y i).1
    have he:=(cntN_le E i).1
    have a1:=a (by
      rw [Bool.or_eq_true,Bool.or_eq_true] at hw ⊢
      rcases hw with h1 | h1
      · rcases h1 with h1 | h1 <;> simp [h1]
      · exact Or.inr h1)
    by_cases e : q.f0 = (i : Int)
    · rw [if_pos e] at a1
      rw [wrtN_zero X i (by omega),wrtN_zero Y i (by omega),wrtN_zero E i (by omega)] at hw
      cases hw
    · rw [if_neg e] at a1 ⊢
      omega
end Go.Proofs.Yteldbkdfphiogaa.Pr
