/- Which page Next chooses, and when reasons hold. -/
import Derived.Test.YtnmenfkmndnoaaaKds
set_option linter.unusedVariables false
set_option linter.unusedSimpArgs false
namespace Go.Proofs.Ytnmenfkmndnoaaa.Pr
open Go.RowKit Go.Proofs.YtnmenfkmndnoaaaW.PrintWords Go.Proofs.YtnmenfkmndnoaaaW.PrintLast Go.Proofs.YtnmenfkmndnoaaaW.PrintMore
section
variable (l0 : List S34) (s : Int) (kn : Bool) (a b c : List Bool)
def NInv (i : Int) (st : Int × Bool) : Prop :=
  (st = (-1,false)∧∀ j,0≤j→j < i→qReason s kn a b (rd_T34 l0 j)≠0) ∨
  (0≤st.1∧st.1 < i∧qReason s kn a b (rd_T34 l0 st.1) = 0∧st.2 = nOpen c (rd_T34 l0 st.1)∧∀ j,0≤j→j < i→qReason s kn a b (rd_T34 l0 j) = 0→(nOpen c (rd_T34 l0 j) = true→st.2 = true∧(rd_T34 l0 st.1).f2≤(rd_T34 l0 j).f2)∧(st.2 = false→(rd_T34 l0 st.1).f2≤(rd_T34 l0 j).f2))
theorem nStep_inv (i : Int) (h0 : 0≤i) (st : Int × Bool) (h : NInv l0 s kn a b c i st) : NInv l0 s kn a b c (i + 1) (nStep l0 s kn a b c i st):=by
  have ext : ∀ P : Int→Prop,(∀ j,0≤j→j < i→P j)→P i→∀ j,0≤j→j < i + 1→P j:=fun P h1 h2 j h3 h4 => by
    by_cases e : j = i
    · rw [e];exact h2
    · exact h1 j h3 (by omega)
  unfold nStep
  by_cases c0 : qReason s kn a b (rd_T34 l0 i) = 0
  · rw [if_neg (not_not_intro c0)]
    generalize ho : nOpen c (rd_T34 l0 i) = o
    rcases h with ⟨rfl,h1⟩ | ⟨h1,h2,h3,h4,h5⟩
    · rw [if_pos (Or.inl (by dsimp only;omega))]
      refine Or.inr ⟨h0,by dsimp only;omega,c0,ho.symm,?_⟩
      refine ext (fun j => qReason s kn a b (rd_T34 l0 j) = 0→_) (fun j h2 h3 h4 => absurd h4 (h1 j h2 h3)) (fun _ => ?_)
      exact ⟨fun h => ⟨ho.symm.trans h,Int.le_refl _⟩,fun _ => Int.le_refl _⟩
    · by_cases q : st.1 < 0∨(o = true∧st.2 = false)∨(o = st.2∧(rd_T34 l0 i).f2 < (rd_T34 l0 st.1).f2)
      · rw [if_pos q]
        refine Or.inr ⟨h0,by dsimp only;omega,c0,ho.symm,?_⟩
        dsimp only
        refine ext (fun j => qReason s kn a b (rd_T34 l0 j) = 0→_) (fun j h6 h7 h8 => ?_) (fun _ => ⟨fun h => ⟨ho.symm.trans h,Int.le_refl _⟩,fun _ => Int.le_refl _⟩)
        have h9:=h5 j h6 h7 h8
        rcases q with q | ⟨q1,q2⟩ | ⟨q1,q2⟩
        · omega
        · refine ⟨fun hj => ?_,fun h => by rw [q1] at h;cases h⟩
          have:=(h9.1 hj).1
          rw [q2] at this;cases this
        · refine ⟨fun hj => ?_,fun h => ?_⟩
          · have:=h9.1 hj
            exact ⟨q1.trans this.1,by omega⟩
          · have:=h9.2 (q1.symm.trans h)
            omega
      · rw [if_neg q]
        refine Or.inr ⟨h1,by omega,h3,h4,?_⟩
        refine ext (fun j => qReason s kn a b (rd_T34 l0 j) = 0→_) h5 (fun _ => ?_)
        rw [ho]
        refine ⟨fun hj => ?_,fun hs => ?_⟩
        · subst hj
          cases hs : st.2 with
          | false => exact absurd (Or.inr (Or.inl ⟨rfl,hs⟩)) q
          | true => exact ⟨rfl,Int.not_lt.1 fun hl => q (Or.inr (Or.inr ⟨hs.symm,hl⟩))⟩
        · cases o with
          | true => exact absurd (Or.inr (Or.inl ⟨rfl,hs⟩)) q
          | false => exact Int.not_lt.1 fun hl => q (Or.inr (Or.inr ⟨hs.symm,hl⟩))
  · rw [if_pos c0]
    rcases h with ⟨h1,h2⟩ | ⟨h1,h2,h3,h4,h5⟩
    · exact Or.inl ⟨h1,ext _ h2 c0⟩
    · exact Or.inr ⟨h1,by omega,h3,h4,ext (fun j => qReason s kn a b (rd_T34 l0 j) = 0→_) h5 (fun h => absurd h c0)⟩
theorem nRun_inv : ∀ (n : Nat) (i : Int) (st : Int × Bool),0≤i→NInv l0 s kn a b c i st→NInv l0 s kn a b c (i + n) (nRun l0 s kn a b c n i st)
  | 0,i,st,_,h => by simpa [nRun] using h
  | n + 1,i,st,h0,h => by
    have:=nRun_inv n (i + 1) _ (by omega) (nStep_inv l0 s kn a b c i h0 st h)
    rw [nRun,show i + ((n + 1 : Nat) : Int) = i + 1 + n by omega]
    exact this
theorem nRun_spec : NInv l0 s kn a b c (l0.length : Int) (nRun l0 s kn a b c l0.length 0 (-1,false)):=by
  have:=nRun_inv l0 s kn a b c l0.length 0 (-1,false) (by omega) (Or.inl ⟨rfl,fun j h1 h2 => by omega⟩)
  simpa using this
theorem next_neg : (nRun l0 s kn a b c l0.length 0 (-1,false)).1 < 0→(nRun l0 s kn a b c l0.length 0 (-1,false)).1 = -1∧∀ p ∈ l0,qReason s kn a b p≠0:=by
  intro h
  rcases nRun_spec l0 s kn a b c with ⟨h1,h2⟩ | ⟨h1,_⟩
  · refine ⟨by rw [h1],fun p hp => ?_⟩
    obtain ⟨j,h3,h4,rfl⟩:=mem_rd34 hp
    exact h2 j h3 h4
  · omega
theorem next_pos : 0≤(nRun l0 s kn a b c l0.length 0 (-1,false)).1→∃ p ∈ l0,qReason s kn a b p = 0:=by
  intro h
  rcases nRun_spec l0 s kn a b c with ⟨h1,h2⟩ | ⟨h1,h2,h3,_⟩
  · rw [h1] at h;exact absurd h (by decide)
  · exact ⟨_,rd34_mem l0 _ h1 h2,h3⟩
theorem vHold_iff (w : List S34) : ∀ (d : Nat) (i : Int),vHoldB l0 w s kn a b d i = true↔∀ j,i≤j→j < i + d→qHolds s kn a b (rd_T34 l0 j) (rd_T34 w j).f3 = true
  | 0,i => ⟨fun _ j h1 h2 => by omega,fun _ => rfl⟩
  | d + 1,i => by
    rw [vHoldB,Bool.and_eq_true,vHold_iff w d (i + 1)]
    constructor
    · rintro ⟨h1,h2⟩ j h3 h4
      by_cases e : j = i
      · rw [e];exact h1
      · exact h2 j (by omega) (by omega)
    · intro h
      exact ⟨h i (by omega) (by omega),fun j h1 h2 => h j (by omega) (by omega)⟩
theorem vSame_iff (w : List S34) : ∀ (d : Nat) (i : Int),vSameB l0 w d i = true↔∀ j,i≤j→j < i + d→vDiff (rd_T34 w j) (rd_T34 l0 j) = false
  | 0,i => ⟨fun _ j h1 h2 => by omega,fun _ => rfl⟩
  | d + 1,i => by
    rw [vSameB,Bool.and_eq_true,vSame_iff w d (i + 1),Bool.not_eq_true']
    constructor
    · rintro ⟨h1,h2⟩ j h3 h4
      by_cases e : j = i
      · rw [e];exact h1
      · exact h2 j (by omega) (by omega)
    · intro h
      exact ⟨h i (by omega) (by omega),fun j h1 h2 => h j (by omega) (by omega)⟩
end
theorem holds_reason {n s r : Int} {kn : Bool} {a b : List Bool} {p : S34} (hp : PgOk n p) (h : qHolds s kn a b p r = true) : qReason s kn a b p≠0∧qReason s kn a b p≠8:=by
  obtain ⟨_,_,_,_,h3,h4,_,_,_⟩:=hp
  unfold qHolds at h
  unfold qReason
  by_cases ho : qOut s a p = true
  · rw [if_pos ho];omega
  · rw [if_neg ho]
    by_cases hz : (kn && !p.f5) = true
    · rw [if_pos hz];omega
    · rw [if_neg hz]
      by_cases c1 : r = 13
      · rw [if_pos c1] at h;exact absurd h ho
      · rw [if_neg c1] at h
        by_cases c2 : r = 12
        · rw [if_pos c2] at h;exact absurd h hz
        · rw [if_neg c2] at h
          by_cases c3 : r = 11
          · rw [if_pos c3,Bool.and_eq_true,Bool.not_eq_true'] at h
            rw [h.1,if_neg Bool.false_ne_true,h.2,if_pos rfl]
            split <;> omega
          · rw [if_neg c3] at h
            by_cases c4 : r = 0∨r = 8
            · rw [if_pos c4] at h;cases h
            · rw [if_neg c4,Bool.and_eq_true,Bool.not_eq_true',beq_iff_eq] at h
              rw [h.1,if_neg Bool.false_ne_true,if_pos (by omega)]
              omega
theorem holds_self {n s : Int} {kn : Bool} {a b : List Bool} {p : S34} (hp : PgOk n p) (h0 : qReason s kn a b p≠0) (h8 : qReason s kn a b p≠8) : qHolds s kn a b p (qReason s kn a b p) = true:=by
  obtain ⟨_,_,_,_,h3,h4,_,_,_⟩:=hp
  generalize hr : qReason s kn a b p = r at h0 h8
  unfold qReason at hr
  unfold qHolds
  by_cases ho : qOut s a p = true
  · rw [if_pos ho] at hr;rw [if_pos hr.symm];exact ho
  · rw [if_neg ho] at hr
    by_cases hz : (kn && !p.f5) = true
    · rw [if_pos hz] at hr;rw [if_neg (by omega),if_pos hr.symm];exact hz
    · rw [if_neg hz] at hr
      by_cases h6 : p.f6 = true
      · rw [if_pos h6] at hr;omega
      · rw [if_neg h6] at hr
        rw [Bool.not_eq_true] at h6
        by_cases c3 : ¬ p.f3 = 0∧¬ p.f3 = 8
        · rw [if_pos c3] at hr
          rw [if_neg (by omega),if_neg (by omega),if_neg (by omega),if_neg (by omega),h6,hr]
          simp
        · rw [if_neg c3] at hr
          by_cases hg : qGua b p = true
          · rw [if_pos hg] at hr
            rw [if_neg (by omega),if_neg (by omega),if_pos hr.symm,h6,hg]
            rfl
          · rw [if_neg hg] at hr
            omega
end Go.Proofs.Ytnmenfkmndnoaaa.Pr
