/- Check of pages: the same error in the program and in the reference. -/
import Derived.Test.YtnmenfkmndnoaaaQc
import Derived.Test.YtnmenfkmndnoaaaM1
set_option linter.unusedVariables false
set_option linter.unusedSimpArgs false
namespace Go.Proofs.Ytnmenfkmndnoaaa.Pr
open Go.RowKit Go.Proofs.YtnmenfkmndnoaaaW.PrintWords Go.Proofs.YtnmenfkmndnoaaaW.PrintLast Go.Proofs.YtnmenfkmndnoaaaW.PrintMore
def pgBad (p : S34) : Prop:=p.f3 < 0∨10 < p.f3∨p.f2 < -1∨p.f4 < -1
def pgForm (p : S34) : Prop:=p.f3 = 0∧p.f6 = false∧p.f2 = -1
def pgRange (n : Int) (p : S34) : Prop:=p.f0 < 0∨256≤p.f0∨p.f1 < -1∨n≤p.f1
instance (p : S34) : Decidable (pgBad p):=by unfold pgBad;infer_instance
instance (p : S34) : Decidable (pgForm p):=by unfold pgForm;infer_instance
instance (n : Int) (p : S34) : Decidable (pgRange n p):=by unfold pgRange;infer_instance
def pgE (n last : Int) (p : S34) (r : Int) : Int:=if pgRange n p then 2 else if p.f0≤last then 10 else if pgBad p then 1 else if pgForm p then 3 else r
def lastAt (l0 : List S34) (i : Int) : Int:=if 0 < i then (rd_T34 l0 (i - 1)).f0 else -1
def pgOf (n : Int) (l0 : List S34) : Nat→Int→Int
  | 0,_ => 0
  | d + 1,i => pgE n (lastAt l0 i) (rd_T34 l0 i) (pgOf n l0 d (i + 1))
theorem lastAt_next (l0 : List S34) (i : Int) (h : 0≤i) : lastAt l0 (i + 1) = (rd_T34 l0 i).f0:=by
  unfold lastAt
  rw [if_pos (by omega),show i + 1 - 1 = i by omega]
theorem pchk_l0 (l1 : List S30) (l0 : List S34) (hn : l0.length < 1000000) : ∀ (d : Nat) (i : Int),0≤i→i + d = (l0.length : Int)→Ev (fun k => reclaimplan_Check.l0 k l1 (lastAt l0 i) l0 (l0.length : Int) i) (pgOf (l1.length : Int) l0 d i):=by
  intro d
  induction d with
  | zero => intro i h0 hi;exact ev1 0 (fun k _ => by simp only [reclaimplan_Check.l0];rw [if_neg (by omega)];rfl)
  | succ d ih =>
    intro i h0 hi
    have hlt : i < (l0.length : Int):=by omega
    obtain ⟨K,hK⟩:=ih (i + 1) (by omega) (by omega)
    rw [lastAt_next l0 i h0] at hK
    simp only [pgOf]
    generalize pgOf (l1.length : Int) l0 d (i + 1) = r at hK ⊢
    generalize hp : rd_T34 l0 i = p at hK
    have j3 : ∀ b k,K + 1≤k→reclaimplan_Check.j3 k l1 l0 (l0.length : Int) i b p.f0 p.f1 p.f2 p.f3 p.f4 p.f5 p.f6 = some (if b = true then 3 else r):=by
      intro b k hk
      obtain ⟨m,rfl⟩ : ∃ m,k = m + 1:=⟨k - 1,by omega⟩
      simp only [reclaimplan_Check.j3]
      cases b with
      | true => rfl
      | false => rw [if_neg Bool.false_ne_true,if_neg Bool.false_ne_true,wr64 (by omega) (by omega)];exact hK m (by omega)
    have j2 : ∀ b k,K + 2≤k→reclaimplan_Check.j2 k l1 l0 (l0.length : Int) i b p.f0 p.f1 p.f2 p.f3 p.f4 p.f5 p.f6 = some (if b = true then 1 else if pgForm p then 3 else r):=by
      intro b k hk
      obtain ⟨m,rfl⟩ : ∃ m,k = m + 1:=⟨k - 1,by omega⟩
      simp only [reclaimplan_Check.j2]
      rw [j3 _ m (by omega),j3 _ m (by omega)]
      cases b <;> by_cases c1 : p.f3 = 0 <;> cases h6 : p.f6 <;> by_cases c2 : p.f2 = -1 <;> simp [pgForm,c1,h6,c2]
    have j1 : ∀ b k,K + 3≤k→reclaimplan_Check.j1 k l1 (lastAt l0 i) l0 (l0.length : Int) i b p.f0 p.f1 p.f2 p.f3 p.f4 p.f5 p.f6 = some (if b = true then 2 else if p.f0≤lastAt l0 i then 10 else if pgBad p then 1 else if pgForm p then 3 else r):=by
      intro b k hk
      obtain ⟨m,rfl⟩ : ∃ m,k = m + 1:=⟨k - 1,by omega⟩
      simp only [reclaimplan_Check.j1]
      rw [j2 _ m (by omega),j2 _ m (by omega)]
      cases b with
      | true => rfl
      | false =>
        rw [if_neg Bool.false_ne_true,if_neg Bool.false_ne_true]
        by_cases c1 : p.f0≤lastAt l0 i
        · rw [if_pos c1,if_pos c1]
        · rw [if_neg c1,if_neg c1]
          by_cases c2 : p.f3 < 0
          · rw [if_pos c2,if_pos rfl,if_pos (show pgBad p from Or.inl c2)]
          · rw [if_neg c2]
            by_cases c3 : p.f3 > 10
            · rw [if_pos c3,if_pos rfl,if_pos (show pgBad p from Or.inr (Or.inl c3))]
            · rw [if_neg c3]
              by_cases c4 : p.f2 < -1
              · rw [if_pos c4,if_pos rfl,if_pos (show pgBad p from Or.inr (Or.inr (Or.inl c4)))]
              · rw [if_neg c4]
                by_cases c5 : p.f4 < -1
                · rw [if_pos (decide_eq_true c5),if_pos (show pgBad p from Or.inr (Or.inr (Or.inr c5)))]
                · rw [if_neg (by simpa using c5),if_neg (show ¬ pgBad p by unfold pgBad;omega)]
    refine ev1 (K + 4) (fun k hk => ?_)
    simp only [reclaimplan_Check.l0]
    rw [hp,j1 _ k (by omega),j1 _ k (by omega),if_pos hlt,if_pos h0,if_pos hlt]
    unfold pgE
    by_cases c1 : p.f0 < 0
    · rw [if_pos c1,if_pos rfl,if_pos (show pgRange _ p from Or.inl c1)]
    · rw [if_neg c1]
      by_cases c2 : p.f0≥256
      · rw [if_pos c2,if_pos rfl,if_pos (show pgRange _ p from Or.inr (Or.inl c2))]
      · rw [if_neg c2]
        by_cases c3 : p.f1 < -1
        · rw [if_pos c3,if_pos rfl,if_pos (show pgRange _ p from Or.inr (Or.inr (Or.inl c3)))]
        · rw [if_neg c3]
          by_cases c4 : p.f1≥(l1.length : Int)
          · rw [if_pos (decide_eq_true c4),if_pos (show pgRange _ p from Or.inr (Or.inr (Or.inr c4)))]
          · rw [if_neg (by simpa using c4),if_neg (show ¬ pgRange _ p by unfold pgRange;omega)]
noncomputable def pchk (l0 : List S34) (l1 : List S30) : Int:=if chk l1 = 0 then pgOf (l1.length : Int) l0 l0.length 0 else chk l1
theorem pchk_ev (l0 : List S34) (l1 : List S30) (hn : l0.length < 1000000) : Ev (fun k => reclaimplan_Check.f k l0 l1) (pchk l0 l1):=by
  obtain ⟨K,hK⟩:=check_ev l1
  obtain ⟨K2,hK2⟩:=pchk_l0 l1 l0 hn l0.length 0 (by omega) (by omega)
  refine ev0 (K + K2) (fun k hk => ?_)
  unfold reclaimplan_Check.f pchk
  dsimp only at hK
  rw [hK k (by omega)]
  simp only [Option.bind_some]
  by_cases c : chk l1 = 0
  · rw [if_pos c,if_pos c];exact hK2 k (by omega)
  · rw [if_neg c,if_neg c]
def PgOk (n : Int) (p : S34) : Prop:=0≤p.f0∧p.f0 < 256∧-1≤p.f1∧p.f1 < n∧0≤p.f3∧p.f3≤10∧-1≤p.f2∧-1≤p.f4∧¬ pgForm p
theorem pgE_zero {n last r : Int} {p : S34} : pgE n last p r = 0↔PgOk n p∧last < p.f0∧r = 0:=by
  unfold pgE PgOk
  by_cases c1 : pgRange n p
  · rw [if_pos c1];unfold pgRange at c1;constructor <;> intro h <;> omega
  · rw [if_neg c1];unfold pgRange at c1
    by_cases c2 : p.f0≤last
    · rw [if_pos c2];constructor <;> intro h <;> omega
    · rw [if_neg c2]
      by_cases c3 : pgBad p
      · rw [if_pos c3];unfold pgBad at c3;constructor <;> intro h <;> omega
      · rw [if_neg c3];unfold pgBad at c3
        by_cases c4 : pgForm p
        · rw [if_pos c4];exact ⟨fun h => by omega,fun h => absurd c4 h.1.2.2.2.2.2.2.2.2⟩
        · rw [if_neg c4];exact ⟨fun h => ⟨⟨by omega,by omega,by omega,by omega,by omega,by omega,by omega,by omega,c4⟩,by omega,h⟩,fun h => h.2.2⟩
theorem pgOf_zero {n : Int} {l0 : List S34} : ∀ (d : Nat) (i : Int),pgOf n l0 d i = 0↔∀ j : Int,i≤j→j < i + d→PgOk n (rd_T34 l0 j)∧lastAt l0 j < (rd_T34 l0 j).f0
  | 0,i => ⟨fun _ j h1 h2 => by omega,fun _ => rfl⟩
  | d + 1,i => by
    rw [pgOf,pgE_zero,pgOf_zero d (i + 1)]
    constructor
    · rintro ⟨h1,h2,h3⟩ j h4 h5
      by_cases e : j = i
      · rw [e];exact ⟨h1,h2⟩
      · exact h3 j (by omega) (by omega)
    · intro h
      exact ⟨(h i (by omega) (by omega)).1,(h i (by omega) (by omega)).2,fun j h1 h2 => h j (by omega) (by omega)⟩
theorem pchk_zero (l0 : List S34) (l1 : List S30) : pchk l0 l1 = 0↔Valid l1∧∀ j : Int,0≤j→j < (l0.length : Int)→PgOk (l1.length : Int) (rd_T34 l0 j)∧lastAt l0 j < (rd_T34 l0 j).f0:=by
  unfold pchk
  by_cases c : chk l1 = 0
  · rw [if_pos c,pgOf_zero]
    exact ⟨fun h => ⟨(chk_zero l1).1 c,fun j h1 h2 => h j h1 (by omega)⟩,fun h j h1 h2 => h.2 j h1 (by omega)⟩
  · rw [if_neg c]
    exact ⟨fun h => absurd h c,fun h => absurd ((chk_zero l1).2 h.1) c⟩
def ScOk (n s : Int) : Prop:=-1≤s∧s < n
end Go.Proofs.Ytnmenfkmndnoaaa.Pr
