/- What Check answers, in the program and in the reference: the same error, and none exactly at valid lists. -/
import Derived.Test.YtnmenfkmndnoaaaQa
import Derived.Test.YtnmenfkmndnoaaaFestoversref19Check
import Derived.Test.YtnmenfkmndnoaaaM1
set_option linter.unusedVariables false
set_option linter.unusedSimpArgs false
namespace Go.Proofs.Ytnmenfkmndnoaaa.Pr
open Go.RowKit Go.Proofs.YtnmenfkmndnoaaaW.PrintWords Go.Proofs.YtnmenfkmndnoaaaW.PrintLast Go.Proofs.YtnmenfkmndnoaaaW.PrintMore
instance (n : Int) : Decidable (amt n):=by unfold amt;infer_instance
instance (l : List S30) (j : Int) : Decidable (amtAt l j):=by unfold amtAt;infer_instance
theorem in_iff (n : Int) : accounts_in.f n = some (decide (amt n)):=by
  unfold accounts_in.f amt
  by_cases h : n≥0
  · rw [if_pos h];simp [show 0≤n from h]
  · rw [if_neg h];simp [show ¬ (0≤n) from h]
theorem in_iff19 (n : Int) : estoversref19_in.f n = some (decide (amt n)):=by
  unfold estoversref19_in.f amt
  by_cases h : n≥0
  · rw [if_pos h];simp [show 0≤n from h]
  · rw [if_neg h];simp [show ¬ (0≤n) from h]
theorem amounts_ev (l : List S30) (h1 : 1≤l.length) (h8 : l.length≤8) : ∀ (d : Nat) (i : Int),0≤i→i + d = (l.length : Int)→∃ b,Ev (fun k => accounts_amounts.l0 k l l (l.length : Int) i) b∧(b = true↔AmtFrom l i∧RootOk l):=by
  intro d
  induction d with
  | zero =>
    intro i h0 hi
    have ha : AmtFrom l i:=fun j h2 h3 => by omega
    by_cases c : (rd_T30 l 0).f2 = 0
    · refine ⟨_,ev1 0 (fun k _ => by simp only [accounts_amounts.l0];rw [if_neg (by omega),if_pos (by omega),if_pos c]),?_⟩
      simp [RootOk,c,ha]
    · refine ⟨_,ev1 0 (fun k _ => by simp only [accounts_amounts.l0];rw [if_neg (by omega),if_pos (by omega),if_neg c]),?_⟩
      simp [RootOk,c]
  | succ d ih =>
    intro i h0 hi
    have hlt : i < (l.length : Int):=by omega
    obtain ⟨b,⟨K,hK⟩,hb⟩:=ih (i + 1) (by omega) (by omega)
    have step : ∀ c : Bool,∀ k,K + 1≤k→accounts_amounts.j1 k l l (l.length : Int) i c = some (if c = true then false else b):=by
      intro c k hk
      obtain ⟨m,rfl⟩ : ∃ m,k = m + 1:=⟨k - 1,by omega⟩
      simp only [accounts_amounts.j1]
      cases c with
      | true => rfl
      | false => rw [if_neg (by simp),if_neg (by simp),wr64 (by omega) (by omega)];exact hK m (by omega)
    have e : AmtFrom l i↔amtAt l i∧AmtFrom l (i + 1):=from_step hlt
    refine ⟨if amtAt l i then b else false,ev1 (K + 1) (fun k hk => ?_),?_⟩
    · simp only [accounts_amounts.l0]
      rw [if_pos hlt,if_pos h0,if_pos hlt,in_iff,in_iff,in_iff,in_iff]
      simp only [Option.bind_some,step _ k hk]
      unfold amtAt
      by_cases q1 : amt (rd_T30 l i).f1 <;> by_cases q2 : amt (rd_T30 l i).f2 <;> by_cases q3 : amt (rd_T30 l i).f3 <;> by_cases q4 : amt (rd_T30 l i).f4 <;> simp [q1,q2,q3,q4]
    · rw [e]
      by_cases q : amtAt l i
      · rw [if_pos q,hb]
        exact ⟨fun h => ⟨⟨q,h.1⟩,h.2⟩,fun h => ⟨h.1.2,h.2⟩⟩
      · rw [if_neg q]
        simp only [Bool.false_eq_true,false_iff]
        exact fun h => q h.1.1
theorem over_ev (l : List S30) (h8 : l.length≤8) : ∀ (d : Nat) (i : Int),0≤i→i + d = (l.length : Int)→∃ r,Ev (fun k => api_Account_92.l0 k l (l.length : Int) i) r∧(r < 0↔MaxFrom l i):=by
  intro d
  induction d with
  | zero =>
    intro i h0 hi
    refine ⟨-1,ev1 0 (fun k _ => by simp only [api_Account_92.l0];rw [if_neg (by omega)]),?_⟩
    exact ⟨fun _ j h2 h3 => by omega,fun _ => by omega⟩
  | succ d ih =>
    intro i h0 hi
    have hlt : i < (l.length : Int):=by omega
    obtain ⟨r,⟨K,hK⟩,hr⟩:=ih (i + 1) (by omega) (by omega)
    have e : MaxFrom l i↔(rd_T30 l i).f1≤(rd_T30 l i).f4∧MaxFrom l (i + 1):=from_step hlt
    by_cases c : (rd_T30 l i).f1 > (rd_T30 l i).f4
    · refine ⟨i,ev1 0 (fun k _ => ?_),?_⟩
      · simp only [api_Account_92.l0,accounts_Check_1.f]
        rw [if_pos hlt,if_pos h0,if_pos hlt]
        simp only [Option.bind_some]
        rw [if_pos (by simpa using c)]
      · rw [e]
        constructor <;> intro <;> omega
    · refine ⟨r,ev1 K (fun k hk => ?_),?_⟩
      · simp only [api_Account_92.l0,accounts_Check_1.f]
        rw [if_pos hlt,if_pos h0,if_pos hlt]
        simp only [Option.bind_some]
        rw [if_neg (by simpa using c),wr64 (by omega) (by omega)]
        exact hK k hk
      · rw [e,hr]
        exact ⟨fun h => ⟨by omega,h⟩,fun h => h.2⟩
def OwnAt (l : List S30) (a : List Int) (i : Nat) : Prop:=a.length = l.length∧∀ x : Int,0≤x→x < (l.length : Int)→rd a x = (if x < (i : Int) then uu l x else 0) - ks l (uu l) x i
theorem uu_bd {l : List S30} (h : AmtFrom l 0) (j : Int) (h0 : 0≤j) (h1 : j < (l.length : Int)) : 0≤uu l j∧uu l j≤1048576:=(h j h0 h1).1
theorem ksu_bd {l : List S30} (h8 : l.length≤8) (h : AmtFrom l 0) (x : Int) (m : Nat) (hm : m≤l.length) : 0≤ks l (uu l) x m∧ks l (uu l) x m≤8388608:=by
  have:=ks_bd l (uu l) x m (B:=1048576) (by omega) (fun j h1 h2 => uu_bd h j (by omega) (by omega))
  omega
theorem own_ev (l : List S30) (h8 : l.length≤8) (ht : TreeFrom l 0) (ha : AmtFrom l 0) : ∀ (d i : Nat) (a : List Int),i + d = l.length→OwnAt l a i→∃ r,Ev (fun k => accounts_own.l0 k a l (l.length : Int) i) r∧OwnAt l r l.length:=by
  intro d
  induction d with
  | zero =>
    intro i a hi hA
    obtain rfl : i = l.length:=by omega
    exact ⟨a,ev1 0 (fun k _ => by simp only [accounts_own.l0];rw [if_neg (by omega)]),hA⟩
  | succ d ih =>
    intro i a hi hA
    have hlt : (i : Int) < (l.length : Int):=by omega
    obtain ⟨hl,hA⟩:=hA
    have hu:=uu_bd ha i (by omega) hlt
    have hk0:=ksu_bd h8 ha i i (by omega)
    have hAi:=hA i (by omega) hlt
    rw [if_neg (by omega)] at hAi
    have w1 : wrap64 (rd a i + (rd_T30 l i).f1) = uu l i - ks l (uu l) i i:=by
      rw [hAi,wr64 (by unfold uu at hu;omega) (by unfold uu at hu;omega)];unfold uu;omega
    by_cases c : 0 < i
    · have htr:=(ht i (by omega) hlt).2 (by omega)
      have hp:=hA (rd_T30 l i).f0 (by omega) (by omega)
      rw [if_pos (by omega)] at hp
      have hkp:=ksu_bd h8 ha (rd_T30 l i).f0 i (by omega)
      have hup:=uu_bd ha (rd_T30 l i).f0 (by omega) (by omega)
      have w2 : wrap64 (rd (a.set (i : Int).toNat (uu l i - ks l (uu l) i i)) (rd_T30 l i).f0 - (rd_T30 l i).f1) = rd a (rd_T30 l i).f0 - uu l i:=by
        rw [rd_set _ _ _ _ (by omega) (by omega) (by omega),if_neg (by omega),wr64 (by unfold uu at hu;omega) (by unfold uu at hu;omega)];rfl
      obtain ⟨r,⟨K,hK⟩,hr⟩:=ih (i + 1) ((a.set (i : Int).toNat (uu l i - ks l (uu l) i i)).set (rd_T30 l i).f0.toNat (rd a (rd_T30 l i).f0 - uu l i)) (by omega) ⟨by simp [hl],fun x hx0 hx1 => by
        have hx:=hA x hx0 hx1
        rw [rd_set _ _ _ _ (by omega) (by simp;omega) hx0,rd_set _ _ _ _ (by omega) (by omega) hx0,ks_succ]
        by_cases e1 : x = (rd_T30 l i).f0
        · rw [if_pos e1,if_pos (show x < ((i + 1 : Nat) : Int) by omega),if_pos (show 1≤i∧(rd_T30 l i).f0 = x from ⟨by omega,e1.symm⟩),hp,e1];omega
        · rw [if_neg e1,if_neg (show ¬ (1≤i∧(rd_T30 l i).f0 = x) from fun h => e1 h.2.symm)]
          by_cases e2 : x = (i : Int)
          · rw [if_pos e2,if_pos (show x < ((i + 1 : Nat) : Int) by omega),e2];omega
          · rw [if_neg e2,hx]
            by_cases e3 : x < (i : Int)
            · rw [if_pos e3,if_pos (show x < ((i + 1 : Nat) : Int) by omega)];omega
            · rw [if_neg e3,if_neg (show ¬ x < ((i + 1 : Nat) : Int) by omega)];omega⟩
      refine ⟨r,ev1 K (fun k hk => ?_),hr⟩
      simp only [accounts_own.l0]
      rw [if_pos hlt,if_pos (by omega),if_pos hlt,if_pos (by omega),w1]
      simp only [Option.bind_some]
      rw [if_pos (by omega),if_pos (by omega),if_pos (by omega),w2,wr64 (by omega) (by omega)]
      exact hK k hk
    · obtain rfl : i = 0:=by omega
      obtain ⟨r,⟨K,hK⟩,hr⟩:=ih 1 (a.set ((0 : Nat) : Int).toNat (uu l ((0 : Nat) : Int) - ks l (uu l) ((0 : Nat) : Int) 0)) (by omega) ⟨by simp [hl],fun x hx0 hx1 => by
        have hx:=hA x hx0 hx1
        rw [rd_set _ _ _ _ (by omega) (by omega) hx0,ks_succ,if_neg (show ¬ (1≤0∧(rd_T30 l ((0 : Nat) : Int)).f0 = x) by omega)]
        by_cases e2 : x = ((0 : Nat) : Int)
        · rw [if_pos e2,if_pos (show x < ((0 + 1 : Nat) : Int) by omega),e2];omega
        · rw [if_neg e2,hx,if_neg (show ¬ x < ((0 : Nat) : Int) by omega),if_neg (show ¬ x < ((0 + 1 : Nat) : Int) by omega)];omega⟩
      refine ⟨r,ev1 K (fun k hk => ?_),hr⟩
      simp only [accounts_own.l0]
      rw [if_pos hlt,if_pos (by omega),if_pos hlt,if_pos (by omega),w1]
      simp only [Option.bind_some]
      rw [if_neg (by omega),wr64 (by omega) (by omega)]
      exact hK k hk
theorem own_f (l : List S30) (h8 : l.length≤8) (ht : TreeFrom l 0) (ha : AmtFrom l 0) : ∃ r,Ev (fun k => accounts_own.f k l) r∧OwnAt l r l.length:=by
  obtain ⟨r,⟨K,hK⟩,hr⟩:=own_ev l h8 ht ha l.length 0 (List.replicate l.length 0) (by omega) ⟨by simp,fun x hx0 hx1 => by rw [rd_replicate,ks_zero',if_neg (by omega)];omega⟩
  refine ⟨r,ev0 K (fun k hk => ?_),hr⟩
  unfold accounts_own.f
  rw [if_pos (by omega),if_pos (by omega)]
  exact hK k hk
theorem min_ev (a : List Int) (hn : a.length≤8) : ∀ (d : Nat) (i : Int) (m : Int),0≤i→i + d = (a.length : Int)→∃ r,Ev (fun k => slices_Min_int_int.l0 k a m i) r∧(r < 0↔m < 0∨∃ j,i≤j∧j < (a.length : Int)∧rd a j < 0):=by
  intro d
  induction d with
  | zero =>
    intro i m h0 hi
    refine ⟨m,ev1 0 (fun k _ => by simp only [slices_Min_int_int.l0];rw [if_neg (by omega)]),?_⟩
    constructor
    · exact Or.inl
    · rintro (h | ⟨j,h1,h2,_⟩)
      · exact h
      · omega
  | succ d ih =>
    intro i m h0 hi
    have hlt : i < (a.length : Int):=by omega
    obtain ⟨r,⟨K,hK⟩,hr⟩:=ih (i + 1) (mn m (rd a i)) (by omega) (by omega)
    refine ⟨r,ev1 K (fun k hk => ?_),?_⟩
    · simp only [slices_Min_int_int.l0]
      rw [if_pos hlt,if_pos h0,wr64 (by omega) (by omega)]
      exact hK k hk
    · have hm : mn m (rd a i) < 0↔m < 0∨rd a i < 0:=by unfold mn;split <;> omega
      rw [hr,hm]
      constructor
      · rintro ((h | h) | ⟨j,h1,h2,h3⟩)
        · exact Or.inl h
        · exact Or.inr ⟨i,by omega,hlt,h⟩
        · exact Or.inr ⟨j,by omega,h2,h3⟩
      · rintro (h | ⟨j,h1,h2,h3⟩)
        · exact Or.inl (Or.inl h)
        · by_cases e : j = i
          · rw [e] at h3;exact Or.inl (Or.inr h3)
          · exact Or.inr ⟨j,by omega,h2,h3⟩
theorem min_f (a : List Int) (h1 : 1≤a.length) (hn : a.length≤8) : ∃ r,Ev (fun k => slices_Min_int_int.f k a) r∧(r < 0↔∃ j,0≤j∧j < (a.length : Int)∧rd a j < 0):=by
  obtain ⟨r,⟨K,hK⟩,hr⟩:=min_ev a hn (a.length - 1) 1 (rd a 0) (by omega) (by omega)
  refine ⟨r,ev0 K (fun k hk => ?_),?_⟩
  · unfold slices_Min_int_int.f
    rw [if_neg (by omega),if_pos (by omega)]
    exact hK k hk
  · rw [hr]
    constructor
    · rintro (h | ⟨j,h2,h3,h4⟩)
      · exact ⟨0,by omega,by omega,h⟩
      · exact ⟨j,by omega,h3,h4⟩
    · rintro ⟨j,h2,h3,h4⟩
      by_cases e : j = 0
      · rw [e] at h4;exact Or.inl h4
      · exact Or.inr ⟨j,by omega,h3,h4⟩
end Go.Proofs.Ytnmenfkmndnoaaa.Pr
