/- The check of a machine: what the program's forms and Check compute. -/
import Derived.Test.YteldbkdfphiogaaFcowCheck
import Derived.Test.YteldbkdfphiogaaFcowat
import Derived.Test.YteldbkdfphiogaaFcowforms
import Derived.Test.YteldbkdfphiogaaFcowlive
set_option linter.unusedVariables false
set_option linter.unusedSimpArgs false
namespace Go.Proofs.Yteldbkdfphiogaa.Pr
open Go.RowKit Go.Proofs.YteldbkdfphiogaaW.PrintWords Go.Proofs.YteldbkdfphiogaaW.PrintLast Go.Proofs.YteldbkdfphiogaaW.PrintMore
theorem ev1 {α : Type} {g : Nat→Option α} {r : α} (K : Nat) (h : ∀ k,K≤k→g (k + 1) = some r) : Ev g r :=
  ⟨K + 1,fun k hk => by obtain ⟨m,rfl⟩ : ∃ m,k = m + 1:=⟨k - 1,by omega⟩;exact h m (by omega)⟩
theorem ev0 {α : Type} {g : Nat→Option α} {r : α} (K : Nat) (h : ∀ k,K≤k→g k = some r) : Ev g r:=⟨K,h⟩
theorem ev_uniq {α : Type} {g : Nat→Option α} {r r' : α} (h : Ev g r) (h' : Ev g r') : r = r':=by
  obtain ⟨K,h⟩:=h
  obtain ⟨K',h'⟩:=h'
  have a:=h (K + K') (by omega)
  have b:=h' (K + K') (by omega)
  rw [a] at b
  exact Option.some.inj b
theorem wr1 {i : Nat} (h : i < 4611686018427387904) : wrap64 ((i : Int) + 1) = ((i + 1 : Nat) : Int):=by unfold wrap64;omega
theorem drop64 (xs : List S64) (j : Nat) (h : j < xs.length) : xs.drop j = rd_T64 xs j :: xs.drop (j + 1):=by
  rw [List.drop_eq_getElem_cons h];congr 1;unfold rd_T64;rw [List.getD_eq_getElem?_getD,Int.toNat_natCast,List.getElem?_eq_getElem h];rfl
theorem drop62 (xs : List S62) (j : Nat) (h : j < xs.length) : xs.drop j = rd_T62 xs j :: xs.drop (j + 1):=by
  rw [List.drop_eq_getElem_cons h];congr 1;unfold rd_T62;rw [List.getD_eq_getElem?_getD,Int.toNat_natCast,List.getElem?_eq_getElem h];rfl
theorem drop57 (xs : List S57) (j : Nat) (h : j < xs.length) : xs.drop j = rd_T57 xs j :: xs.drop (j + 1):=by
  rw [List.drop_eq_getElem_cons h];congr 1;unfold rd_T57;rw [List.getD_eq_getElem?_getD,Int.toNat_natCast,List.getElem?_eq_getElem h];rfl
def pageOk (nf : Int) (p : S64) : Bool:=decide (-1≤p.f0) && decide (p.f0 < nf) && !(decide (p.f0 = -1) && p.f1)
def lenOk (sz : Int) (s : S62) : Bool:=if s.f0 = true then decide ((s.f1.length : Int) = sz) else decide ((s.f1.length : Int) = 0)
def spaceOk (sz nf : Int) (s : S62) : Bool:=lenOk sz s && s.f1.all (pageOk nf)
def formB (sz nf : Int) (ss : List S62) : Bool:=ss.all (spaceOk sz nf)
theorem forms_l1 (x8 : List S62) (x9 x10 sz : Int) (ss : List S62) (fs : List S57) (cp : Int) (ps : List S64) (hl : ps.length < 4611686018427387904) (R : Bool) (hR : Ev (fun k => cow_forms.l0 k x8 x9 (wrap64 (x10 + 1)) sz ss fs cp) R) :
    ∀ (d j : Nat),j + d = ps.length→Ev (fun k => cow_forms.l1 k x8 x9 x10 ps (ps.length : Int) j sz ss fs cp) ((ps.drop j).all (pageOk fs.length) && R):=by
  intro d
  induction d with
  | zero =>
    intro j hj
    rw [List.drop_of_length_le (by omega),List.all_nil,Bool.true_and]
    refine Ev.step (fun k => ?_) hR
    simp only [cow_forms.l1]
    rw [if_neg (by omega)]
  | succ d ih =>
    intro j hj
    obtain ⟨K,hK⟩:=ih (j + 1) (by omega)
    rw [drop64 ps j (by omega),List.all_cons]
    generalize hp : rd_T64 ps j = p at hK
    generalize (ps.drop (j + 1)).all (pageOk fs.length) = A at hK ⊢
    have j3 : ∀ b k,K + 1≤k→cow_forms.j3 k x8 x9 x10 ps (ps.length : Int) j b sz ss fs cp = some (if b = true then false else A && R):=by
      intro b k hk
      obtain ⟨m,rfl⟩ : ∃ m,k = m + 1:=⟨k - 1,by omega⟩
      simp only [cow_forms.j3]
      cases b with
      | true => rfl
      | false => rw [if_neg Bool.false_ne_true,if_neg Bool.false_ne_true,wr1 (by omega)];exact hK m (by omega)
    refine ev1 (K + 1) (fun k hk => ?_)
    simp only [cow_forms.l1,hp,j3 _ k hk]
    rw [if_pos (by omega),if_pos (by omega),if_pos (by omega)]
    unfold pageOk
    by_cases c0 : p.f0 < -1
    · rw [if_pos c0];simp [show ¬ -1≤p.f0 by omega]
    · rw [if_neg c0]
      have e0 : -1≤p.f0:=by omega
      by_cases c1 : p.f0≥(fs.length : Int)
      · rw [if_pos c1];simp [e0,show ¬ p.f0 < (fs.length : Int) by omega]
      · rw [if_neg c1]
        have e1 : p.f0 < (fs.length : Int):=by omega
        by_cases c2 : p.f0 = -1
        · rw [if_pos c2]
          have e2 : (-1 : Int) < (fs.length : Int):=by omega
          cases h1 : p.f1 <;> simp [c2,e2]
        · rw [if_neg c2];simp [e0,e1,c2]
theorem forms_l0 (sz : Int) (ss : List S62) (fs : List S57) (cp : Int) (hs : ss.length < 4611686018427387904) (hp : ∀ s ∈ ss,s.f1.length < 4611686018427387904) :
    ∀ (d j : Nat),j + d = ss.length→Ev (fun k => cow_forms.l0 k ss (ss.length : Int) j sz ss fs cp) ((ss.drop j).all (spaceOk sz fs.length)):=by
  intro d
  induction d with
  | zero =>
    intro j hj
    rw [List.drop_of_length_le (by omega),List.all_nil]
    refine ev1 0 (fun k _ => ?_)
    simp only [cow_forms.l0]
    rw [if_neg (by omega)]
  | succ d ih =>
    intro j hj
    have h1:=ih (j + 1) (by omega)
    rw [← wr1 (show j < 4611686018427387904 by omega)] at h1
    have hm : rd_T62 ss j ∈ ss:=by
      unfold rd_T62;rw [List.getD_eq_getElem?_getD,Int.toNat_natCast,List.getElem?_eq_getElem (by omega)];exact List.getElem_mem _
    have h2:=forms_l1 ss (ss.length : Int) j sz ss fs cp (rd_T62 ss j).f1 (hp _ hm) _ h1 (rd_T62 ss j).f1.length 0 (by omega)
    rw [drop62 ss j (by omega),List.all_cons,List.drop_zero] at *
    obtain ⟨K,hK⟩:=h2
    generalize hss : rd_T62 ss (j : Int) = s at hK ⊢
    generalize (ss.drop (j + 1)).all (spaceOk sz fs.length) = A at hK ⊢
    have j1 : ∀ b k,K + 1≤k→cow_forms.j1 k ss (ss.length : Int) j b sz ss fs cp s.f0 s.f1 = some (if b = true then false else s.f1.all (pageOk fs.length) && A):=by
      intro b k hk
      obtain ⟨m,rfl⟩ : ∃ m,k = m + 1:=⟨k - 1,by omega⟩
      simp only [cow_forms.j1]
      cases b with
      | true => rfl
      | false => rw [if_neg Bool.false_ne_true,if_neg Bool.false_ne_true];exact hK m (by omega)
    refine ev1 (K + 1) (fun k hk => ?_)
    simp only [cow_forms.l0]
    rw [if_pos (by omega),if_pos (by omega),if_pos (by omega)]
    simp only [spaceOk,lenOk]
    rw [hss,j1 _ k hk,j1 _ k hk,j1 _ k hk]
    cases h0 : s.f0
    · by_cases c1 : (s.f1.length : Int) > 0
      · have c2 : 0 < s.f1.length:=by omega
        have c3 : s.f1≠[]:=by intro e;rw [e] at c2;simp at c2
        simp [h0,c2,c3]
      · have c2 : s.f1 = []:=List.eq_nil_of_length_eq_zero (by omega)
        simp [h0,c2]
    · by_cases c1 : (s.f1.length : Int) = sz
      · simp [h0,c1]
      · simp [h0,c1]
theorem forms_ev (sz : Int) (ss : List S62) (fs : List S57) (cp : Int) (hs : ss.length < 4611686018427387904) (hp : ∀ s ∈ ss,s.f1.length < 4611686018427387904) : Ev (fun k => cow_forms.f k sz ss fs cp) (formB sz fs.length ss):=by
  have h:=forms_l0 sz ss fs cp hs hp ss.length 0 (by omega)
  rw [List.drop_zero] at h
  exact h
