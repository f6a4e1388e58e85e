/- What the program's Check of a machine answers. -/
import Derived.Test.YteldbkdfphiogaaCa
set_option linter.unusedVariables false
set_option linter.unusedSimpArgs false
namespace Go.Proofs.Yteldbkdfphiogaa.Pr
open Go.RowKit Go.Proofs.YteldbkdfphiogaaW.PrintWords Go.Proofs.YteldbkdfphiogaaW.PrintLast Go.Proofs.YteldbkdfphiogaaW.PrintMore
def tab {α : Type} (n : Nat) (g : Nat→α) : List α:=(List.range n).map g
theorem tab_len {α : Type} (n : Nat) (g : Nat→α) : (tab n g).length = n:=by simp [tab]
theorem tab_get {α : Type} (n : Nat) (g : Nat→α) (d : α) (i : Nat) (h : i < n) : (tab n g).getD i d = g i:=by
  unfold tab;rw [List.getD_eq_getElem?_getD,List.getElem?_map,List.getElem?_range h];rfl
theorem tab_set {α : Type} (n : Nat) (g g' : Nat→α) (i : Nat) (v : α) (hi : g' i = v) (ho : ∀ j,j≠i→g' j = g j) : (tab n g).set i v = tab n g':=by
  apply List.ext_getElem?
  intro j
  unfold tab
  rw [List.getElem?_set]
  by_cases hj : i = j
  · subst hj
    rw [if_pos rfl,List.getElem?_map]
    by_cases hn : i < n
    · rw [List.getElem?_range hn];simp [hi,hn]
    · simp [hn]
  · rw [if_neg hj,List.getElem?_map,List.getElem?_map]
    by_cases hn : j < n
    · rw [List.getElem?_range hn];simp [ho j (fun e => hj e.symm)]
    · simp [hn]
theorem tab_zero {α : Type} (n : Nat) (v : α) : List.replicate n v = tab n (fun _ => v):=by
  unfold tab;rw [List.map_const'];simp
theorem tab_congr {α : Type} (n : Nat) (g g' : Nat→α) (h : ∀ i,g i = g' i) : tab n g = tab n g':=by
  have : g = g':=funext h
  rw [this]
def cntN (ps : List S64) (i : Nat) : Int:=((ps.countP (fun p => decide (p.f0 = (i : Int))) : Nat) : Int)
def wrtN (ps : List S64) (i : Nat) : Bool:=ps.any (fun p => decide (p.f0 = (i : Int)) && p.f1)
theorem cntN_nil (i : Nat) : cntN [] i = 0:=rfl
theorem cntN_snoc (ps : List S64) (p : S64) (i : Nat) : cntN (ps ++ [p]) i = cntN ps i + (if p.f0 = (i : Int) then 1 else 0):=by
  unfold cntN;rw [List.countP_append,List.countP_singleton]
  by_cases h : p.f0 = (i : Int)
  · simp [h]
  · simp [h]
theorem cntN_append (ps qs : List S64) (i : Nat) : cntN (ps ++ qs) i = cntN ps i + cntN qs i:=by
  unfold cntN;rw [List.countP_append];omega
theorem cntN_cons (p : S64) (ps : List S64) (i : Nat) : cntN (p :: ps) i = (if p.f0 = (i : Int) then 1 else 0) + cntN ps i:=by
  unfold cntN;rw [List.countP_cons]
  by_cases h : p.f0 = (i : Int)
  · simp [h];omega
  · simp [h]
theorem cntN_le (ps : List S64) (i : Nat) : 0≤cntN ps i∧cntN ps i≤ps.length:=by
  unfold cntN;have:=List.countP_le_length (p:=fun p : S64 => decide (p.f0 = (i : Int))) (l:=ps);omega
theorem wrtN_snoc (ps : List S64) (p : S64) (i : Nat) : wrtN (ps ++ [p]) i = (wrtN ps i || (decide (p.f0 = (i : Int)) && p.f1)):=by
  unfold wrtN;rw [List.any_append];simp
theorem wrtN_append (ps qs : List S64) (i : Nat) : wrtN (ps ++ qs) i = (wrtN ps i || wrtN qs i):=by
  unfold wrtN;rw [List.any_append]
def pagesOf (ss : List S62) : List S64:=ss.flatMap (·.f1)
theorem pagesOf_cons (s : S62) (ss : List S62) : pagesOf (s :: ss) = s.f1 ++ pagesOf ss:=by simp [pagesOf]
theorem pagesOf_append (a b : List S62) : pagesOf (a ++ b) = pagesOf a ++ pagesOf b:=by simp [pagesOf]
theorem take64 (xs : List S64) (j : Nat) (h : j < xs.length) : xs.take (j + 1) = xs.take j ++ [rd_T64 xs j]:=by
  rw [List.take_add_one];congr 1;unfold rd_T64;rw [List.getD_eq_getElem?_getD,Int.toNat_natCast,List.getElem?_eq_getElem h];rfl
theorem take62 (xs : List S62) (j : Nat) (h : j < xs.length) : xs.take (j + 1) = xs.take j ++ [rd_T62 xs j]:=by
  rw [List.take_add_one];congr 1;unfold rd_T62;rw [List.getD_eq_getElem?_getD,Int.toNat_natCast,List.getElem?_eq_getElem h];rfl
theorem mem64 (xs : List S64) (j : Nat) (h : j < xs.length) : rd_T64 xs j ∈ xs:=by
  unfold rd_T64;rw [List.getD_eq_getElem?_getD,Int.toNat_natCast,List.getElem?_eq_getElem h];exact List.getElem_mem _
theorem mem62 (xs : List S62) (j : Nat) (h : j < xs.length) : rd_T62 xs j ∈ xs:=by
  unfold rd_T62;rw [List.getD_eq_getElem?_getD,Int.toNat_natCast,List.getElem?_eq_getElem h];exact List.getElem_mem _
theorem mem57 (xs : List S57) (j : Nat) (h : j < xs.length) : rd_T57 xs j ∈ xs:=by
  unfold rd_T57;rw [List.getD_eq_getElem?_getD,Int.toNat_natCast,List.getElem?_eq_getElem h];exact List.getElem_mem _
theorem check_l1 (n : Nat) (x57 : List S62) (x58 x59 a0 : Int) (x1 : List S62) (x2 : List S57) (x3 : Int) (ps : List S64) (hps : ∀ p ∈ ps,-1≤p.f0∧p.f0 < (n : Int)) (pre : List S64) (hl : pre.length + ps.length < 4611686018427387904) (R : Int)
    (hR : Ev (fun k => cow_Check.l0 k (tab n (cntN (pre ++ ps))) (tab n (wrtN (pre ++ ps))) x57 x58 (wrap64 (x59 + 1)) a0 x1 x2 x3) R) :
    ∀ (d j : Nat),j + d = ps.length→Ev (fun k => cow_Check.l1 k (tab n (cntN (pre ++ ps.take j))) (tab n (wrtN (pre ++ ps.take j))) x57 x58 x59 ps (ps.length : Int) j a0 x1 x2 x3) R:=by
  intro d
  induction d with
  | zero =>
    intro j hj
    rw [List.take_of_length_le (by omega)]
    refine Ev.step (fun k => ?_) hR
    simp only [cow_Check.l1]
    rw [if_neg (by omega)]
  | succ d ih =>
    intro j hj
    have h1:=ih (j + 1) (by omega)
    rw [← wr1 (show j < 4611686018427387904 by omega)] at h1
    rw [take64 ps j (by omega),← List.append_assoc] at h1
    have hb:=hps _ (mem64 ps j (by omega))
    have hle:=cntN_le (pre ++ ps.take j) (rd_T64 ps j).f0.toNat
    have hln : (pre ++ ps.take j).length = pre.length + j:=by rw [List.length_append,List.length_take];omega
    generalize pre ++ ps.take j = A at h1 hle hln ⊢
    refine Ev.step (f:=fun k => cow_Check.l1 k (tab n (cntN (A ++ [rd_T64 ps j]))) (tab n (wrtN (A ++ [rd_T64 ps j]))) x57 x58 x59 ps (ps.length : Int) (wrap64 ((j : Int) + 1)) a0 x1 x2 x3) (fun k => ?_) h1
    simp only [cow_Check.l1]
    generalize rd_T64 ps (j : Int) = p at hb hle ⊢
    rw [if_pos (by omega),if_pos (by omega),if_pos (by omega)]
    by_cases c0 : p.f0≥0
    · rw [if_pos c0,if_pos c0,tab_len,if_pos hb.2,Option.bind_some,tab_len,if_pos hb.2]
      have hf : ((p.f0.toNat : Nat) : Int) = p.f0:=by omega
      have e1 : rd (tab n (cntN A)) p.f0 = cntN A p.f0.toNat:=tab_get n _ _ _ (by omega)
      have e2 : rdOf false (tab n (wrtN A)) p.f0 = wrtN A p.f0.toNat:=tab_get n _ _ _ (by omega)
      have e3 : (tab n (cntN A)).set p.f0.toNat (wrap64 (rd (tab n (cntN A)) p.f0 + 1)) = tab n (cntN (A ++ [p])):=by
        apply tab_set
        · rw [cntN_snoc,if_pos hf.symm,e1];unfold wrap64;omega
        · intro i hi;rw [cntN_snoc,if_neg (by omega)];omega
      rw [e3,e2]
      cases hw : wrtN A p.f0.toNat with
      | true =>
        rw [if_pos rfl]
        congr 1
        apply tab_set
        · rw [wrtN_snoc,hw];rfl
        · intro i hi;rw [wrtN_snoc];simp [show ¬ p.f0 = (i : Int) by omega]
      | false =>
        rw [if_neg Bool.false_ne_true]
        congr 1
        apply tab_set
        · rw [wrtN_snoc,hw];simp [hf]
        · intro i hi;rw [wrtN_snoc];simp [show ¬ p.f0 = (i : Int) by omega]
    · rw [if_neg c0]
      congr 1
      · exact tab_congr _ _ _ (fun i => by rw [cntN_snoc,if_neg (by omega)];omega)
      · exact tab_congr _ _ _ (fun i => by rw [wrtN_snoc];simp [show ¬ p.f0 = (i : Int) by omega])
theorem check_l0 (n : Nat) (ss : List S62) (a0 : Int) (x1 : List S62) (x2 : List S57) (x3 : Int) (hs : ss.length≤1000) (hp : ∀ s ∈ ss,s.f1.length≤1000∧∀ p ∈ s.f1,-1≤p.f0∧p.f0 < (n : Int)) (R : Int)
    (hR : Ev (fun k => cow_Check.l2 k (tab n (cntN (pagesOf ss))) (tab n (wrtN (pagesOf ss))) x2 (x2.length : Int) 0) R) :
    ∀ (d j : Nat),j + d = ss.length→Ev (fun k => cow_Check.l0 k (tab n (cntN (pagesOf (ss.take j)))) (tab n (wrtN (pagesOf (ss.take j)))) ss (ss.length : Int) j a0 x1 x2 x3) R:=by
  have hbd : ∀ j,j≤ss.length→(pagesOf (ss.take j)).length≤1000 * j:=by
    intro j
    induction j with
    | zero => intro _;simp [pagesOf]
    | succ j ih =>
      intro hj
      have:=ih (by omega)
      have h2:=(hp _ (mem62 ss j (by omega))).1
      rw [take62 ss j (by omega),pagesOf_append,List.length_append]
      simp only [pagesOf_cons,List.length_append] at *
      simp [pagesOf] at *
      omega
  intro d
  induction d with
  | zero =>
    intro j hj
    rw [List.take_of_length_le (by omega)]
    refine Ev.step (fun k => ?_) hR
    simp only [cow_Check.l0]
    rw [if_neg (by omega)]
  | succ d ih =>
    intro j hj
    have h1:=ih (j + 1) (by omega)
    rw [← wr1 (show j < 4611686018427387904 by omega)] at h1
    rw [take62 ss j (by omega),pagesOf_append] at h1
    have hm:=hp _ (mem62 ss j (by omega))
    have hb:=hbd j (by omega)
    have e : pagesOf [rd_T62 ss (j : Int)] = (rd_T62 ss (j : Int)).f1:=by simp [pagesOf]
    rw [e] at h1
    have h2:=check_l1 n ss (ss.length : Int) j a0 x1 x2 x3 (rd_T62 ss (j : Int)).f1 hm.2 (pagesOf (ss.take j)) (by omega) R h1 (rd_T62 ss (j : Int)).f1.length 0 (by omega)
    rw [List.take_zero,List.append_nil] at h2
    refine Ev.step (fun k => ?_) h2
    simp only [cow_Check.l0]
    rw [if_pos (by omega),if_pos (by omega),if_pos (by omega)]
    rfl
def accOk (ps : List S64) (i : Nat) : Bool:=!(wrtN ps i && cntN ps i != 1)
theorem check_l3 (n : Nat) (ps : List S64) (hn : n < 4611686018427387904) :
    ∀ (d j : Nat),j + d = n→Ev (fun k => cow_Check.l3 k (tab n (cntN ps)) (tab n (wrtN ps)) ((tab n (wrtN ps)).length : Int) j) (if (List.range' j d).all (accOk ps) = true then 0 else 12):=by
  intro d
  induction d with
  | zero =>
    intro j hj
    refine ev1 0 (fun k _ => ?_)
    simp only [cow_Check.l3,tab_len]
    rw [if_neg (by omega)]
    rfl
  | succ d ih =>
    intro j hj
    obtain ⟨K,hK⟩:=ih (j + 1) (by omega)
    rw [List.range'_succ,List.all_cons]
    generalize (List.range' (j + 1) d).all (accOk ps) = A at hK ⊢
    have e1 : rd (tab n (cntN ps)) (j : Int) = cntN ps j:=by unfold rd;rw [Int.toNat_natCast];exact tab_get n _ _ _ (by omega)
    have e2 : rdOf false (tab n (wrtN ps)) (j : Int) = wrtN ps j:=by unfold rdOf;rw [Int.toNat_natCast];exact tab_get n _ _ _ (by omega)
    have j6 : ∀ b k,K + 1≤k→cow_Check.j6 k (tab n (cntN ps)) (tab n (wrtN ps)) ((tab n (wrtN ps)).length : Int) j b = some (if b = true then 12 else if A = true then 0 else 12):=by
      intro b k hk
      obtain ⟨m,rfl⟩ : ∃ m,k = m + 1:=⟨k - 1,by omega⟩
      simp only [cow_Check.j6]
      cases b with
      | true => rfl
      | false => rw [if_neg Bool.false_ne_true,if_neg Bool.false_ne_true,wr1 (by omega)];exact hK m (by omega)
    refine ev1 (K + 1) (fun k hk => ?_)
    simp only [cow_Check.l3]
    rw [j6 _ k hk,j6 _ k hk,e1,e2]
    simp only [tab_len]
    have hjn : j < n:=by omega
    rw [if_pos (by omega),if_pos (by omega),if_pos (by omega)]
    unfold accOk
    cases wrtN ps j <;> by_cases hc : cntN ps j = 1 <;> cases A <;> simp [hc,hjn]
def stateOk (ps : List S64) (fs : List S57) (i : Nat) : Bool:=decide ((rd_T57 fs (i : Int)).f0 = cntN ps i) && !(decide ((rd_T57 fs (i : Int)).f0 = 0) && (rd_T57 fs (i : Int)).f1 != 0)
theorem check_l2 (ps : List S64) (fs : List S57) (hn : fs.length < 4611686018427387904) (R : Int) (hR : Ev (fun k => cow_Check.l3 k (tab fs.length (cntN ps)) (tab fs.length (wrtN ps)) ((tab fs.length (wrtN ps)).length : Int) 0) R) :
    ∀ (d j : Nat),j + d = fs.length→Ev (fun k => cow_Check.l2 k (tab fs.length (cntN ps)) (tab fs.length (wrtN ps)) fs (fs.length : Int) j) (if (List.range' j d).all (stateOk ps fs) = true then R else 11):=by
  intro d
  induction d with
  | zero =>
    intro j hj
    refine Ev.step (fun k => ?_) hR
    simp only [cow_Check.l2]
    rw [if_neg (by omega)]
  | succ d ih =>
    intro j hj
    obtain ⟨K,hK⟩:=ih (j + 1) (by omega)
    rw [List.range'_succ,List.all_cons]
    generalize (List.range' (j + 1) d).all (stateOk ps fs) = A at hK ⊢
    have e1 : rd (tab fs.length (cntN ps)) (j : Int) = cntN ps j:=by unfold rd;rw [Int.toNat_natCast];exact tab_get _ _ _ _ (by omega)
    have j4 : ∀ b k,K + 1≤k→cow_Check.j4 k (tab fs.length (cntN ps)) (tab fs.length (wrtN ps)) fs (fs.length : Int) j b = some (if b = true then 11 else if A = true then R else 11):=by
      intro b k hk
      obtain ⟨m,rfl⟩ : ∃ m,k = m + 1:=⟨k - 1,by omega⟩
      simp only [cow_Check.j4]
      cases b with
      | true => rfl
      | false => rw [if_neg Bool.false_ne_true,if_neg Bool.false_ne_true,wr1 (by omega)];exact hK m (by omega)
    refine ev1 (K + 1) (fun k hk => ?_)
    simp only [cow_Check.l2]
    rw [j4 _ k hk,j4 _ k hk,j4 _ k hk,e1]
    simp only [tab_len]
    rw [if_pos (by omega),if_pos (by omega),if_pos (by omega),if_pos (by omega)]
    unfold stateOk
    by_cases h1 : (rd_T57 fs (j : Int)).f0 = cntN ps j
    · by_cases h2 : cntN ps j = 0
      · by_cases h3 : (rd_T57 fs (j : Int)).f1 = 0 <;> cases A <;> simp [h1,h2,h3]
      · cases A <;> simp [h1,h2]
    · cases A <;> simp [h1]
def rangeOk (sz : Int) (ss : List S62) (fs : List S57) (cp : Int) : Prop:=1≤sz∧sz≤512∧1≤ss.length∧ss.length≤8∧1≤fs.length∧fs.length≤256∧0≤cp∧cp≤1048576
instance (sz : Int) (ss : List S62) (fs : List S57) (cp : Int) : Decidable (rangeOk sz ss fs cp):=by unfold rangeOk;infer_instance
def chk (sz : Int) (ss : List S62) (fs : List S57) (cp : Int) : Int :=
  if ¬ rangeOk sz ss fs cp then 2 else if formB sz fs.length ss = false then 3 else if (List.range fs.length).all (stateOk (pagesOf ss) fs) = false then 11 else if (List.range fs.length).all (accOk (pagesOf ss)) = false then 12 else 0
theorem formB_rows {sz nf : Int} {ss : List S62} (h : formB sz nf ss = true) (h1 : sz≤512) : ∀ s ∈ ss,s.f1.length≤1000∧∀ p ∈ s.f1,-1≤p.f0∧p.f0 < nf:=by
  intro s hs
  have h2:=List.all_eq_true.1 h s hs
  unfold spaceOk at h2
  rw [Bool.and_eq_true] at h2
  refine ⟨?_,fun p hp => ?_⟩
  · have:=h2.1
    unfold lenOk at this
    split at this
    · have:=of_decide_eq_true this;omega
    · have:=of_decide_eq_true this;omega
  · have:=List.all_eq_true.1 h2.2 p hp
    unfold pageOk at this
    simp only [Bool.and_eq_true,decide_eq_true_eq] at this
    exact this.1
theorem check_ev (sz : Int) (ss : List S62) (fs : List S57) (cp : Int) (hs : ss.length < 4611686018427387904) (hp : ∀ s ∈ ss,s.f1.length < 4611686018427387904) : Ev (fun k => cow_Check.f k sz ss fs cp) (chk sz ss fs cp):=by
  obtain ⟨K1,h1⟩:=forms_ev sz ss fs cp hs hp
  replace h1 : ∀ k,K1≤k→cow_forms.f k sz ss fs cp = some (formB sz fs.length ss):=h1
  have hin : ∀ n m : Int,cow_Check_1.f n m = some (decide (1≤n∧n≤m)):=by
    intro n m
    unfold cow_Check_1.f
    by_cases h : n≥1
    · rw [if_pos h];simp [show 1≤n from h]
    · rw [if_neg h];simp [show ¬ 1≤n from h]
  have hj : ∃ K,∀ k,K≤k→cow_Check.j0 k false sz ss fs cp = some (chk sz ss fs cp)∨¬ rangeOk sz ss fs cp:=by
    by_cases hr : rangeOk sz ss fs cp
    · cases hf : formB sz fs.length ss with
      | false =>
        refine ⟨K1 + 1,fun k hk => Or.inl ?_⟩
        obtain ⟨m,rfl⟩ : ∃ m,k = m + 1:=⟨k - 1,by omega⟩
        simp only [cow_Check.j0]
        rw [if_neg Bool.false_ne_true,h1 m (by omega),hf,Option.bind_some,if_neg Bool.false_ne_true]
        unfold chk
        rw [if_neg (fun h => h hr),if_pos hf]
      | true =>
        have hrow:=formB_rows hf hr.2.1
        have h3:=check_l3 fs.length (pagesOf ss) (by have:=hr.2.2.2.2.2.1;omega) fs.length 0 (by omega)
        have h2:=check_l2 (pagesOf ss) fs (by have:=hr.2.2.2.2.2.1;omega) _ h3 fs.length 0 (by omega)
        have h0:=check_l0 fs.length ss sz ss fs cp (by have:=hr.2.2.2.1;omega) hrow _ h2 ss.length 0 (by omega)
        obtain ⟨K,hK⟩:=h0
        refine ⟨K1 + K + 1,fun k hk => Or.inl ?_⟩
        obtain ⟨m,rfl⟩ : ∃ m,k = m + 1:=⟨k - 1,by omega⟩
        simp only [cow_Check.j0]
        rw [if_neg Bool.false_ne_true,h1 m (by omega),hf,Option.bind_some,if_pos rfl]
        have l1:=hr.2.2.2.2.2.1
        rw [if_pos (by omega),if_pos (by omega),if_pos (by omega)]
        have h:=hK m (by omega)
        simp only [List.take_zero,show pagesOf [] = [] from rfl] at h
        rw [Int.toNat_natCast,tab_zero,tab_zero]
        rw [tab_congr fs.length (fun _ => (0 : Int)) (cntN []) (fun _ => rfl),tab_congr fs.length (fun _ => false) (wrtN []) (fun _ => rfl)]
        refine h.trans ?_
        have hc : chk sz ss fs cp = if (List.range fs.length).all (stateOk (pagesOf ss) fs) = false then 11 else if (List.range fs.length).all (accOk (pagesOf ss)) = false then 12 else 0:=by
          unfold chk
          rw [if_neg (fun h => h hr),if_neg (by rw [hf];simp)]
        rw [hc,List.range_eq_range']
        congr 1
        cases (List.range' 0 fs.length).all (stateOk (pagesOf ss) fs) <;> cases (List.range' 0 fs.length).all (accOk (pagesOf ss)) <;> simp
    · exact ⟨0,fun k _ => Or.inr hr⟩
  obtain ⟨K2,h2⟩:=hj
  refine ev0 (K2 + 1) (fun k hk => ?_)
  have ht : cow_Check.j0 k true sz ss fs cp = some 2:=by
    obtain ⟨m,rfl⟩ : ∃ m,k = m + 1:=⟨k - 1,by omega⟩
    simp only [cow_Check.j0]
    rw [if_pos trivial]
  unfold cow_Check.f
  simp only [hin,Option.bind_some,decide_eq_true_eq,ht]
  have hno : ¬ rangeOk sz ss fs cp→chk sz ss fs cp = 2:=fun h => by unfold chk;rw [if_pos h]
  by_cases c1 : 1≤sz∧sz≤512
  · rw [if_pos c1]
    by_cases c2 : 1≤(ss.length : Int)∧(ss.length : Int)≤8
    · rw [if_pos c2]
      by_cases c3 : 1≤(fs.length : Int)∧(fs.length : Int)≤256
      · rw [if_pos c3]
        by_cases c4 : cp < 0
        · rw [if_pos c4,hno (fun h => by have:=h.2.2.2.2.2.2.1;omega)]
        · rw [if_neg c4]
          by_cases c5 : cp > 1048576
          · rw [decide_eq_true c5,ht,hno (fun h => by have:=h.2.2.2.2.2.2.2;omega)]
          · rw [decide_eq_false c5]
            exact (h2 k (by omega)).resolve_right (fun h => h ⟨c1.1,c1.2,by omega,by omega,by omega,by omega,by omega,by omega⟩)
      · rw [if_neg c3,hno (fun h => c3 ⟨by have:=h.2.2.2.2.1;omega,by have:=h.2.2.2.2.2.1;omega⟩)]
    · rw [if_neg c2,hno (fun h => c2 ⟨by have:=h.2.2.1;omega,by have:=h.2.2.2.1;omega⟩)]
  · rw [if_neg c1,hno (fun h => c1 ⟨h.1,h.2.1⟩)]
end Go.Proofs.Yteldbkdfphiogaa.Pr
