/- Plain facts about the printed functions of the accounts: what Check answers in the program and in the reference. -/
import Derived.Test.YtnmenfkmndnoaaaM1
import Derived.Test.YtnmenfkmndnoaaaM2
set_option linter.unusedVariables false
set_option linter.unusedSimpArgs false
namespace Go.Proofs.Ytnmenfkmndnoaaa.Pr
open Go.RowKit Go.Proofs.YtnmenfkmndnoaaaW.PrintWords Go.Proofs.YtnmenfkmndnoaaaW.PrintLast Go.Proofs.YtnmenfkmndnoaaaW.PrintMore
theorem ev1 {α : Type} {g : Nat→Option α} {r : α} (K : Nat) (h : ∀ k,K≤k→g (k + 1) = some r) : Ev g r :=
  ⟨K + 1,fun k hk => by obtain ⟨m,rfl⟩ : ∃ m,k = m + 1:=⟨k - 1,by omega⟩;exact h m (by omega)⟩
theorem ev0 {α : Type} {g : Nat→Option α} {r : α} (K : Nat) (h : ∀ k,K≤k→g k = some r) : Ev g r:=⟨K,h⟩
theorem ev_uniq {α : Type} {g : Nat→Option α} {r r' : α} (h : Ev g r) (h' : Ev g r') : r = r':=by
  obtain ⟨K,h⟩:=h
  obtain ⟨K',h'⟩:=h'
  have a:=h (K + K') (by omega)
  have b:=h' (K + K') (by omega)
  rw [a] at b
  exact Option.some.inj b
def sumTo (g : Nat→Int) : Nat→Int
  | 0 => 0
  | m + 1 => sumTo g m + g m
theorem sumTo_congr {g h : Nat→Int} : ∀ m,(∀ j,j < m→g j = h j)→sumTo g m = sumTo h m
  | 0,_ => rfl
  | m + 1,e => by rw [sumTo,sumTo,sumTo_congr m (fun j hj => e j (by omega)),e m (by omega)]
theorem sumTo_bd {g : Nat→Int} {B : Int} : ∀ m,(∀ j,j < m→0≤g j∧g j≤B)→0≤sumTo g m∧sumTo g m≤m * B
  | 0,_ => by simp [sumTo]
  | m + 1,e => by
    have h:=sumTo_bd m (fun j hj => e j (by omega))
    have h2:=e m (by omega)
    rw [sumTo,show ((m + 1 : Nat) : Int) * B = m * B + B by rw [Int.natCast_add,Int.add_mul];simp]
    omega
theorem sumTo_zero {g : Nat→Int} : ∀ m,(∀ j,j < m→g j = 0)→sumTo g m = 0
  | 0,_ => rfl
  | m + 1,e => by rw [sumTo,sumTo_zero m (fun j hj => e j (by omega)),e m (by omega)];rfl
theorem sumTo_add {g h : Nat→Int} : ∀ m,sumTo (fun j => g j + h j) m = sumTo g m + sumTo h m
  | 0 => rfl
  | m + 1 => by simp only [sumTo];rw [sumTo_add m];omega
theorem sumTo_le {g h : Nat→Int} : ∀ m,(∀ j,j < m→g j≤h j)→sumTo g m≤sumTo h m
  | 0,_ => by simp [sumTo]
  | m + 1,e => by
    have h1:=sumTo_le m (fun j hj => e j (by omega))
    have h2:=e m (by omega)
    simp only [sumTo];omega
def kid (l : List S30) (f : Int→Int) (x : Int) (j : Nat) : Int:=if 1≤j∧(rd_T30 l j).f0 = x then f j else 0
def ks (l : List S30) (f : Int→Int) (x : Int) (m : Nat) : Int:=sumTo (kid l f x) m
theorem ks_zero' (l : List S30) (f : Int→Int) (x : Int) : ks l f x 0 = 0:=rfl
theorem ks_succ (l : List S30) (f : Int→Int) (x : Int) (m : Nat) : ks l f x (m + 1) = ks l f x m + (if 1≤m∧(rd_T30 l m).f0 = x then f m else 0):=rfl
theorem ks_bd (l : List S30) (f : Int→Int) (x : Int) (m : Nat) {B : Int} (hB : 0≤B) (h : ∀ j : Int,1≤j→j < m→0≤f j∧f j≤B) : 0≤ks l f x m∧ks l f x m≤m * B:=by
  refine sumTo_bd m (fun j hj => ?_)
  unfold kid
  split
  · rename_i c
    exact h j (by omega) (by omega)
  · omega
theorem ks_congr (l : List S30) {f g : Int→Int} (x : Int) (m : Nat) (h : ∀ j : Int,1≤j→j < m→(rd_T30 l j).f0 = x→f j = g j) : ks l f x m = ks l g x m:=by
  refine sumTo_congr m (fun j hj => ?_)
  unfold kid
  split
  · rename_i c
    exact h j (by omega) (by omega) c.2
  · rfl
theorem ks_le (l : List S30) {f g : Int→Int} (x : Int) (m : Nat) (h : ∀ j : Int,1≤j→j < m→(rd_T30 l j).f0 = x→f j≤g j) : ks l f x m≤ks l g x m:=by
  refine sumTo_le m (fun j hj => ?_)
  unfold kid
  split
  · rename_i c
    exact h j (by omega) (by omega) c.2
  · omega
theorem rd_set (xs : List Int) (i v j : Int) (hi0 : 0≤i) (hi1 : i < (xs.length : Int)) (hj0 : 0≤j) : rd (xs.set i.toNat v) j = if j = i then v else rd xs j:=by
  unfold rd
  rw [List.getD_eq_getElem?_getD,List.getD_eq_getElem?_getD,List.getElem?_set]
  by_cases h : j = i
  · rw [if_pos h,if_pos (by omega),if_pos (by omega)];rfl
  · rw [if_neg h,if_neg (by omega)]
theorem rd_replicate (n : Nat) (j : Int) : rd (List.replicate n 0) j = 0:=by
  unfold rd
  rw [List.getD_eq_getElem?_getD,List.getElem?_replicate]
  split <;> rfl
theorem rd_ext {a b : List Int} (hl : a.length = b.length) (h : ∀ j : Int,0≤j→j < (a.length : Int)→rd a j = rd b j) : a = b:=by
  refine List.ext_getElem hl (fun n h1 h2 => ?_)
  have:=h n (by omega) (by omega)
  simpa [rd,List.getD_eq_getElem?_getD,h1,h2] using this
def TreeFrom (l : List S30) (i : Int) : Prop:=∀ j,i≤j→j < (l.length : Int)→treeAt l j
def AmtFrom (l : List S30) (i : Int) : Prop:=∀ j,i≤j→j < (l.length : Int)→amtAt l j
def RootOk (l : List S30) : Prop:=(rd_T30 l 0).f2 = 0∧(rd_T30 l 0).f3 = 0
def MaxFrom (l : List S30) (i : Int) : Prop:=∀ j,i≤j→j < (l.length : Int)→(rd_T30 l j).f1≤(rd_T30 l j).f4
def uu (l : List S30) (j : Int) : Int:=(rd_T30 l j).f1
def OwnFrom (l : List S30) (i : Int) : Prop:=∀ j,i≤j→j < (l.length : Int)→ks l (uu l) j l.length≤(rd_T30 l j).f1
structure Valid (l : List S30) : Prop where
  len1 : 1≤l.length
  len8 : l.length≤8
  tree : TreeFrom l 0
  amts : AmtFrom l 0
  root : RootOk l
  maxs : MaxFrom l 0
  owns : OwnFrom l 0
theorem treeAt_iff (l : List S30) (i : Int) (hi : 0≤i) : treeAt l i↔(i = 0∧(rd_T30 l i).f0 = -1)∨(0 < i∧0≤(rd_T30 l i).f0∧(rd_T30 l i).f0 < i):=by
  unfold treeAt
  constructor
  · intro ⟨h1,h2⟩
    by_cases c : i = 0
    · exact Or.inl ⟨c,h1 c⟩
    · exact Or.inr ⟨by omega,h2 (by omega)⟩
  · intro h
    rcases h with ⟨c,h⟩ | ⟨c,h⟩
    · exact ⟨fun _ => h,fun h2 => by omega⟩
    · exact ⟨fun h2 => by omega,fun _ => h⟩
theorem from_step {P : Int→Prop} {n : Nat} {i : Int} (hi : i < (n : Int)) : (∀ j,i≤j→j < (n : Int)→P j)↔P i∧(∀ j,i + 1≤j→j < (n : Int)→P j):=by
  constructor
  · intro h;exact ⟨h i (by omega) hi,fun j h1 h2 => h j (by omega) h2⟩
  · intro ⟨h,h'⟩ j h1 h2
    by_cases c : j = i
    · rw [c];exact h
    · exact h' j (by omega) h2
theorem tree_ev (l : List S30) (h8 : l.length≤8) : ∀ (d : Nat) (i : Int),0≤i→i + d = (l.length : Int)→∃ b,Ev (fun k => accounts_tree.l0 k l (l.length : Int) i) b∧(b = true↔TreeFrom l i):=by
  intro d
  induction d with
  | zero =>
    intro i h0 h1
    refine ⟨true,ev1 0 (fun k _ => by simp only [accounts_tree.l0];rw [if_neg (by omega)]),?_⟩
    simp only [true_iff]
    intro j h2 h3;omega
  | succ d ih =>
    intro i h0 h1
    have hlt : i < (l.length : Int):=by omega
    obtain ⟨b,⟨K,hK⟩,hb⟩:=ih (i + 1) (by omega) (by omega)
    have step : ∀ c : Bool,∀ k,K + 1≤k→accounts_tree.j1 k l (l.length : Int) i c = some (if c = true then false else b):=by
      intro c k hk
      obtain ⟨m,rfl⟩ : ∃ m,k = m + 1:=⟨k - 1,by omega⟩
      simp only [accounts_tree.j1]
      cases c with
      | true => rfl
      | false => rw [if_neg (by simp),if_neg (by simp),wr64 (by omega) (by omega)];exact hK m (by omega)
    have e : TreeFrom l i↔treeAt l i∧TreeFrom l (i + 1):=from_step hlt
    rw [treeAt_iff l i h0] at e
    by_cases c0 : i = 0
    · by_cases c1 : (rd_T30 l i).f0 = -1
      · refine ⟨b,ev1 (K + 1) (fun k hk => by simp only [accounts_tree.l0];rw [if_pos hlt,if_pos h0,if_pos hlt,if_pos c0,if_pos c1,if_neg (by omega)];exact step false k hk),?_⟩
        rw [hb,e]
        exact ⟨fun h => ⟨Or.inl ⟨c0,c1⟩,h⟩,fun h => h.2⟩
      · refine ⟨false,ev1 (K + 1) (fun k hk => by simp only [accounts_tree.l0];rw [if_pos hlt,if_pos h0,if_pos hlt,if_pos c0,if_neg c1];exact step true k hk),?_⟩
        rw [e]
        simp only [Bool.false_eq_true,false_iff]
        rintro ⟨h | h,_⟩
        · exact c1 h.2
        · omega
    · by_cases c1 : (rd_T30 l i).f0 < 0
      · refine ⟨false,ev1 (K + 1) (fun k hk => by simp only [accounts_tree.l0];rw [if_pos hlt,if_pos h0,if_pos hlt,if_neg c0,if_pos (by omega),if_pos c1];exact step true k hk),?_⟩
        rw [e]
        simp only [Bool.false_eq_true,false_iff]
        rintro ⟨h | h,_⟩ <;> omega
      · by_cases c2 : (rd_T30 l i).f0≥i
        · refine ⟨false,ev1 (K + 1) (fun k hk => by simp only [accounts_tree.l0];rw [if_pos hlt,if_pos h0,if_pos hlt,if_neg c0,if_pos (by omega),if_neg c1,decide_eq_true c2];exact step true k hk),?_⟩
          rw [e]
          simp only [Bool.false_eq_true,false_iff]
          rintro ⟨h | h,_⟩ <;> omega
        · refine ⟨b,ev1 (K + 1) (fun k hk => by simp only [accounts_tree.l0];rw [if_pos hlt,if_pos h0,if_pos hlt,if_neg c0,if_pos (by omega),if_neg c1,decide_eq_false c2];exact step false k hk),?_⟩
          rw [hb,e]
          exact ⟨fun h => ⟨Or.inr ⟨by omega,by omega,by omega⟩,h⟩,fun h => h.2⟩
end Go.Proofs.Ytnmenfkmndnoaaa.Pr
