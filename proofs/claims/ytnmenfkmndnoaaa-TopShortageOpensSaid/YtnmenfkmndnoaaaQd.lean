/- Leaving pages: who is valid, and the sums inside the accounts. -/
import Derived.Test.YtnmenfkmndnoaaaQc
import Derived.Test.YtnmenfkmndnoaaaFestoversref20inside
import Derived.Test.YtnmenfkmndnoaaaFestoversref20valid
import Derived.Test.YtnmenfkmndnoaaaM1
import Derived.Test.YtnmenfkmndnoaaaM2
set_option linter.unusedVariables false
set_option linter.unusedSimpArgs false
namespace Go.Proofs.Ytnmenfkmndnoaaa.Pr
open Go.RowKit Go.Proofs.YtnmenfkmndnoaaaW.PrintWords Go.Proofs.YtnmenfkmndnoaaaW.PrintLast Go.Proofs.YtnmenfkmndnoaaaW.PrintMore
def LvFrom (v : List Int) (i : Int) : Prop:=∀ j,i≤j→j < (v.length : Int)→amt (rd v j)
def LvOk (l : List S30) (v : List Int) : Prop:=Valid l∧v.length = l.length∧LvFrom v 0
theorem valid_l0 (v : List Int) (h8 : v.length≤8) : ∀ (d : Nat) (i : Int),0≤i→i + d = (v.length : Int)→∃ b,Ev (fun k => protection_valid.l0 k v (v.length : Int) i) b∧(b = true↔LvFrom v i):=by
  intro d
  induction d with
  | zero =>
    intro i h0 hi
    refine ⟨true,ev1 0 (fun k _ => by simp only [protection_valid.l0];rw [if_neg (by omega)]),?_⟩
    simp only [true_iff]
    intro j h2 h3;omega
  | succ d ih =>
    intro i h0 hi
    have hlt : i < (v.length : Int):=by omega
    obtain ⟨b,⟨K,hK⟩,hb⟩:=ih (i + 1) (by omega) (by omega)
    have step : ∀ c : Bool,∀ k,K + 1≤k→protection_valid.j2 k v (v.length : Int) i c = some (if c = true then false else b):=by
      intro c k hk
      obtain ⟨m,rfl⟩ : ∃ m,k = m + 1:=⟨k - 1,by omega⟩
      simp only [protection_valid.j2]
      cases c with
      | true => rfl
      | false => rw [if_neg (by simp),if_neg (by simp),wr64 (by omega) (by omega)];exact hK m (by omega)
    have e : LvFrom v i↔amt (rd v i)∧LvFrom v (i + 1):=from_step hlt
    by_cases c : amt (rd v i)
    · refine ⟨b,ev1 (K + 1) (fun k hk => ?_),?_⟩
      · simp only [protection_valid.l0]
        rw [if_pos hlt,if_pos h0,if_pos hlt,if_neg (by unfold amt at c;omega),decide_eq_false (by unfold amt at c;omega)]
        exact step false k hk
      · rw [hb,e];exact ⟨fun h => ⟨c,h⟩,fun h => h.2⟩
    · refine ⟨false,ev1 (K + 1) (fun k hk => ?_),?_⟩
      · simp only [protection_valid.l0]
        rw [if_pos hlt,if_pos h0,if_pos hlt]
        by_cases c2 : rd v i < 0
        · rw [if_pos c2];exact step true k hk
        · rw [if_neg c2,decide_eq_true (by unfold amt at c;omega)];exact step true k hk
      · rw [e];simp only [Bool.false_eq_true,false_iff];exact fun h => c h.1
theorem valid20_l0 (v : List Int) (h8 : v.length≤8) : ∀ (d : Nat) (i : Int),0≤i→i + d = (v.length : Int)→∃ b,Ev (fun k => estoversref20_valid.l0 k v i) b∧(b = true↔LvFrom v i):=by
  intro d
  induction d with
  | zero =>
    intro i h0 hi
    refine ⟨true,ev1 0 (fun k _ => by simp only [estoversref20_valid.l0];rw [if_neg (by omega)]),?_⟩
    simp only [true_iff]
    intro j h2 h3;omega
  | succ d ih =>
    intro i h0 hi
    have hlt : i < (v.length : Int):=by omega
    obtain ⟨b,⟨K,hK⟩,hb⟩:=ih (i + 1) (by omega) (by omega)
    have step : ∀ c : Bool,∀ k,K + 1≤k→estoversref20_valid.j2 k v i c = some (if c = true then false else b):=by
      intro c k hk
      obtain ⟨m,rfl⟩ : ∃ m,k = m + 1:=⟨k - 1,by omega⟩
      simp only [estoversref20_valid.j2]
      cases c with
      | true => rfl
      | false => rw [if_neg (by simp),if_neg (by simp),wr64 (by omega) (by omega)];exact hK m (by omega)
    have e : LvFrom v i↔amt (rd v i)∧LvFrom v (i + 1):=from_step hlt
    by_cases c : amt (rd v i)
    · refine ⟨b,ev1 (K + 1) (fun k hk => ?_),?_⟩
      · simp only [estoversref20_valid.l0]
        rw [if_pos hlt,if_pos h0,if_neg (by unfold amt at c;omega),decide_eq_false (by unfold amt at c;omega)]
        exact step false k hk
      · rw [hb,e];exact ⟨fun h => ⟨c,h⟩,fun h => h.2⟩
    · refine ⟨false,ev1 (K + 1) (fun k hk => ?_),?_⟩
      · simp only [estoversref20_valid.l0]
        rw [if_pos hlt,if_pos h0]
        by_cases c2 : rd v i < 0
        · rw [if_pos c2];exact step true k hk
        · rw [if_neg c2,decide_eq_true (by unfold amt at c;omega)];exact step true k hk
      · rw [e];simp only [Bool.false_eq_true,false_iff];exact fun h => c h.1
theorem valid_ev (l : List S30) (v : List Int) : ∃ b,Ev (fun k => protection_valid.f k l v) b∧Ev (fun k => estoversref20_valid.f k l v) b∧(b = true↔LvOk l v):=by
  obtain ⟨K1,H1⟩:=check_ev l
  obtain ⟨K2,H2⟩:=check19_ev l
  dsimp only at H1 H2
  by_cases c : chk l = 0
  · have hv:=(chk_zero l).1 c
    by_cases c2 : v.length = l.length
    · obtain ⟨b,⟨K3,H3⟩,q3⟩:=valid_l0 v (by have:=hv.len8;omega) v.length 0 (by omega) (by omega)
      obtain ⟨b',⟨K4,H4⟩,q4⟩:=valid20_l0 v (by have:=hv.len8;omega) v.length 0 (by omega) (by omega)
      obtain rfl : b = b':=by rw [Bool.eq_iff_iff,q3,q4]
      have e : ((v.length : Int) != (l.length : Int)) = false:=by simp [c2]
      refine ⟨b,ev0 (K1 + K3 + 1) (fun k hk => ?_),ev0 (K2 + K4 + 1) (fun k hk => ?_),?_⟩
      · unfold protection_valid.f
        rw [H1 k (by omega)]
        simp only [Option.bind_some]
        rw [if_pos c,e]
        obtain ⟨m,rfl⟩ : ∃ m,k = m + 1:=⟨k - 1,by omega⟩
        simp only [protection_valid.j0]
        rw [if_neg (by simp)]
        exact H3 m (by omega)
      · unfold estoversref20_valid.f
        rw [H2 k (by omega)]
        simp only [Option.bind_some]
        rw [if_pos c,e]
        obtain ⟨m,rfl⟩ : ∃ m,k = m + 1:=⟨k - 1,by omega⟩
        simp only [estoversref20_valid.j0]
        rw [if_neg (by simp)]
        exact H4 m (by omega)
      · rw [q3];exact ⟨fun h => ⟨hv,c2,h⟩,fun h => h.2.2⟩
    · have e : ((v.length : Int) != (l.length : Int)) = true:=by simp;omega
      refine ⟨false,ev0 (K1 + 1) (fun k hk => ?_),ev0 (K2 + 1) (fun k hk => ?_),?_⟩
      · unfold protection_valid.f
        rw [H1 k (by omega)]
        simp only [Option.bind_some]
        rw [if_pos c,e]
        obtain ⟨m,rfl⟩ : ∃ m,k = m + 1:=⟨k - 1,by omega⟩
        simp only [protection_valid.j0]
        rw [if_pos (by trivial)]
      · unfold estoversref20_valid.f
        rw [H2 k (by omega)]
        simp only [Option.bind_some]
        rw [if_pos c,e]
        obtain ⟨m,rfl⟩ : ∃ m,k = m + 1:=⟨k - 1,by omega⟩
        simp only [estoversref20_valid.j0]
        rw [if_pos (by trivial)]
      · simp only [Bool.false_eq_true,false_iff];exact fun h => c2 h.2.1
  · refine ⟨false,ev0 (K1 + 1) (fun k hk => ?_),ev0 (K2 + 1) (fun k hk => ?_),?_⟩
    · unfold protection_valid.f
      rw [H1 k (by omega)]
      simp only [Option.bind_some]
      rw [if_neg c]
      obtain ⟨m,rfl⟩ : ∃ m,k = m + 1:=⟨k - 1,by omega⟩
      simp only [protection_valid.j0]
      rw [if_pos (by trivial)]
    · unfold estoversref20_valid.f
      rw [H2 k (by omega)]
      simp only [Option.bind_some]
      rw [if_neg c]
      obtain ⟨m,rfl⟩ : ∃ m,k = m + 1:=⟨k - 1,by omega⟩
      simp only [estoversref20_valid.j0]
      rw [if_pos (by trivial)]
    · simp only [Bool.false_eq_true,false_iff];exact fun h => c ((chk_zero l).2 h.1)
theorem ks_set (l : List S30) (a : List Int) (y w z : Int) (hy0 : 0≤y) (hy1 : y < (a.length : Int)) : ∀ m : Nat,ks l (rd (a.set y.toNat w)) z m = ks l (rd a) z m + (if 1≤y∧y < (m : Int)∧(rd_T30 l y).f0 = z then w - rd a y else 0)
  | 0 => by rw [ks_zero',ks_zero',if_neg (by omega)];rfl
  | m + 1 => by
    rw [ks_succ,ks_succ,ks_set l a y w z hy0 hy1 m]
    by_cases c : 1≤m∧(rd_T30 l m).f0 = z
    · rw [if_pos c,if_pos c,rd_set _ _ _ _ hy0 hy1 (by omega)]
      by_cases e : (m : Int) = y
      · rw [if_pos e,if_neg (by omega),if_pos ⟨by omega,by omega,by rw [← e];exact c.2⟩,e];omega
      · rw [if_neg e]
        by_cases e2 : 1≤y∧y < (m : Int)∧(rd_T30 l y).f0 = z
        · rw [if_pos e2,if_pos ⟨e2.1,by omega,e2.2.2⟩];omega
        · rw [if_neg e2,if_neg (fun h => e2 ⟨h.1,by omega,h.2.2⟩)];omega
    · rw [if_neg c,if_neg c]
      by_cases e2 : 1≤y∧y < (m : Int)∧(rd_T30 l y).f0 = z
      · rw [if_pos e2,if_pos ⟨e2.1,by omega,e2.2.2⟩];omega
      · rw [if_neg e2,if_neg]
        rintro ⟨h1,h2,h3⟩
        by_cases e : (m : Int) = y
        · exact c ⟨by omega,by rw [e];exact h3⟩
        · exact e2 ⟨h1,by omega,h3⟩
theorem ks_tail {l : List S30} {f g : Int→Int} {x : Int} (i : Nat) : ∀ d : Nat,(∀ j : Int,(i : Int)≤j→j < ((i + d : Nat) : Int)→f j = g j)→ks l f x (i + d) - ks l f x i = ks l g x (i + d) - ks l g x i
  | 0,_ => by simp
  | d + 1,h => by
    have e:=ks_tail (l:=l) (f:=f) (g:=g) (x:=x) i d (fun j h1 h2 => h j h1 (by omega))
    have e2:=h ((i + d : Nat) : Int) (by omega) (by omega)
    rw [show i + (d + 1) = (i + d) + 1 by omega,ks_succ,ks_succ]
    by_cases c : 1≤i + d∧(rd_T30 l ((i + d : Nat) : Int)).f0 = x
    · rw [if_pos c,if_pos c,e2];omega
    · rw [if_neg c,if_neg c];omega
def IsIn (l : List S30) (v r : List Int) : Prop:=r.length = l.length∧∀ x : Int,0≤x→x < (l.length : Int)→rd r x = rd v x + ks l (rd r) x l.length
theorem isIn_uniq {l : List S30} (ht : TreeFrom l 0) {v r r' : List Int} (h : IsIn l v r) (h' : IsIn l v r') : r = r':=by
  refine rd_ext (by rw [h.1,h'.1]) ?_
  have key : ∀ (d : Nat) (x : Int),0≤x→x + d = (l.length : Int)→∀ j,x≤j→j < (l.length : Int)→rd r j = rd r' j:=by
    intro d
    induction d with
    | zero => intro x h0 h1 j h2 h3;omega
    | succ d ih =>
      intro x h0 h1 j h2 h3
      have hi:=ih (x + 1) (by omega) (by omega)
      by_cases e : j = x
      · subst e
        rw [h.2 j h0 h3,h'.2 j h0 h3,ks_congr l j l.length (fun c h4 h5 h6 => hi c (by have:=(ht c (by omega) h5).2 (by omega);omega) h5)]
      · exact hi j (by omega) h3
  intro j h0 h1
  exact key l.length 0 (by omega) (by omega) j h0 (by have:=h.1;omega)
def bnd : Nat→Int
  | 0 => 0
  | d + 1 => 2 * bnd d + 1048576
theorem bnd_pos : ∀ d,0≤bnd d
  | 0 => by simp [bnd]
  | d + 1 => by have:=bnd_pos d;simp only [bnd];omega
theorem bnd_le : ∀ d,d≤8→bnd d≤268435456:=by
  intro d hd
  match d,hd with
  | 0,_ => decide
  | 1,_ => decide
  | 2,_ => decide
  | 3,_ => decide
  | 4,_ => decide
  | 5,_ => decide
  | 6,_ => decide
  | 7,_ => decide
  | 8,_ => decide
def InAt (l : List S30) (v r : List Int) (i : Nat) (B : Int) : Prop:=r.length = l.length∧(∀ x : Int,0≤x→x < (l.length : Int)→rd r x = (if (i : Int)≤x then rd v x else 0) + (ks l (rd r) x l.length - ks l (rd r) x i))∧∀ x : Int,0≤x→x < (l.length : Int)→0≤rd r x∧rd r x≤B
theorem inside_ev (l : List S30) (v : List Int) (h8 : l.length≤8) (ht : TreeFrom l 0) (hl : v.length = l.length) (hv : LvFrom v 0) : ∀ (i : Nat) (r : List Int),i≤l.length→InAt l v r i (bnd (l.length - i))→∃ q,Ev (fun k => protection_inside.l0 k l v r ((i : Int) - 1)) q∧IsIn l v q∧∀ x : Int,0≤x→x < (l.length : Int)→0≤rd q x∧rd q x≤268435456:=by
  intro i
  induction i with
  | zero =>
    intro r hi hr
    refine ⟨r,ev1 0 (fun k _ => by simp only [protection_inside.l0];rw [if_neg (by omega)]),⟨hr.1,fun x h0 h1 => ?_⟩,fun x h0 h1 => ?_⟩
    · have:=hr.2.1 x h0 h1
      rw [if_pos (by omega),ks_zero'] at this
      omega
    · have:=hr.2.2 x h0 h1
      have:=bnd_le (l.length - 0) (by omega)
      omega
  | succ i ih =>
    intro r hi hr
    obtain ⟨hrl,hre,hrb⟩:=hr
    have e0 : ((i + 1 : Nat) : Int) - 1 = (i : Int):=by omega
    have hvi:=hv i (by omega) (by omega)
    unfold amt at hvi
    have hB0:=bnd_pos (l.length - (i + 1))
    have hB8:=bnd_le (l.length - (i + 1)) (by omega)
    have hBB : bnd (l.length - i) = 2 * bnd (l.length - (i + 1)) + 1048576:=by
      rw [show l.length - i = (l.length - (i + 1)) + 1 by omega];rfl
    have hbi:=hrb i (by omega) (by omega)
    have hei:=hre i (by omega) (by omega)
    rw [if_neg (by omega)] at hei
    by_cases c : 0 < i
    · have htr:=(ht i (by omega) (by omega)).2 (by omega)
      have hbp:=hrb (rd_T30 l i).f0 (by omega) (by omega)
      obtain ⟨q,⟨K,hK⟩,hq⟩:=ih ((r.set (i : Int).toNat (rd r i + rd v i)).set (rd_T30 l i).f0.toNat (rd r (rd_T30 l i).f0 + (rd r i + rd v i))) (by omega) (by
        refine ⟨by simp [hrl],fun x hx0 hx1 => ?_,fun x hx0 hx1 => ?_⟩
        · have hx:=hre x hx0 hx1
          have ea:=ks_set l (r.set (i : Int).toNat (rd r i + rd v i)) (rd_T30 l i).f0 (rd r (rd_T30 l i).f0 + (rd r i + rd v i)) x (by omega) (by simp;omega) l.length
          have eb:=ks_set l (r.set (i : Int).toNat (rd r i + rd v i)) (rd_T30 l i).f0 (rd r (rd_T30 l i).f0 + (rd r i + rd v i)) x (by omega) (by simp;omega) i
          have ec:=ks_set l r i (rd r i + rd v i) x (by omega) (by omega) l.length
          have ed:=ks_set l r i (rd r i + rd v i) x (by omega) (by omega) i
          have ee:=ks_succ l (rd r) x i
          rw [if_neg (show ¬ (1≤(i : Int)∧(i : Int) < (i : Int)∧(rd_T30 l i).f0 = x) by omega)] at ed
          have ef : (if 1≤(rd_T30 l i).f0∧(rd_T30 l i).f0 < (l.length : Int)∧(rd_T30 l (rd_T30 l i).f0).f0 = x then rd r (rd_T30 l i).f0 + (rd r i + rd v i) - rd (r.set (i : Int).toNat (rd r i + rd v i)) (rd_T30 l i).f0 else 0) = (if 1≤(rd_T30 l i).f0∧(rd_T30 l i).f0 < (i : Int)∧(rd_T30 l (rd_T30 l i).f0).f0 = x then rd r (rd_T30 l i).f0 + (rd r i + rd v i) - rd (r.set (i : Int).toNat (rd r i + rd v i)) (rd_T30 l i).f0 else 0):=by
            by_cases q : 1≤(rd_T30 l i).f0∧(rd_T30 l (rd_T30 l i).f0).f0 = x
            · rw [if_pos ⟨q.1,by omega,q.2⟩,if_pos ⟨q.1,by omega,q.2⟩]
            · rw [if_neg (fun h => q ⟨h.1,h.2.2⟩),if_neg (fun h => q ⟨h.1,h.2.2⟩)]
          have eg : (if 1≤(i : Int)∧(i : Int) < (l.length : Int)∧(rd_T30 l i).f0 = x then rd r i + rd v i - rd r i else 0) = if (rd_T30 l i).f0 = x then rd v i else 0:=by
            by_cases q : (rd_T30 l i).f0 = x
            · rw [if_pos ⟨by omega,by omega,q⟩,if_pos q];omega
            · rw [if_neg (fun h => q h.2.2),if_neg q]
          have eh : (if 1≤i∧(rd_T30 l i).f0 = x then rd r i else 0) = if (rd_T30 l i).f0 = x then rd r i else 0:=by
            by_cases q : (rd_T30 l i).f0 = x
            · rw [if_pos ⟨by omega,q⟩,if_pos q]
            · rw [if_neg (fun h => q h.2),if_neg q]
          rw [eg] at ec
          rw [eh] at ee
          rw [ea,eb,ec,ed,ef,rd_set _ _ _ _ (by omega) (by simp;omega) hx0,rd_set _ _ _ _ (by omega) (by omega) hx0]
          by_cases e1 : x = (rd_T30 l i).f0
          · rw [if_pos e1,if_neg (show ¬ (i : Int)≤x by omega),if_pos e1.symm]
            rw [if_neg (show ¬ ((i + 1 : Nat) : Int)≤x by omega)] at hx
            rw [if_pos e1.symm] at ee
            rw [e1] at hx ee ⊢
            omega
          · rw [if_neg e1,if_neg (show ¬ (rd_T30 l i).f0 = x from fun h => e1 h.symm)]
            rw [if_neg (show ¬ (rd_T30 l i).f0 = x from fun h => e1 h.symm)] at ee
            by_cases e2 : x = (i : Int)
            · rw [if_pos e2,if_pos (show (i : Int)≤x by omega)]
              rw [if_neg (show ¬ ((i + 1 : Nat) : Int)≤x by omega)] at hx
              rw [e2] at hx ee ⊢
              omega
            · rw [if_neg e2]
              by_cases e3 : (i : Int)≤x
              · rw [if_pos e3]
                rw [if_pos (show ((i + 1 : Nat) : Int)≤x by omega)] at hx
                omega
              · rw [if_neg e3]
                rw [if_neg (show ¬ ((i + 1 : Nat) : Int)≤x by omega)] at hx
                omega
        · have hx:=hrb x hx0 hx1
          rw [rd_set _ _ _ _ (by omega) (by simp;omega) hx0,rd_set _ _ _ _ (by omega) (by omega) hx0,hBB]
          split
          · omega
          · split <;> omega)
      refine ⟨q,ev1 K (fun k hk => ?_),hq⟩
      rw [e0]
      simp only [protection_inside.l0]
      have w1 : wrap64 (rd r i + rd v i) = rd r i + rd v i:=wr64 (by omega) (by omega)
      rw [if_pos (by omega),if_pos (by omega),if_pos (by omega),if_pos (by omega),w1]
      simp only [Option.bind_some]
      have w2 : wrap64 (rd (r.set (i : Int).toNat (rd r i + rd v i)) (rd_T30 l i).f0 + rd (r.set (i : Int).toNat (rd r i + rd v i)) i) = rd r (rd_T30 l i).f0 + (rd r i + rd v i):=by
        rw [rd_set _ _ _ _ (by omega) (by omega) (by omega),rd_set _ _ _ _ (by omega) (by omega) (by omega),if_neg (by omega),if_pos rfl]
        exact wr64 (by omega) (by omega)
      rw [if_pos (by omega),if_pos (by omega),if_pos (by omega),if_pos (by omega),w2,wr64 (by omega) (by omega)]
      exact hK k hk
    · obtain rfl : i = 0:=by omega
      obtain ⟨q,⟨K,hK⟩,hq⟩:=ih (r.set ((0 : Nat) : Int).toNat (rd r ((0 : Nat) : Int) + rd v ((0 : Nat) : Int))) (by omega) (by
        refine ⟨by simp [hrl],fun x hx0 hx1 => ?_,fun x hx0 hx1 => ?_⟩
        · have hx:=hre x hx0 hx1
          have ec:=ks_set l r ((0 : Nat) : Int) (rd r ((0 : Nat) : Int) + rd v ((0 : Nat) : Int)) x (by omega) (by omega) l.length
          rw [if_neg (by omega)] at ec
          have ee:=ks_succ l (rd r) x 0
          rw [if_neg (by omega)] at ee
          rw [ec,ks_zero',rd_set _ _ _ _ (by omega) (by omega) hx0,if_pos (show ((0 : Nat) : Int)≤x by omega)]
          rw [ks_zero'] at ee
          by_cases e2 : x = ((0 : Nat) : Int)
          · rw [if_pos e2]
            rw [if_neg (show ¬ ((0 + 1 : Nat) : Int)≤x by omega)] at hx
            rw [e2] at hx ee ⊢
            omega
          · rw [if_neg e2]
            rw [if_pos (show ((0 + 1 : Nat) : Int)≤x by omega)] at hx
            omega
        · have hx:=hrb x hx0 hx1
          rw [rd_set _ _ _ _ (by omega) (by omega) hx0,hBB]
          split <;> omega)
      refine ⟨q,ev1 K (fun k hk => ?_),hq⟩
      rw [e0]
      simp only [protection_inside.l0]
      rw [if_pos (by omega),if_pos (by omega),if_pos (by omega),if_pos (by omega),wr64 (i:=rd r ((0 : Nat) : Int) + rd v ((0 : Nat) : Int)) (by omega) (by omega)]
      simp only [Option.bind_some]
      rw [if_neg (by omega),wr64 (by omega) (by omega)]
      exact hK k hk
theorem inside_f (l : List S30) (v : List Int) (h : LvOk l v) : ∃ q,Ev (fun k => protection_inside.f k l v) q∧IsIn l v q∧∀ x : Int,0≤x→x < (l.length : Int)→0≤rd q x∧rd q x≤268435456:=by
  obtain ⟨hV,hl,hv⟩:=h
  obtain ⟨q,⟨K,hK⟩,hq⟩:=inside_ev l v hV.len8 hV.tree hl hv l.length (List.replicate l.length 0) (by omega) (by
    refine ⟨by simp,fun x h0 h1 => ?_,fun x h0 h1 => ?_⟩
    · rw [rd_replicate,if_neg (by omega)];omega
    · rw [rd_replicate];exact ⟨by omega,bnd_pos _⟩)
  refine ⟨q,ev0 K (fun k hk => ?_),hq⟩
  have:=hV.len8
  unfold protection_inside.f
  rw [if_pos (by omega),if_pos (by omega),wr64 (by omega) (by omega)]
  exact hK k hk
end Go.Proofs.Ytnmenfkmndnoaaa.Pr
