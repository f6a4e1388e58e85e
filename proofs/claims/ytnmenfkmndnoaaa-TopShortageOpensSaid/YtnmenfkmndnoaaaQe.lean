/- The reference's sums, paths in the tree, Guarded in the program and in the reference. -/
import Derived.Test.YtnmenfkmndnoaaaQd
import Derived.Test.YtnmenfkmndnoaaaFestoversref20Guarded
import Derived.Test.YtnmenfkmndnoaaaM2
set_option linter.unusedVariables false
set_option linter.unusedSimpArgs false
namespace Go.Proofs.Ytnmenfkmndnoaaa.Pr
open Go.RowKit Go.Proofs.YtnmenfkmndnoaaaW.PrintWords Go.Proofs.YtnmenfkmndnoaaaW.PrintLast Go.Proofs.YtnmenfkmndnoaaaW.PrintMore
theorem inside20_l1 (l : List S30) (v : List Int) (h8 : l.length≤8) (ht : TreeFrom l 0) (hl : v.length = l.length) (hv : LvFrom v 0) (m : Nat) (hm : m < l.length) : ∀ (d : Nat) (y : Int) (a : List Int),0≤y→y < (d : Int)→y≤m→a.length = l.length →
    (∀ z : Int,0≤z→z < (l.length : Int)→rd a z + (if z = y then rd v m else 0) = (if z < ((m + 1 : Nat) : Int) then rd v z else 0) + ks l (rd a) z l.length) →
    (∀ z : Int,0≤z→z < (l.length : Int)→0≤rd a z∧rd a z≤(m + 1 : Int) * 1048576)→(∀ z : Int,0≤z→z≤y→rd a z≤(m : Int) * 1048576) →
    ∃ q,(∃ K,∀ k,K≤k→∃ k',k≤k' + K∧estoversref20_inside.l1 k l v a m y = estoversref20_inside.l0 k' l v q ((m + 1 : Nat) : Int))∧q.length = l.length∧(∀ z : Int,0≤z→z < (l.length : Int)→rd q z = (if z < ((m + 1 : Nat) : Int) then rd v z else 0) + ks l (rd q) z l.length)∧(∀ z : Int,0≤z→z < (l.length : Int)→0≤rd q z∧rd q z≤(m + 1 : Int) * 1048576):=by
  intro d
  induction d with
  | zero => intro y a h0 h1;omega
  | succ d ih =>
    intro y a h0 hd hym hal hrel hb1 hb2
    have hvm:=hv m (by omega) (by omega)
    unfold amt at hvm
    have hby:=hb1 y h0 (by omega)
    have hby2:=hb2 y h0 (by omega)
    have w : wrap64 (rd a y + rd v m) = rd a y + rd v m:=wr64 (by omega) (by omega)
    have hset : ∀ z : Int,0≤z→rd (a.set y.toNat (rd a y + rd v m)) z = if z = y then rd a y + rd v m else rd a z:=fun z hz => rd_set _ _ _ _ h0 (by omega) hz
    have hb1' : ∀ z : Int,0≤z→z < (l.length : Int)→0≤rd (a.set y.toNat (rd a y + rd v m)) z∧rd (a.set y.toNat (rd a y + rd v m)) z≤(m + 1 : Int) * 1048576:=by
      intro z hz0 hz1
      rw [hset z hz0]
      split
      · omega
      · exact hb1 z hz0 hz1
    by_cases c : 0 < y
    · have htr:=(ht y h0 (by omega)).2 c
      obtain ⟨q,⟨K,hK⟩,hq⟩:=ih (rd_T30 l y).f0 (a.set y.toNat (rd a y + rd v m)) htr.1 (by omega) (by omega) (by simp [hal]) (by
        intro z hz0 hz1
        have hz:=hrel z hz0 hz1
        rw [hset z hz0,ks_set l a y _ z h0 (by omega) l.length]
        by_cases e1 : z = y
        · rw [if_pos e1,if_neg (show ¬ z = (rd_T30 l y).f0 by omega),if_neg (show ¬ (1≤y∧y < (l.length : Int)∧(rd_T30 l y).f0 = z) by omega)]
          rw [if_pos e1] at hz
          rw [e1] at hz ⊢
          omega
        · rw [if_neg e1]
          rw [if_neg e1] at hz
          by_cases e2 : z = (rd_T30 l y).f0
          · rw [if_pos e2,if_pos (show 1≤y∧y < (l.length : Int)∧(rd_T30 l y).f0 = z from ⟨by omega,by omega,e2.symm⟩)];omega
          · rw [if_neg e2,if_neg (show ¬ (1≤y∧y < (l.length : Int)∧(rd_T30 l y).f0 = z) from fun h => e2 h.2.2.symm)];omega) hb1' (by
        intro z hz0 hz1
        rw [hset z hz0,if_neg (by omega)]
        exact hb2 z hz0 (by omega))
      refine ⟨q,⟨K + 1,fun k hk => ?_⟩,hq⟩
      obtain ⟨k2,rfl⟩ : ∃ k2,k = k2 + 1:=⟨k - 1,by omega⟩
      obtain ⟨k',hk',e'⟩:=hK k2 (by omega)
      refine ⟨k',by omega,?_⟩
      simp only [estoversref20_inside.l1]
      rw [if_pos (by omega),if_pos h0,if_pos (by omega),if_pos (by omega),if_pos (by omega),if_pos (by omega),w]
      exact e'
    · obtain rfl : y = 0:=by omega
      have hr0 : (rd_T30 l 0).f0 = -1:=(ht 0 (by omega) (by omega)).1 rfl
      refine ⟨a.set (0 : Int).toNat (rd a 0 + rd v m),⟨2,fun k hk => ?_⟩,by simp [hal],?_,hb1'⟩
      · obtain ⟨k2,rfl⟩ : ∃ k2,k = k2 + 1 + 1:=⟨k - 2,by omega⟩
        refine ⟨k2,by omega,?_⟩
        simp only [estoversref20_inside.l1]
        rw [if_pos (by omega),if_pos (by omega),if_pos (by omega),if_pos (by omega),if_pos (by omega),if_pos (by omega),w,hr0,if_neg (by omega),wr64 (by omega) (by omega)]
        rfl
      · intro z hz0 hz1
        have hz:=hrel z hz0 hz1
        rw [hset z hz0,ks_set l a 0 _ z (by omega) (by omega) l.length,if_neg (show ¬ (1≤(0 : Int)∧(0 : Int) < (l.length : Int)∧(rd_T30 l 0).f0 = z) by omega)]
        by_cases e1 : z = 0
        · rw [if_pos e1]
          rw [if_pos e1] at hz
          rw [e1] at hz ⊢
          omega
        · rw [if_neg e1]
          rw [if_neg e1] at hz
          omega
theorem inside20_l0 (l : List S30) (v : List Int) (h8 : l.length≤8) (ht : TreeFrom l 0) (hl : v.length = l.length) (hv : LvFrom v 0) : ∀ (d m : Nat) (a : List Int),m + d = l.length→a.length = l.length→(∀ z : Int,0≤z→z < (l.length : Int)→rd a z = (if z < (m : Int) then rd v z else 0) + ks l (rd a) z l.length)→(∀ z : Int,0≤z→z < (l.length : Int)→0≤rd a z∧rd a z≤(m : Int) * 1048576)→∃ q,Ev (fun k => estoversref20_inside.l0 k l v a m) q∧IsIn l v q:=by
  intro d
  induction d with
  | zero =>
    intro m a hm hal hrel hb
    refine ⟨a,ev1 0 (fun k _ => by simp only [estoversref20_inside.l0];rw [if_neg (by omega)]),hal,fun x h0 h1 => ?_⟩
    have:=hrel x h0 h1
    rw [if_pos (by omega)] at this
    exact this
  | succ d ih =>
    intro m a hm hal hrel hb
    obtain ⟨q,⟨K1,H1⟩,hql,hqr,hqb⟩:=inside20_l1 l v h8 ht hl hv m (by omega) (m + 1) m a (by omega) (by omega) (by omega) hal (by
      intro z hz0 hz1
      have hz:=hrel z hz0 hz1
      by_cases e1 : z = (m : Int)
      · rw [if_pos e1,if_pos (show z < ((m + 1 : Nat) : Int) by omega)]
        rw [if_neg (show ¬ z < (m : Int) by omega)] at hz
        rw [e1] at hz ⊢
        omega
      · rw [if_neg e1]
        by_cases e2 : z < (m : Int)
        · rw [if_pos e2] at hz;rw [if_pos (show z < ((m + 1 : Nat) : Int) by omega)];omega
        · rw [if_neg e2] at hz;rw [if_neg (show ¬ z < ((m + 1 : Nat) : Int) by omega)];omega) (by
      intro z hz0 hz1
      have:=hb z hz0 hz1
      omega) (by
      intro z hz0 hz1
      exact (hb z hz0 (by omega)).2)
    obtain ⟨q2,⟨K2,H2⟩,hq2⟩:=ih (m + 1) q (by omega) hql hqr (fun z h0 h1 => by have:=hqb z h0 h1;omega)
    refine ⟨q2,ev1 (K1 + K2) (fun k hk => ?_),hq2⟩
    simp only [estoversref20_inside.l0]
    rw [if_pos (by omega)]
    obtain ⟨k',hk',e'⟩:=H1 k (by omega)
    rw [e']
    exact H2 k' (by omega)
theorem inside20_f (l : List S30) (v : List Int) (h : LvOk l v) : ∃ q,Ev (fun k => estoversref20_inside.f k l v) q∧IsIn l v q:=by
  obtain ⟨hV,hl,hv⟩:=h
  obtain ⟨q,⟨K,hK⟩,hq⟩:=inside20_l0 l v hV.len8 hV.tree hl hv l.length 0 (List.replicate l.length 0) (by omega) (by simp) (by
    intro z h0 h1
    have e : ks l (rd (List.replicate l.length 0)) z l.length = 0:=by
      have:=ks_bd l (rd (List.replicate l.length 0)) z l.length (B:=0) (by omega) (fun j _ _ => by rw [rd_replicate];omega)
      omega
    rw [rd_replicate,if_neg (by omega),e];rfl) (fun z h0 h1 => by rw [rd_replicate];omega)
  refine ⟨q,ev0 K (fun k hk => ?_),hq⟩
  have:=hV.len8
  unfold estoversref20_inside.f
  rw [if_pos (by omega),if_pos (by omega)]
  exact hK k hk
theorem sums_ev (l : List S30) (v : List Int) (h : LvOk l v) : ∃ q,Ev (fun k => protection_inside.f k l v) q∧Ev (fun k => estoversref20_inside.f k l v) q∧IsIn l v q∧∀ x : Int,0≤x→x < (l.length : Int)→0≤rd q x∧rd q x≤268435456:=by
  obtain ⟨q,h1,h2,h3⟩:=inside_f l v h
  obtain ⟨q',h1',h2'⟩:=inside20_f l v h
  obtain rfl:=isIn_uniq h.1.tree h2 h2'
  exact ⟨q,h1,h1',h2,h3⟩
inductive Anc (l : List S30) (x : Int) : Int→Prop
  | here : Anc l x x
  | up {c : Int} : 0 < c→Anc l x (rd_T30 l c).f0→Anc l x c
theorem Anc.le {l : List S30} (ht : TreeFrom l 0) {x c : Int} (h : Anc l x c) (hc : c < (l.length : Int)) : x≤c:=by
  induction h with
  | here => omega
  | up h1 _ ih =>
    have:=(ht _ (by omega) hc).2 h1
    have:=ih (by omega)
    omega
theorem anc_zero {l : List S30} (ht : TreeFrom l 0) (c : Int) (h0 : 0≤c) (h1 : c < (l.length : Int)) : Anc l 0 c :=
  up_ind ht (P:=fun c => Anc l 0 c) Anc.here (fun c hc _ _ _ ih => Anc.up hc ih) c h0 h1
theorem anc_iff {l : List S30} {x c : Int} : Anc l x c↔x = c∨(0 < c∧Anc l x (rd_T30 l c).f0):=by
  constructor
  · intro h
    cases h with
    | here => exact Or.inl rfl
    | up h1 h2 => exact Or.inr ⟨h1,h2⟩
  · rintro (h | ⟨h1,h2⟩)
    · rw [h];exact Anc.here
    · exact Anc.up h1 h2
def GP (l : List S30) (q : List Int) (low : Bool) (y : Int) : Prop:=(rd_T30 l y).f1 - rd q y≤(if low = true then (rd_T30 l y).f3 else (rd_T30 l y).f2)
def Gd (l : List S30) (q : List Int) (e : Int) (low : Bool) (x : Int) : Prop:=(∃ y,Anc l y x∧e < y∧GP l q low y)∨¬ Anc l e x
theorem gd_step {l : List S30} {q : List Int} {e : Int} {low : Bool} {x : Int} (hx0 : 0 < x) (hex : e < x) : Gd l q e low x↔GP l q low x∨Gd l q e low (rd_T30 l x).f0:=by
  unfold Gd
  constructor
  · rintro (⟨y,h1,h2,h3⟩ | h)
    · rcases anc_iff.1 h1 with h4 | ⟨_,h4⟩
      · rw [h4] at h3;exact Or.inl h3
      · exact Or.inr (Or.inl ⟨y,h4,h2,h3⟩)
    · exact Or.inr (Or.inr fun h2 => h (Anc.up hx0 h2))
  · rintro (h | ⟨y,h1,h2,h3⟩ | h)
    · exact Or.inl ⟨x,Anc.here,hex,h⟩
    · exact Or.inl ⟨y,Anc.up hx0 h1,h2,h3⟩
    · refine Or.inr fun h2 => ?_
      rcases anc_iff.1 h2 with h3 | ⟨_,h3⟩
      · omega
      · exact h h3
theorem gd_end {l : List S30} (ht : TreeFrom l 0) {q : List Int} {e : Int} {low : Bool} {x : Int} (hx1 : x < (l.length : Int)) (hex : ¬ e < x) : Gd l q e low x↔x≠e:=by
  unfold Gd
  constructor
  · rintro (⟨y,h1,h2,h3⟩ | h)
    · have:=h1.le ht hx1;omega
    · intro h2;rw [h2] at h;exact h Anc.here
  · intro h
    exact Or.inr fun h2 => h (by have:=h2.le ht hx1;omega)
theorem guarded_l0 (l : List S30) (q : List Int) (hV : Valid l) (hq : q.length = l.length) (hqb : ∀ x : Int,0≤x→x < (l.length : Int)→0≤rd q x∧rd q x≤268435456) (low : Bool) (e : Int) (he : 0≤e) : ∀ (x : Int),0≤x→x < (l.length : Int)→∀ g : Bool,∃ b,Ev (fun k => protection_Guarded.l0 k l low q e g x) b∧(b = true↔g = true∨Gd l q e low x):=by
  have fin : ∀ x : Int,0≤x→x < (l.length : Int)→¬ e < x→∀ g : Bool,∃ b,Ev (fun k => protection_Guarded.l0 k l low q e g x) b∧(b = true↔g = true∨Gd l q e low x):=by
    intro x h0 h1 hex g
    rw [gd_end hV.tree h1 hex]
    cases g with
    | true => exact ⟨true,ev1 0 (fun k _ => by simp only [protection_Guarded.l0];rw [if_neg (by omega),if_pos (by trivial)]),by simp⟩
    | false => exact ⟨x != e,ev1 0 (fun k _ => by simp only [protection_Guarded.l0];rw [if_neg (by omega),if_neg (by simp)]),by simp⟩
  refine up_ind hV.tree (P:=fun x => ∀ g : Bool,∃ b,Ev (fun k => protection_Guarded.l0 k l low q e g x) b∧(b = true↔g = true∨Gd l q e low x)) (fun g => fin 0 (by omega) (by have:=hV.len1;omega) (by omega) g) ?_
  intro x hx0 hx1 hp0 hp1 ih g
  by_cases hex : e < x
  · have hb:=hqb x (by omega) hx1
    have hu:=(hV.amts x (by omega) hx1).1
    unfold amt at hu
    have w : wrap64 ((rd_T30 l x).f1 - rd q x) = (rd_T30 l x).f1 - rd q x:=wr64 (by omega) (by omega)
    rw [gd_step hx0 hex]
    cases g with
    | true =>
      obtain ⟨b,⟨K,hK⟩,hb2⟩:=ih true
      refine ⟨b,ev1 K (fun k hk => ?_),by rw [hb2];simp⟩
      simp only [protection_Guarded.l0]
      rw [if_pos (by omega),if_pos (by omega),if_pos hx1]
      cases low with
      | true => rw [if_pos (by trivial),if_pos (by trivial)];exact hK k hk
      | false => rw [if_neg (by simp),if_pos (by trivial)];exact hK k hk
    | false =>
      cases low with
      | true =>
        obtain ⟨b,⟨K,hK⟩,hb2⟩:=ih (decide ((rd_T30 l x).f1 - rd q x≤(rd_T30 l x).f3))
        refine ⟨b,ev1 K (fun k hk => ?_),?_⟩
        · simp only [protection_Guarded.l0]
          rw [if_pos (by omega),if_pos (by omega),if_pos hx1,if_pos (by trivial),if_neg (by simp),if_pos (by omega),w]
          exact hK k hk
        · rw [hb2];simp [GP]
      | false =>
        obtain ⟨b,⟨K,hK⟩,hb2⟩:=ih (decide ((rd_T30 l x).f1 - rd q x≤(rd_T30 l x).f2))
        refine ⟨b,ev1 K (fun k hk => ?_),?_⟩
        · simp only [protection_Guarded.l0]
          rw [if_pos (by omega),if_pos (by omega),if_pos hx1,if_neg (by simp),if_neg (by simp),if_pos (by omega),w]
          exact hK k hk
        · rw [hb2];simp [GP]
  · exact fin x (by omega) hx1 hex g
def ArgOk (l : List S30) (x s : Int) : Prop:=0≤x∧x < (l.length : Int)∧-1≤s∧s < (l.length : Int)
theorem guarded_bad (l : List S30) (v : List Int) (x s : Int) (low : Bool) (h : ¬ (LvOk l v∧ArgOk l x s)) : Ev (fun k => protection_Guarded.f k l v x s low) true:=by
  obtain ⟨b,⟨K,hK⟩,_,hb⟩:=valid_ev l v
  dsimp only at hK
  have j : ∀ k,1≤k→protection_Guarded.j0 k l v x s low true = some true:=by
    intro k hk
    obtain ⟨m,rfl⟩ : ∃ m,k = m + 1:=⟨k - 1,by omega⟩
    simp only [protection_Guarded.j0]
    rw [if_pos (by trivial)]
  refine ev0 (K + 1) (fun k hk => ?_)
  unfold protection_Guarded.f
  rw [hK k (by omega)]
  simp only [Option.bind_some]
  cases b with
  | false => rw [if_neg (by simp)];exact j k (by omega)
  | true =>
    rw [if_pos (by trivial)]
    by_cases c1 : x < 0
    · rw [if_pos c1];exact j k (by omega)
    · rw [if_neg c1]
      by_cases c2 : x≥(l.length : Int)
      · rw [if_pos c2];exact j k (by omega)
      · rw [if_neg c2]
        by_cases c3 : s < -1
        · rw [if_pos c3];exact j k (by omega)
        · rw [if_neg c3,decide_eq_true (Classical.byContradiction fun c4 => h ⟨hb.1 rfl,by omega,by omega,by omega,by omega⟩)];exact j k (by omega)
theorem guarded_ok (l : List S30) (v q : List Int) (x s : Int) (low : Bool) (hL : LvOk l v) (hA : ArgOk l x s) (hq : IsIn l v q) : ∃ b,Ev (fun k => protection_Guarded.f k l v x s low) b∧(b = true↔Gd l q (mx s 0) low x):=by
  obtain ⟨b,⟨K,hK⟩,_,hb⟩:=valid_ev l v
  obtain rfl:=hb.2 hL
  obtain ⟨q',⟨K2,H2⟩,_,hq',hqb⟩:=sums_ev l v hL
  obtain rfl:=isIn_uniq hL.1.tree hq hq'
  obtain ⟨h1,h2,h3,h4⟩:=hA
  obtain ⟨b,⟨K3,H3⟩,hb3⟩:=guarded_l0 l q hL.1 hq.1 hqb low (mx s 0) (by unfold mx;split <;> omega) x h1 h2 false
  dsimp only at hK H2 H3
  refine ⟨b,ev0 (K + K2 + K3 + 1) (fun k hk => ?_),by rw [hb3];simp⟩
  unfold protection_Guarded.f
  rw [hK k (by omega)]
  simp only [Option.bind_some]
  rw [if_pos (by trivial),if_neg (by omega),if_neg (by omega),if_neg (by omega),decide_eq_false (by omega)]
  obtain ⟨m,rfl⟩ : ∃ m,k = m + 1:=⟨k - 1,by omega⟩
  simp only [protection_Guarded.j0]
  rw [if_neg (by simp),H2 m (by omega)]
  simp only [Option.bind_some]
  exact H3 m (by omega)
end Go.Proofs.Ytnmenfkmndnoaaa.Pr
