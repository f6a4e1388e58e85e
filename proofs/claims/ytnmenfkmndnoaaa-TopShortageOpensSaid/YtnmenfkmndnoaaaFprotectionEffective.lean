-- Written by a program of this session (a changed copy of the kit's printer). Not trusted: Lean checks it.
import Derived.Test.YtnmenfkmndnoaaaM0
import Derived.Test.YtnmenfkmndnoaaaM1
import Derived.Test.YtnmenfkmndnoaaaM2
namespace Go.Proofs.Ytnmenfkmndnoaaa.Pr
open Go.RowKit Go.Proofs.YtnmenfkmndnoaaaW.PrintWords Go.Proofs.YtnmenfkmndnoaaaW.PrintLast Go.Proofs.YtnmenfkmndnoaaaW.PrintMore
attribute [local go_sem] max2_int min2_int max_two min_two max_three min_three max_four min_four
set_option linter.unusedVariables false
set_option linter.unusedSimpArgs false
theorem tree_inv (l : List S30) (h8 : l.length≤8) : ∀ (k : Nat) (i : Int),0≤i→(accounts_tree.l0 k l (l.length : Int) i = some true→∀ j,i≤j→j < (l.length : Int)→treeAt l j)∧(∀ b,i < (l.length : Int)→accounts_tree.j1 k l (l.length : Int) i b = some true→b = false∧∀ j,i + 1≤j→j < (l.length : Int)→treeAt l j)
 | 0 => fun i h0 => ⟨fun h => by simp [accounts_tree.l0] at h,fun b _ h => by simp [accounts_tree.j1] at h⟩
 | k + 1 => fun i h0 => by
  constructor
  ·
   intro h j hij hj
   have hlt : i < (l.length : Int):=by omega
   simp only [accounts_tree.l0] at h;rw [if_pos hlt,if_pos h0,if_pos hlt] at h
   have key : ∀ b,accounts_tree.j1 k l (l.length : Int) i b = some true→(b = false→treeAt l i)→treeAt l j:=by
    intro b hb ht;obtain ⟨e,hr⟩:=(tree_inv l h8 k i h0).2 b hlt hb;by_cases e2 : j = i
    rotate_left
    · exact hr j (by omega) hj
    rw [e2];exact ht e
   by_cases c0 : i = 0
   rotate_left
   ·
    rw [if_neg c0,if_pos (by omega)] at h;by_cases c1 : (rd_T30 l i).f0 < 0
    rotate_left
    · rw [if_neg c1] at h;exact key _ h (fun e => ⟨fun h2 => absurd h2 c0,fun _ => ⟨by omega,by have:=of_decide_eq_false e;omega⟩⟩)
    rw [if_pos c1] at h;exact key _ h (fun e => by cases e)
   rw [if_pos c0] at h;by_cases c1 : (rd_T30 l i).f0 = -1
   rotate_left
   · rw [if_neg c1] at h;exact key _ h (fun e => by cases e)
   rw [if_pos c1,if_neg (by omega)] at h;exact key _ h (fun _ => ⟨fun _ => c1,fun h2 => absurd h2 (by omega)⟩)
  ·
   intro b hlt h;simp only [accounts_tree.j1] at h
   cases b with
    | true => simp at h
    | false =>
     rw [if_neg (by simp),wr64 (by omega) (by omega)] at h;exact ⟨rfl,(tree_inv l h8 k (i + 1) (by omega)).1 h⟩
theorem in_some (n : Int) : ∃ b,accounts_in.f n = some b∧(b = true↔amt n):=by
 unfold accounts_in.f amt
 by_cases h : n≥0
 rotate_left
 · rw [if_neg h];exact ⟨_,rfl,by simp;omega⟩
 rw [if_pos h];exact ⟨_,rfl,by simp;omega⟩
theorem amounts_inv (l : List S30) (h8 : l.length≤8) : ∀ (k : Nat) (i : Int),0≤i→(accounts_amounts.l0 k l l (l.length : Int) i = some true→(∀ j,i≤j→j < (l.length : Int)→amtAt l j)∧0 < l.length∧(rd_T30 l 0).f2 = 0∧(rd_T30 l 0).f3 = 0)∧(∀ b,i < (l.length : Int)→accounts_amounts.j1 k l l (l.length : Int) i b = some true→b = false∧(∀ j,i + 1≤j→j < (l.length : Int)→amtAt l j)∧0 < l.length∧(rd_T30 l 0).f2 = 0∧(rd_T30 l 0).f3 = 0)
 | 0 => fun i h0 => ⟨fun h => by simp [accounts_amounts.l0] at h,fun b _ h => by simp [accounts_amounts.j1] at h⟩
 | k + 1 => fun i h0 => by
  constructor
  ·
   intro h;simp only [accounts_amounts.l0] at h;by_cases hlt : i < (l.length : Int)
   rotate_left
   ·
    rw [if_neg hlt] at h;by_cases hp : 0 < (l.length : Int)
    rotate_left
    · rw [if_neg hp] at h;simp at h
    rw [if_pos hp] at h;by_cases c : (rd_T30 l 0).f2 = 0
    rotate_left
    · rw [if_neg c] at h;simp at h
    rw [if_pos c] at h;exact ⟨fun j h1 h2 => absurd h2 (by omega),by omega,c,by simpa using h⟩
   rw [if_pos hlt,if_pos h0,if_pos hlt] at h
   have key : ∀ b,accounts_amounts.j1 k l l (l.length : Int) i b = some true→(b = false→amtAt l i)→(∀ j,i≤j→j < (l.length : Int)→amtAt l j)∧0 < l.length∧(rd_T30 l 0).f2 = 0∧(rd_T30 l 0).f3 = 0:=by
    intro b hb ht;obtain ⟨e,hr,h2⟩:=(amounts_inv l h8 k i h0).2 b hlt hb;refine ⟨fun j hij hj => ?_,h2⟩;by_cases e2 : j = i
    rotate_left
    · exact hr j (by omega) hj
    rw [e2];exact ht e
   obtain ⟨b1,e1,q1⟩:=in_some (rd_T30 l i).f1;obtain ⟨b2,e2,q2⟩:=in_some (rd_T30 l i).f2;obtain ⟨b3,e3,q3⟩:=in_some (rd_T30 l i).f3;obtain ⟨b4,e4,q4⟩:=in_some (rd_T30 l i).f4;rw [e1,e2,e3,e4] at h;simp only [Option.bind_some] at h
   cases b1 with
    | false => exact key _ h (fun e => by cases e)
    | true =>
     cases b2 with
      | false => exact key _ h (fun e => by cases e)
      | true =>
       cases b3 with
        | false => exact key _ h (fun e => by cases e)
        | true =>
         exact key _ h (fun e => ⟨q1.1 rfl,q2.1 rfl,q3.1 rfl,q4.1 (by simpa using e)⟩)
  ·
   intro b hlt h;simp only [accounts_amounts.j1] at h
   cases b with
    | true => simp at h
    | false =>
     rw [if_neg (by simp),wr64 (by omega) (by omega)] at h;exact ⟨rfl,(amounts_inv l h8 k (i + 1) (by omega)).1 h⟩
theorem check_inv (k : Nat) (l : List S30) (h : accounts_Check.f k l = some 0) : 1≤l.length∧l.length≤8∧(∀ j : Int,0≤j→j < (l.length : Int)→treeAt l j)∧(∀ j : Int,0≤j→j < (l.length : Int)→amtAt l j)∧(rd_T30 l 0).f2 = 0∧(rd_T30 l 0).f3 = 0:=by
 unfold accounts_Check.f at h
 have key : ∀ b,accounts_Check.j0 k l b = some 0→b = false∧(l.length≤8→(∀ j : Int,0≤j→j < (l.length : Int)→treeAt l j)∧(∀ j : Int,0≤j→j < (l.length : Int)→amtAt l j)∧(rd_T30 l 0).f2 = 0∧(rd_T30 l 0).f3 = 0):=by
  intro b hb
  cases k with
   | zero => simp [accounts_Check.j0] at hb
   | succ k =>
    simp only [accounts_Check.j0] at hb
    cases b with
     | true => simp at hb
     | false =>
      refine ⟨rfl,fun h8 => ?_⟩;rw [if_neg (by simp)] at hb;obtain ⟨t1,e1,hb⟩:=Option.bind_eq_some_iff.mp hb
      cases t1 with
       | false => simp at hb
       | true =>
        rw [if_pos rfl] at hb;obtain ⟨t2,e2,hb⟩:=Option.bind_eq_some_iff.mp hb
        cases t2 with
         | false => simp at hb
         | true =>
          refine ⟨fun j h1 h2 => (tree_inv l h8 k 0 (by omega)).1 e1 j h1 h2,?_⟩;obtain ⟨q1,_,q2⟩:=(amounts_inv l h8 k 0 (by omega)).1 e2;exact ⟨fun j h1 h2 => q1 j h1 h2,q2⟩
 by_cases c : (l.length : Int) < 1
 rotate_left
 · rw [if_neg c] at h;obtain ⟨e,q⟩:=key _ h;have:=of_decide_eq_false e;exact ⟨by omega,by omega,q (by omega)⟩
 rw [if_pos c] at h;have:=(key _ h).1
 simp at this
set_option maxHeartbeats 1000000 in
theorem wanted.calls (A0 : Option Addr) (c0 : Nat) (l0 : List (S30)) (i : Int) (b : Nat) (w : World) (hr0 : Kd.C k30 w A0 l0.length l0) (hb : w.cell? ⟨b,0,none⟩ = some (.slice A0 l0.length c0)) (hi0 : 0≤i) (hi1 : i < (l0.length : Int)) :
 Calls Try.prog 71 #[.int .i64 i,.pointer (some ⟨b,0,none⟩)] w fun e w' => e = .returned (.int .i64 (mn (rd_T30 l0 i).f2 (rd_T30 l0 i).f1))∧Drawn0 w w':=by
 obtain ⟨ad,e0,hx0,hx1,hx2,hx3,hx4⟩:=at_T30 hr0 i hi0 hi1;subst e0;have p1 : decide (0≤i) = true:=decide_eq_true hi0;have p2 : decide (i < (l0.length : Int)) = true:=decide_eq_true hi1;clear hr0
 go_enter Try.func71,Try.ntmps71
 go_wp2;go_quiet (fail)
 go_wp2
 all_goals
  go_ret;refine ⟨congrArg Ending.returned (congrArg (Value.int IntKind.i64) ?_),⟨_,rfl⟩⟩
  unfold mn
  split <;> omega
def eff_bd (r : List Int) : Prop:=∀ j : Int,0≤rd r j∧rd r j≤1048576
theorem rd_set' (xs : List Int) (k : Nat) (v j : Int) : rd (xs.set k v) j = v∨rd (xs.set k v) j = rd xs j:=by
 unfold rd
 rw [List.getD_eq_getElem?_getD,List.getD_eq_getElem?_getD,List.getElem?_set];by_cases h : k = j.toNat
 rotate_left
 · rw [if_neg h];exact Or.inr rfl
 rw [if_pos h];by_cases h2 : k < xs.length
 rotate_left
 ·
  rw [if_neg h2]
  right
  rw [← h,List.getElem?_eq_none (by omega)]
 rw [if_pos h2];exact Or.inl rfl
theorem eff_bd_set (r : List Int) (k : Nat) (v : Int) (h : eff_bd r) (h0 : 0≤v) (h1 : v≤1048576) : eff_bd (r.set k v):=by
 intro j
 rcases rd_set' r k v j with e | e
 · rw [e];exact ⟨h0,h1⟩
 · rw [e];exact h j
theorem mul_bd {m g : Int} (hm0 : 0≤m) (hm1 : m≤1048576) (hg0 : 0≤g) (hg1 : g≤1048576) : 0≤m * g∧m * g≤1099511627776:=by
 constructor
 · exact Int.mul_nonneg hm0 hg0
 ·
  have:=Int.mul_le_mul hm1 hg1 hg0 (by omega : (0 : Int)≤1048576)
  omega
theorem share_bd {m g t : Int} (hm0 : 0≤m) (hm1 : m≤1048576) (hg0 : 0≤g) (hg1 : g≤1048576) (ht : g < t) : wrap64 (Int.tdiv (wrap64 (m * g)) t) = m * g / t∧0≤m * g / t∧m * g / t≤m:=by
 obtain ⟨h0,h1⟩:=mul_bd hm0 hm1 hg0 hg1
 have e1 : wrap64 (m * g) = m * g:=by unfold wrap64;omega
 have e2 : Int.tdiv (m * g) t = m * g / t:=Int.tdiv_eq_ediv_of_nonneg h0;have h2 : 0≤m * g / t:=Int.ediv_nonneg h0 (by omega)
 have h3 : m * g / t≤m:=by
  apply Int.ediv_le_of_le_mul (by omega);exact Int.mul_le_mul_of_nonneg_left (by omega) hm0
 rw [e1,e2];refine ⟨?_,h2,h3⟩;generalize m * g / t = q at h2 h3
 unfold wrap64;omega
def eff_sums (l : List S30) : Nat→List Int→List Int
 | 0,s => s
 | m + 1,s => eff_sums l m (s.set (rd_T30 l ((m + 1 : Nat) : Int)).f0.toNat (wrap64 (rd s (rd_T30 l ((m + 1 : Nat) : Int)).f0 + mn (rd_T30 l ((m + 1 : Nat) : Int)).f2 (rd_T30 l ((m + 1 : Nat) : Int)).f1)))
theorem eff_sums_step (l : List S30) (x : Int) (s : List Int) (hx : 0 < x) : eff_sums l x.toNat s = eff_sums l (x - 1).toNat (s.set (rd_T30 l x).f0.toNat (wrap64 (rd s (rd_T30 l x).f0 + mn (rd_T30 l x).f2 (rd_T30 l x).f1))):=by
 obtain ⟨m,rfl⟩ : ∃ m : Nat,x = ((m + 1 : Nat) : Int):=⟨(x - 1).toNat,by omega⟩
 have e : (((m + 1 : Nat) : Int) - 1).toNat = m:=by omega
 rw [e,Int.toNat_natCast];rfl
def eff_step (l : List S30) (t r : List Int) (x : Int) : List Int :=
 if rd t (rd_T30 l x).f0 > rd r (rd_T30 l x).f0 then (r.set x.toNat (mn (rd_T30 l x).f2 (rd_T30 l x).f1)).set x.toNat (wrap64 (Int.tdiv (wrap64 (mn (rd_T30 l x).f2 (rd_T30 l x).f1 * rd r (rd_T30 l x).f0)) (rd t (rd_T30 l x).f0)))
 else r.set x.toNat (mn (rd_T30 l x).f2 (rd_T30 l x).f1)
def eff_pass (l : List S30) (t : List Int) : Nat→Int→List Int→List Int
 | 0,_,r => r
 | d + 1,x,r => eff_pass l t d (x + 1) (eff_step l t r x)
theorem eff_pass_step (l : List S30) (t : List Int) (x : Int) (r : List Int) (h0 : 0≤x) (h1 : x < (l.length : Int)) : eff_pass l t ((l.length : Int) - x).toNat x r = eff_pass l t ((l.length : Int) - (x + 1)).toNat (x + 1) (eff_step l t r x):=by
 obtain ⟨d,hd⟩ : ∃ d : Nat,((l.length : Int) - x).toNat = d + 1:=⟨((l.length : Int) - x).toNat - 1,by omega⟩
 have e : ((l.length : Int) - (x + 1)).toNat = d:=by omega
 rw [hd,e];rfl
theorem rdOf_set_same (xs : List Int) (i v : Int) (h0 : i < (xs.length : Int)) (h1 : 0≤i) : rdOf 0 (xs.set i.toNat v) i = v:=by
 unfold rdOf
 have : i.toNat < xs.length:=by omega
 simp [List.getD_eq_getElem?_getD,List.getElem?_set,this]
def protection_Effective.eff' (l : List S30) : List Int :=
 eff_pass l (eff_sums l ((l.length : Int) - 1).toNat (List.replicate l.length 0)) (l.length - 1) 1 ((List.replicate l.length 0).set 0 (rd_T30 l 0).f1)
theorem R_away {W : World} {base n c g : Nat} {xs : List Int} (h : Kd.R (Kd.int .i64) 3 W base (fun _ => True) (.slice (some ⟨g,0,none⟩) n c) xs) {p : Addr} (hne : g≠p.block) (u : Value) : Kd.R (Kd.int .i64) 3 (W.setCell p u) base (fun _ => True) (.slice (some ⟨g,0,none⟩) n c) xs :=
 Kd.R_mono (Kd.R_far (Kd.R_far1 h rfl (g:=p.block) (by simp [Value.ownBlock];omega)) (fun k h => h.2) u) (fun _ _ => trivial)
theorem eff_step_bd (l : List S30) (t r : List Int) (x : Int) (hm0 : 0≤mn (rd_T30 l x).f2 (rd_T30 l x).f1) (hm1 : mn (rd_T30 l x).f2 (rd_T30 l x).f1≤1048576) (h : eff_bd r) : eff_bd (eff_step l t r x):=by
 unfold eff_step
 split
 ·
  rename_i hgt
  have hg:=h (rd_T30 l x).f0;obtain ⟨e,h0,h1⟩:=share_bd hm0 hm1 hg.1 hg.2 hgt;rw [e];exact eff_bd_set _ _ _ (eff_bd_set _ _ _ h hm0 hm1) h0 (by omega)
 · exact eff_bd_set _ _ _ h hm0 hm1
set_option maxRecDepth 100000 in
set_option maxHeartbeats 4000000 in
theorem effective_ok (k : Nat) (A0 : Option Addr) (c0 : Nat) (l0 : List (S30)) (w : World) (hr0 : Kd.C k30 w A0 l0.length l0) (hc0 : l0.length≤c0) (hA : accounts_Check.f k l0 = some 0)
 (hn1 : 1≤l0.length) (hn8 : l0.length≤8) (htree : ∀ i : Int,0 < i→i < (l0.length : Int)→0≤(rd_T30 l0 i).f0∧(rd_T30 l0 i).f0 < i) (hbd : eff_bd ((List.replicate l0.length 0).set 0 (rd_T30 l0 0).f1)) (hmn : ∀ i : Int,0 < i→i < (l0.length : Int)→0≤mn (rd_T30 l0 i).f2 (rd_T30 l0 i).f1∧mn (rd_T30 l0 i).f2 (rd_T30 l0 i).f1≤1048576) :
 Calls Try.prog 43 #[.slice A0 l0.length c0] w fun e w' => ∃ v0_ : Value,e = .returned (.tuple #[v0_,.int .i64 0])∧Kd.R (Kd.int .i64) 3 w' w.heap.size (fun _ => True) v0_ (protection_Effective.eff' l0)∧Below w.heap.size w w':=by
 have hu22:=Try.underlying22;have HR0:=Aside0.mk hr0;have HC0:=Aside0.mk hc0;have HT:=Aside0.mk htree;have HA:=Aside0.mk hA;have HBD:=Aside0.mk hbd;have HMN:=Aside0.mk hmn;clear hr0 hc0 htree hA hbd hmn;have HB:=Aside0.mk (Below.refl w.heap.size w)
 go_enter Try.func43,Try.ntmps43
 go_wp2_with (first | ((with_reducible refine gate_dst (N:=1) rfl ?_);refine box_event rfl (N:=1) rfl (cs:=#[.slice A0 l0.length c0]) (t:=22) (by first | (go_simp;done) | (go_simp;rfl)) ?_;intro b hg w1 hbox hb;have HB1:=Aside0.mk (below_step HB.out hb);have HG:=Aside0.mk (show w.heap.size≤b by rw [hg];exact Nat.le_refl _);have hcb : w1.cell? ⟨b,0,none⟩ = some (.slice A0 l0.length c0):=(blk_cell hbox 0).trans rfl;have HBX:=Aside0.mk hbox;clear hg hb hbox HB) | (go_at_call 48;(refine (accounts_Check.calls k _ _ l0 0 _ (Kd.C_below HR0.out HB1.out) HC0.out HA.out).mono ?_);rintro e w2 ⟨rfl,hb⟩;have HB2:=Aside0.mk (below_step HB1.out hb);have hb2:=(hb.block b (blk_lt HBX.out)).trans HBX.out;have HBX2:=Aside0.mk hb2;clear hcb hb hb2 HBX HB1;have hcb : w2.cell? ⟨b,0,none⟩ = some (.slice A0 l0.length c0):=(blk_cell HBX2.out 0).trans rfl) | ((with_reducible refine gate_dst (N:=20) rfl ?_);refine Kd.R_make (Kd.int .i64) _ 3 rfl (N:=20) rfl 50 _ _ rfl (l0.length : Int) rfl rfl Try.underlying50 (.int .i64 0) 8 info3 rfl (by decide) (by omega) 0 (ok:=fun _ => True) (okp:=fun _ => True) rfl (fun _ hk => hk) trivial (by omega) (by omega) (Below.refl _ _) (Nat.le_refl _) ?_;intro v6 w3 ho hb hg_ hnew_;clear hg_ hnew_;have HB3:=Aside0.mk (below_step HB2.out hb);have hb3:=(hb.block b (blk_lt HBX2.out)).trans HBX2.out;have HS:=Aside0.mk ho;have HLT:=Aside0.mk (blk_lt HBX2.out);have HWL2:=Aside0.mk (below_size HB2.out);have HBX3:=Aside0.mk hb3;clear hcb hb hb3 HBX2 HB2 ho;have hcb : w3.cell? ⟨b,0,none⟩ = some (.slice A0 l0.length c0):=(blk_cell HBX3.out 0).trans rfl))
 obtain ⟨g,cap,rfl,hg1,hg2,_⟩:=Kd.R_form HS.out (by simp;omega);have HGB:=Aside0.mk (show b < g by have:=HLT.out;omega);have HGW:=Aside0.mk (show w.heap.size≤g by have:=HGB.out;have:=HG.out;omega);simp only [List.length_replicate,Int.toNat_natCast] at HS ⊢
 go_loopw [7] (fun v7 wr => ∃ (x : Int) (s : List Int),0≤x∧x < (l0.length : Int)∧v7 = .int .i64 x∧Aside0 (s.length = l0.length)∧Aside0 (eff_sums l0 x.toNat s = eff_sums l0 ((l0.length : Int) - 1).toNat (List.replicate l0.length 0))∧Aside0 (Kd.R (Kd.int .i64) 3 wr w2.heap.size (fun _ => True) (.slice (some ⟨g,0,none⟩) l0.length cap) s)∧Aside0 (Below w.heap.size w wr)∧Aside0 (wr.heap[b]? = some (.cells #[.slice A0 l0.length c0] 22 (0,0)))) (fun v7 _ => (intOf v7).toNat)
 case atStart => exact ⟨(l0.length : Int) - 1,_,by omega,by omega,by rfl,⟨by simp⟩,⟨rfl⟩,HS,HB3,HBX3⟩
 case round =>
  clear hcb;obtain ⟨x,s,hx0,hx1,rfl,HL,HE,HSr,HBr,HXr⟩:=hrel;have hcbr : wr.cell? ⟨b,0,none⟩ = some (.slice A0 l0.length c0):=(blk_cell HXr.out 0).trans rfl;by_cases hx : 0 < x
  rotate_left
  ·
   obtain rfl : x = 0:=by omega
   have d1 : decide ((0 : Int) < 0) = false:=rfl;have HE2:=Aside0.mk (show s = eff_sums l0 ((l0.length : Int) - 1).toNat (List.replicate l0.length 0) from HE.out);clear HE;have HGL:=Aside0.mk (show g < wr.heap.size by obtain ⟨g',_,e1,_,h2,_⟩:=Kd.R_form HSr.out (by have:=HL.out;omega);injection e1 with e2;injection e2 with e3;injection e3 with e4;omega)
   obtain ⟨ad,e0,-,hu0,-,-,-⟩:=at_T30 HR0.out 0 (by omega) (by omega);subst e0
   go_wp2_with (first | ((with_reducible refine gate_dst (N:=43) rfl ?_);refine Kd.R_make (Kd.int .i64) _ 3 rfl (N:=43) rfl 50 _ _ rfl (l0.length : Int) rfl rfl Try.underlying50 (.int .i64 0) 8 info3 rfl (by decide) (by omega) 0 (ok:=fun _ => True) (okp:=fun _ => True) rfl (fun _ hk => hk) trivial (by omega) (by omega) (Below.refl _ _) (Nat.le_refl _) ?_;intro v8 w4 ho hb hg_ hnew_;(clear hg_ hnew_;obtain ⟨g2,cap2,rfl,hg3,hg4,_⟩:=Kd.R_form ho (by simp;omega);have HWL:=Aside0.mk (below_size HBr.out);have HB4:=Aside0.mk (below_step HBr.out hb);have hb3:=(hb.block b (blk_lt HXr.out)).trans HXr.out;have HS4:=Aside0.mk (Kd.R_below HSr.out hb);have HG2:=Aside0.mk hg3;have HX4:=Aside0.mk hb3;simp only [List.length_replicate,Int.toNat_natCast] at ho ⊢;have HO4:=Aside0.mk ho;clear hcbr hb hb3 HXr HBr HSr ho hg3 hg4;have hcb : w4.cell? ⟨b,0,none⟩ = some (.slice (some ad) l0.length c0):=(blk_cell HX4.out 0).trans rfl;have hu0' : w4.cell? ⟨ad.block,ad.off + 1,none⟩ = some (.int .i64 (rd_T30 l0 0).f1):=(by have h_:=pw_cell_below HB4.out hu0;simpa [Addr.add_zero'] using h_);have hr1 : w4.cell? ⟨g2,0,none⟩ = some (.int .i64 (rd (List.replicate l0.length 0) 0)):=(Kd.R_celln 0 HO4.out 0 (by omega) (by omega)).1;have hr2 : w4.frozen? ⟨g2,0,none⟩ = false:=(Kd.R_celln 0 HO4.out 0 (by omega) (by omega)).2;clear hu0)))
   have HS5:=Aside0.mk (R_away HS4.out (p:=⟨g2,0,none⟩) (show g≠g2 by have:=HGL.out;have:=HG2.out;omega) (.int .i64 (rd_T30 l0 0).f1));have HO5:=Aside0.mk (Kd.R_putn HO4.out 0 (rd_T30 l0 0).f1);have HGG:=Aside0.mk (show g < g2 by have:=HGL.out;have:=HG2.out;omega)
   have HB5:=Aside0.mk (below_set (j:=0) (v:=.int .i64 (rd_T30 l0 0).f1) HB4.out (show w.heap.size≤g2 by have:=HGW.out;have:=HGG.out;omega));have HX5:=Aside0.mk (blk_far (p:=⟨g2,0,none⟩) HX4.out (show b≠g2 by have:=HGB.out;have:=HGG.out;omega) (.int .i64 (rd_T30 l0 0).f1));clear HS4 HO4 HB4 HX4 hcb hu0' hr1 hr2 HS HB3 HBX3
   go_loopw [9] (fun v9 wr => ∃ (x : Int) (r : List Int),1≤x∧x≤(l0.length : Int)∧v9 = .int .i64 x∧Aside0 (r.length = l0.length)∧Aside0 (eff_bd r)∧Aside0 (eff_pass l0 s ((l0.length : Int) - x).toNat x r = eff_pass l0 s ((l0.length : Int) - 1).toNat 1 ((List.replicate l0.length 0).set 0 (rd_T30 l0 0).f1))∧Aside0 (Kd.R (Kd.int .i64) 3 wr w2.heap.size (fun _ => True) (.slice (some ⟨g,0,none⟩) l0.length cap) s)∧Aside0 (Kd.R (Kd.int .i64) 3 wr w.heap.size (fun _ => True) (.slice (some ⟨g2,0,none⟩) l0.length cap2) r)∧Aside0 (Below w.heap.size w wr)∧Aside0 (wr.heap[b]? = some (.cells #[.slice (some ad) l0.length c0] 22 (0,0)))) (fun v9 _ => l0.length - (intOf v9).toNat)
   case atStart => exact ⟨1,_,by omega,by omega,rfl,⟨by simp⟩,⟨HBD.out⟩,⟨rfl⟩,HS5,⟨Kd.R_lower HO5.out HWL.out⟩,HB5,HX5⟩
   case round =>
    clear HS5 HO5 HB5 HX5;obtain ⟨x,r,hx0,hx1,rfl,HRL,HRB,HRE,HSr,HOr,HBr,HXr⟩:=hrel;have hcbr : wr.cell? ⟨b,0,none⟩ = some (.slice (some ad) l0.length c0):=(blk_cell HXr.out 0).trans rfl;by_cases hx : x < (l0.length : Int)
    rotate_left
    ·
     obtain rfl : x = (l0.length : Int):=by omega
     have d3 : decide ((l0.length : Int) < (l0.length : Int)) = false:=decide_eq_false (by omega)
     have HRE2 : r = eff_pass l0 s ((l0.length : Int) - 1).toNat 1 ((List.replicate l0.length 0).set 0 (rd_T30 l0 0).f1):=by
      rw [← HRE.out,show ((l0.length : Int) - (l0.length : Int)).toNat = 0 by omega];rfl
     have HRE3:=Aside0.mk HRE2;clear HRE2 HRE;go_wp2;go_ret2;refine ⟨_,rfl,?_,HBr.out⟩
     have e1 : protection_Effective.eff' l0 = r:=by
      rw [HRE3.out,HE2.out]
      unfold protection_Effective.eff'
      rw [show ((l0.length : Int) - 1).toNat = l0.length - 1 by omega]
     rw [e1];exact HOr.out
    obtain ⟨ad',e0,hf0,-,-,-,-⟩:=at_T30 (Kd.C_below HR0.out HBr.out) x (by omega) hx;obtain rfl : ad = ad':=Option.some.inj e0;clear e0;obtain ⟨hp0,hp1⟩:=HT.out x (by omega) hx;have htp : wr.cell? ⟨g,(rd_T30 l0 x).f0.toNat,none⟩ = some (.int .i64 (rd s (rd_T30 l0 x).f0)):=(Kd.R_celln 0 HSr.out (rd_T30 l0 x).f0 hp0 (by omega)).1
    have hrp : wr.cell? ⟨g2,(rd_T30 l0 x).f0.toNat,none⟩ = some (.int .i64 (rd r (rd_T30 l0 x).f0)):=(Kd.R_celln 0 HOr.out (rd_T30 l0 x).f0 hp0 (by omega)).1;have hrx : wr.cell? ⟨g2,x.toNat,none⟩ = some (.int .i64 (rd r x)):=(Kd.R_celln 0 HOr.out x (by omega) hx).1;have hfx : wr.frozen? ⟨g2,x.toNat,none⟩ = false:=(Kd.R_celln 0 HOr.out x (by omega) hx).2
    have hp2 : (rd_T30 l0 x).f0 < (l0.length : Int):=by omega
    have hx00 : 0≤x:=by omega
    have d2 : decide (0≤x) = true:=decide_eq_true hx00;have d3 : decide (x < (l0.length : Int)) = true:=decide_eq_true hx;have d4 : decide (0≤(rd_T30 l0 x).f0) = true:=decide_eq_true hp0;have d5 : decide ((rd_T30 l0 x).f0 < (l0.length : Int)) = true:=decide_eq_true hp2;go_wp2;go_quiet (fail)
    go_upto_region 17 with (go_at_call 71;refine (wanted.calls (some ad) c0 l0 x b _ (Kd.C_drewN (Kd.C_below HR0.out HBr.out) _) hcbr hx00 hx).mono ?_;rintro e w' ⟨rfl,⟨nd,rfl⟩⟩)
    have hcx : ∀ m,((wr.drewN m).setCell ⟨g2,x.toNat,none⟩ (.int .i64 (mn (rd_T30 l0 x).f2 (rd_T30 l0 x).f1))).cell? ⟨g2,x.toNat,none⟩ = some (.int .i64 (mn (rd_T30 l0 x).f2 (rd_T30 l0 x).f1)):=fun m => by
     have:=(Kd.R_celln 0 (Kd.R_putn (Kd.R_drewN HOr.out m) x (mn (rd_T30 l0 x).f2 (rd_T30 l0 x).f1)) x (by omega) hx).1;rw [show rdOf 0 (r.set x.toNat (mn (rd_T30 l0 x).f2 (rd_T30 l0 x).f1)) x = mn (rd_T30 l0 x).f2 (rd_T30 l0 x).f1 from rdOf_set_same _ _ _ (by have:=HRL.out;omega) (by omega)] at this;exact this
    have hfx2 : ∀ m,((wr.drewN m).setCell ⟨g2,x.toNat,none⟩ (.int .i64 (mn (rd_T30 l0 x).f2 (rd_T30 l0 x).f1))).frozen? ⟨g2,x.toNat,none⟩ = false:=fun m => (Kd.R_celln 0 (Kd.R_putn (Kd.R_drewN HOr.out m) x (mn (rd_T30 l0 x).f2 (rd_T30 l0 x).f1)) x (by omega) hx).2
    by_cases hgt : rd r (rd_T30 l0 x).f0 < rd s (rd_T30 l0 x).f0
    rotate_left
    ·
     have d6 : decide (rd r (rd_T30 l0 x).f0 < rd s (rd_T30 l0 x).f0) = false:=decide_eq_false hgt;go_wp2
     go_roundw
     case rel => exact ⟨x + 1,r.set x.toNat (mn (rd_T30 l0 x).f2 (rd_T30 l0 x).f1),by omega,by omega,rfl,⟨by rw [List.length_set];exact HRL.out⟩,⟨by have:=eff_step_bd l0 s r x (HMN.out x (by omega) hx).1 (HMN.out x (by omega) hx).2 HRB.out;unfold eff_step at this;rw [if_neg (by omega)] at this;exact this⟩,⟨by rw [← HRE.out,eff_pass_step l0 s x r (by omega) hx];unfold eff_step;rw [if_neg (by omega)]⟩,⟨R_away (Kd.R_drewN HSr.out _) (by have:=HGG.out;show g≠g2;omega) _⟩,⟨Kd.R_putn (Kd.R_drewN HOr.out _) x _⟩,⟨below_set (b1_ HBr.out _) (by have:=HGW.out;have:=HGG.out;omega)⟩,⟨blk_far (blk_drewN HXr.out _) (by have:=HGB.out;have:=HGG.out;show b≠g2;omega) _⟩⟩
     case measure => simp [intOf];omega
    have d6 : decide (rd r (rd_T30 l0 x).f0 < rd s (rd_T30 l0 x).f0) = true:=decide_eq_true hgt
    have hne : ¬ rd s (rd_T30 l0 x).f0 = 0:=by have:=(HRB.out (rd_T30 l0 x).f0).1;omega
    have d7 : (rd s (rd_T30 l0 x).f0 == 0) = false:=beq_eq_false_iff_ne.mpr hne;go_wp2
    go_roundw
    case rel => exact ⟨x + 1,(r.set x.toNat (mn (rd_T30 l0 x).f2 (rd_T30 l0 x).f1)).set x.toNat (wrap64 (Int.tdiv (wrap64 (mn (rd_T30 l0 x).f2 (rd_T30 l0 x).f1 * rd r (rd_T30 l0 x).f0)) (rd s (rd_T30 l0 x).f0))),by omega,by omega,rfl,⟨by rw [List.length_set,List.length_set];exact HRL.out⟩,⟨by have:=eff_step_bd l0 s r x (HMN.out x (by omega) hx).1 (HMN.out x (by omega) hx).2 HRB.out;unfold eff_step at this;rw [if_pos (by omega)] at this;exact this⟩,⟨by rw [← HRE.out,eff_pass_step l0 s x r (by omega) hx];unfold eff_step;rw [if_pos (by omega)]⟩,⟨R_away (R_away (Kd.R_drewN HSr.out _) (by have:=HGG.out;show g≠g2;omega) _) (by have:=HGG.out;show g≠g2;omega) _⟩,⟨Kd.R_putn (Kd.R_putn (Kd.R_drewN HOr.out _) x _) x _⟩,⟨below_set (below_set (b1_ HBr.out _) (by have:=HGW.out;have:=HGG.out;omega)) (by have:=HGW.out;have:=HGG.out;omega)⟩,⟨blk_far (blk_far (blk_drewN HXr.out _) (by have:=HGB.out;have:=HGG.out;show b≠g2;omega) _) (by have:=HGB.out;have:=HGG.out;show b≠g2;omega) _⟩⟩
    case measure => simp [intOf];omega
  obtain ⟨ad,e0,hf0,-,-,-,-⟩:=at_T30 (Kd.C_below HR0.out HBr.out) x hx0 hx1;subst e0;obtain ⟨hp0,hp1⟩:=HT.out x hx hx1;have hsr:=(Kd.R_celln 0 HSr.out (rd_T30 l0 x).f0 hp0 (by omega)).1;have hsf:=(Kd.R_celln 0 HSr.out (rd_T30 l0 x).f0 hp0 (by omega)).2;replace hsr : wr.cell? ⟨g,(rd_T30 l0 x).f0.toNat,none⟩ = some (.int .i64 (rd s (rd_T30 l0 x).f0)):=hsr
  have hp2 : (rd_T30 l0 x).f0 < (l0.length : Int):=by omega
  have d1 : decide (0 < x) = true:=decide_eq_true hx;have d2 : decide (0≤x) = true:=decide_eq_true hx0;have d3 : decide (x < (l0.length : Int)) = true:=decide_eq_true hx1;have d4 : decide (0≤(rd_T30 l0 x).f0) = true:=decide_eq_true hp0;have d5 : decide ((rd_T30 l0 x).f0 < (l0.length : Int)) = true:=decide_eq_true hp2;go_wp2;have HSd:=Aside0.mk (Kd.R_drew HSr.out)
  have HBd:=Aside0.mk (b2_ HBr.out);have HXd:=Aside0.mk (blk_drew HXr.out)
  refine start_ (n:=14) (S:=fun w' => w'.cell? ⟨b,0,none⟩ = some (.slice (some ad) l0.length c0)∧w'.cell? (ad.add (x.toNat * 5)) = some (.int .i64 (rd_T30 l0 x).f0)∧w'.cell? ⟨g,(rd_T30 l0 x).f0.toNat,none⟩ = some (.int .i64 (rd s (rd_T30 l0 x).f0))) (ds:=[13]) #[F0,F0,F0,F0,F0,F0,F0,F0,F0,F0,F0,F0,F0,F0] (by kernel_rfl) rfl rfl ⟨hcbr,hf0,hsr⟩ (fun hHeld => ?_)
  refine pure_ (i:=0) (N:=some 28) (v:=?_) (a':=?_) #[T0,F0,F0,F0,F0,F0,F0,F0,F0,F0,F0,F0,F0,F0] rfl rfl (by kernel_rfl) (fun _ _ _ h => h) (Or.inl ⟨by rfl,?_⟩) ?_ ?_
  rotate_left
  · intro w';go_simp;with_reducible rfl
  rotate_left
  · simp only [Act.put,z0_,z1_,z2_,i64_w,i32_w];rfl
  refine take_ (i:=1) (N:=some 29) (v:=?_) (a':=?_) #[T0,T0,F0,F0,F0,F0,F0,F0,F0,F0,F0,F0,F0,F0] rfl rfl (by kernel_rfl) (fun _ _ _ h => h) (Or.inl ⟨by rfl,?_⟩) hHeld ?_ ?_
  rotate_left
  ·
   rintro w' ⟨s0,s1,s2⟩
   go_simp;with_reducible rfl
  rotate_left
  · simp only [Act.put,z0_,z1_,z2_,i64_w,i32_w];rfl
  refine pure_ (i:=2) (N:=some 30) (v:=?_) (a':=?_) #[T0,T0,T0,F0,F0,F0,F0,F0,F0,F0,F0,F0,F0,F0] rfl rfl (by kernel_rfl) (fun _ _ _ h => h) (Or.inl ⟨by rfl,?_⟩) ?_ ?_
  rotate_left
  · intro w';go_simp;with_reducible rfl
  rotate_left
  · simp only [Act.put,z0_,z1_,z2_,i64_w,i32_w];rfl
  refine pure_ (i:=3) (N:=some 31) (v:=?_) (a':=?_) #[T0,T0,T0,T0,F0,F0,F0,F0,F0,F0,F0,F0,F0,F0] rfl rfl (by kernel_rfl) (fun _ _ _ h => h) (Or.inl ⟨by rfl,?_⟩) ?_ ?_
  rotate_left
  · intro w';go_simp;with_reducible rfl
  rotate_left
  · simp only [Act.put,z0_,z1_,z2_,i64_w,i32_w];rfl
  refine pure_ (i:=4) (N:=some 32) (v:=?_) (a':=?_) #[T0,T0,T0,T0,T0,F0,F0,F0,F0,F0,F0,F0,F0,F0] rfl rfl (by kernel_rfl) (fun _ _ _ h => h) (Or.inl ⟨by rfl,?_⟩) ?_ ?_
  rotate_left
  · intro w';go_simp;with_reducible rfl
  rotate_left
  · simp only [Act.put,z0_,z1_,z2_,i64_w,i32_w];rfl
  refine take_ (i:=5) (N:=some 33) (v:=?_) (a':=?_) #[T0,T0,T0,T0,T0,T0,F0,F0,F0,F0,F0,F0,F0,F0] rfl rfl (by kernel_rfl) (fun _ _ _ h => h) (Or.inl ⟨by rfl,?_⟩) hHeld ?_ ?_
  rotate_left
  ·
   rintro w' ⟨s0,s1,s2⟩
   go_simp;with_reducible rfl
  rotate_left
  · simp only [Act.put,z0_,z1_,z2_,i64_w,i32_w];rfl
  refine pure_ (i:=6) (N:=some 34) (v:=?_) (a':=?_) #[T0,T0,T0,T0,T0,T0,T0,F0,F0,F0,F0,F0,F0,F0] rfl rfl (by kernel_rfl) (fun _ _ _ h => h) (Or.inl ⟨by rfl,?_⟩) ?_ ?_
  rotate_left
  · intro w';go_simp;with_reducible rfl
  rotate_left
  · simp only [Act.put,z0_,z1_,z2_,i64_w,i32_w];rfl
  refine take_ (i:=7) (N:=some 35) (v:=?_) (a':=?_) #[T0,T0,T0,T0,T0,T0,T0,T0,F0,F0,F0,F0,F0,F0] rfl rfl (by kernel_rfl) (fun _ _ _ h => h) (Or.inl ⟨by rfl,?_⟩) hHeld ?_ ?_
  rotate_left
  ·
   rintro w' ⟨s0,s1,s2⟩
   go_simp;with_reducible rfl
  rotate_left
  · simp only [Act.put,z0_,z1_,z2_,i64_w,i32_w];rfl
  refine pure_ (i:=8) (N:=some 36) (v:=?_) (a':=?_) #[T0,T0,T0,T0,T0,T0,T0,T0,T0,F0,F0,F0,F0,F0] rfl rfl (by kernel_rfl) (fun _ _ _ h => h) (Or.inl ⟨by rfl,?_⟩) ?_ ?_
  rotate_left
  · intro w';go_simp;with_reducible rfl
  rotate_left
  · simp only [Act.put,z0_,z1_,z2_,i64_w,i32_w];rfl
  refine pure_ (i:=9) (N:=some 37) (v:=?_) (a':=?_) #[T0,T0,T0,T0,T0,T0,T0,T0,T0,T0,F0,F0,F0,F0] rfl rfl (by kernel_rfl) (fun _ _ _ h => h) (Or.inl ⟨by rfl,?_⟩) ?_ ?_
  rotate_left
  · intro w';go_simp;with_reducible rfl
  rotate_left
  · simp only [Act.put,z0_,z1_,z2_,i64_w,i32_w];rfl
  refine one_ (i:=10) (N:=some 38) #[T0,T0,T0,T0,T0,T0,T0,T0,T0,T0,T0,F0,F0,F0] rfl rfl (by kernel_rfl) (by decide) (fun K hK => ?_);refine call_ 71 #[.int .i64 x,.pointer (some ⟨b,0,none⟩)] (by rfl) rfl ?_ ?_
  · first | (go_simp;done) | (go_simp;rfl)
  refine (wanted.calls (some ad) c0 l0 x b _ (Kd.C_below HR0.out HBd.out) hHeld.1 hx0 hx1).mono ?_
  rintro e w' ⟨rfl,⟨nd,rfl⟩⟩
  refine ⟨_,rfl,?_⟩;refine hK.out _ _ hHeld (fun hHeld => ?_);clear hK K;refine pure_ (i:=11) (N:=some 39) (v:=?_) (a':=?_) #[T0,T0,T0,T0,T0,T0,T0,T0,T0,T0,T0,T0,F0,F0] rfl rfl (by kernel_rfl) (fun _ _ _ h => h) (Or.inl ⟨by rfl,?_⟩) ?_ ?_
  rotate_left
  · intro w';go_simp;with_reducible rfl
  rotate_left
  · simp only [Act.put,z0_,z1_,z2_,i64_w,i32_w];rfl
  refine pure_ (i:=12) (N:=some 40) (v:=?_) (a':=?_) #[T0,T0,T0,T0,T0,T0,T0,T0,T0,T0,T0,T0,T0,F0] rfl rfl (by kernel_rfl) (fun _ _ _ h => h) (Or.inl ⟨by rfl,?_⟩) ?_ ?_
  rotate_left
  · intro w';go_simp;with_reducible rfl
  rotate_left
  · simp only [Act.put,z0_,z1_,z2_,i64_w,i32_w];rfl
  refine last_ (i:=13) (N:=none) #[T0,T0,T0,T0,T0,T0,T0,T0,T0,T0,T0,T0,T0,T0] rfl rfl (by kernel_rfl) (by decide) (fun K hK => ?_);refine skip_ (w1:=?_) (by rfl) rfl ?_ ?_
  rotate_left
  · go_simp;rfl
  refine hK.out _ _ ?_;clear hK K;refine done_ (by kernel_rfl) ?_;go_wp2
  go_roundw
  case rel => exact ⟨x - 1,s.set (rd_T30 l0 x).f0.toNat (wrap64 (rd s (rd_T30 l0 x).f0 + mn (rd_T30 l0 x).f2 (rd_T30 l0 x).f1)),by omega,by omega,rfl,⟨by rw [List.length_set];exact HL.out⟩,⟨by rw [← eff_sums_step l0 x s hx];exact HE.out⟩,⟨Kd.R_putn (Kd.R_drewN HSr.out _) (rd_T30 l0 x).f0 _⟩,⟨below_set (b1_ HBr.out _) HGW.out⟩,⟨blk_far (blk_drewN HXr.out _) (by have:=HGB.out;show b≠g;omega) _⟩⟩
  case measure => simp [intOf];omega
def protection_Effective.f (k : Nat) (l0 : List (S30)) : Option (List Int × Int):=(accounts_Check.f k l0).bind fun e => if e = 0 then some (protection_Effective.eff' l0,0) else some ([],e)
theorem protection_Effective.mono : ∀ a0 k,LeO (protection_Effective.f k a0) (protection_Effective.f (k + 1) a0):=by
 intro a0 k
 unfold protection_Effective.f
 exact LeO.bind (accounts_Check.mono a0 k) (fun _ => LeO.refl _)
set_option maxRecDepth 100000 in
set_option maxHeartbeats 1000000 in
theorem effective_err (k : Nat) (A0 : Option Addr) (c0 : Nat) (l0 : List (S30)) (e2 : Int) (w : World) (hr0 : Kd.C k30 w A0 l0.length l0) (hc0 : l0.length≤c0) (hA : accounts_Check.f k l0 = some e2) (he : ¬ e2 = 0) :
 Calls Try.prog 43 #[.slice A0 l0.length c0] w fun e w' => ∃ v0_ : Value,e = .returned (.tuple #[v0_,.int .i64 e2])∧Kd.R (Kd.int .i64) 3 w' w.heap.size (fun _ => True) v0_ []∧Below w.heap.size w w':=by
 have hu22:=Try.underlying22;have HR0:=Aside0.mk hr0;have HC0:=Aside0.mk hc0;have HA:=Aside0.mk hA;clear hr0 hc0 hA;have HB:=Aside0.mk (Below.refl w.heap.size w);have d1 : (e2 == 0) = false:=beq_eq_false_iff_ne.mpr he;have d2 : (e2 != 0) = true:=bne_iff_ne.mpr he;clear he
 go_enter Try.func43,Try.ntmps43
 go_wp2_with (first | ((with_reducible refine gate_dst (N:=1) rfl ?_);refine box_event rfl (N:=1) rfl (cs:=#[.slice A0 l0.length c0]) (t:=22) (by first | (go_simp;done) | (go_simp;rfl)) ?_;intro b hg w1 hbox hb;have HB1:=Aside0.mk (below_step HB.out hb);have hcb : w1.cell? ⟨b,0,none⟩ = some (.slice A0 l0.length c0):=(blk_cell hbox 0).trans rfl;clear hg hb hbox HB) | (go_at_call 48;(refine (accounts_Check.calls k _ _ l0 e2 _ (Kd.C_below HR0.out HB1.out) HC0.out HA.out).mono ?_);rintro e w2 ⟨rfl,hb⟩;have HB2:=Aside0.mk (below_step HB1.out hb);clear hcb hb HB1))
 go_ret2;exact ⟨_,rfl,Kd.R_nil _ _ _ _ _,HB2.out⟩
theorem protection_Effective.calls (k : Nat) (A0 : Option Addr) (c0 : Nat) (l0 : List (S30)) (r1 : List Int) (r2 : Int) (w : World) (hr0 : Kd.C k30 w A0 l0.length l0) (hc0 : l0.length≤c0) (h : protection_Effective.f k l0 = some (r1,r2)) :
 Calls Try.prog 43 #[.slice A0 l0.length c0] w fun e w' => ∃ v0_ : Value,e = .returned (.tuple #[v0_,.int .i64 r2])∧Kd.R (Kd.int .i64) 3 w' w.heap.size (fun _ => True) v0_ r1∧Below w.heap.size w w':=by
 unfold protection_Effective.f at h
 obtain ⟨e,hA,h⟩:=Option.bind_eq_some_iff.mp h;by_cases he : e = 0
 rotate_left
 ·
  rw [if_neg he] at h
  injection h with h
  injection h with h1 h2
  subst h1 h2;exact effective_err k A0 c0 l0 e w hr0 hc0 hA he
 rw [if_pos he] at h
 injection h with h
 injection h with h1 h2
 subst h1 h2 he;obtain ⟨hn1,hn8,htree,hamt,_⟩:=check_inv k l0 hA
 have hmn : ∀ i : Int,0≤i→i < (l0.length : Int)→0≤mn (rd_T30 l0 i).f2 (rd_T30 l0 i).f1∧mn (rd_T30 l0 i).f2 (rd_T30 l0 i).f1≤1048576:=by
  intro i h0 h1;obtain ⟨⟨a1,a2⟩,⟨a3,a4⟩,_⟩:=hamt i h0 h1
  unfold mn
  split <;> omega
 refine effective_ok k A0 c0 l0 w hr0 hc0 hA hn1 hn8 (fun i h0 h1 => (htree i (by omega) h1).2 h0) ?_ (fun i h0 h1 => hmn i (by omega) h1);refine eff_bd_set _ _ _ ?_ (hamt 0 (by omega) (by omega)).1.1 (hamt 0 (by omega) (by omega)).1.2;intro j
 have e0 : rd (List.replicate l0.length 0) j = 0:=by
  unfold rd
  rw [List.getD_eq_getElem?_getD,List.getElem?_replicate]
  split <;> rfl
 rw [e0]
 omega
end Go.Proofs.Ytnmenfkmndnoaaa.Pr
