-- Written by a program of this session (a changed copy of the kit's printer). Not trusted: Lean checks it.
import Derived.Test.YtnmenfkmndnoaaaM0
import Derived.Test.YtnmenfkmndnoaaaM1
import Derived.Test.YtnmenfkmndnoaaaM2
namespace Go.Proofs.Ytnmenfkmndnoaaa.Pr
open Go.RowKit Go.Proofs.YtnmenfkmndnoaaaW.PrintWords Go.Proofs.YtnmenfkmndnoaaaW.PrintLast Go.Proofs.YtnmenfkmndnoaaaW.PrintMore
attribute [local go_sem] max2_int min2_int max_two min_two max_three min_three max_four min_four
set_option linter.unusedVariables false
set_option linter.unusedSimpArgs false
def tIdx (s : Int) (kn : Bool) (a b : List Bool) : List S34→Int→Int
 | [],_ => -1
 | p :: ps,i => if qReason s kn a b p = 8 then i else tIdx s kn a b ps (i + 1)
theorem tIdx_any (s : Int) (kn : Bool) (a b : List Bool) : ∀ (ps : List S34) (i : Int),0≤i→decide (0≤tIdx s kn a b ps i) = ps.any (fun p => qReason s kn a b p == 8)
 | [],i,_ => rfl
 | p :: ps,i,h => by
  rw [List.any_cons];by_cases c : qReason s kn a b p = 8
  rotate_left
  · rw [show tIdx s kn a b (p :: ps) i = tIdx s kn a b ps (i + 1) from if_neg c,beq_eq_false_iff_ne.mpr c,Bool.false_or];exact tIdx_any s kn a b ps (i + 1) (by omega)
  rw [show tIdx s kn a b (p :: ps) i = i from if_pos c,decide_eq_true h,beq_iff_eq.mpr c,Bool.true_or]
set_option maxRecDepth 100000 in
set_option maxHeartbeats 4000000 in
theorem slices_IndexFunc_Page.calls (g : Nat) (s : Int) (kn : Bool) (qa qb qc : List Bool) (A0 : Option Addr) (c0 : Nat) (l0 : List S34) (w : World) (hr0 : Kd.C k34 w A0 l0.length l0) (hc0 : l0.length≤c0) (hq : IsQ w g s kn qa qb qc) (hp : ∀ p ∈ l0,p.f1 < (qa.length : Int)) (hl : qb.length = qa.length) (hm : l0.length < 1000000) :
 Calls Try.prog 84 #[.slice A0 l0.length c0,.func (.func 55) #[.pointer (some ⟨g,0,none⟩)] #[]] w fun e w' => e = .returned (.int .i64 (tIdx s kn qa qb l0 0))∧Below w.heap.size w w':=by
 have hu34:=Try.underlying34;have HR0:=Aside0.mk hr0;have HQ:=Aside0.mk hq;have HP:=Aside0.mk hp;have HL:=Aside0.mk hl;have HM:=Aside0.mk hm;obtain ⟨r,hr⟩ : ∃ r,r = tIdx s kn qa qb l0 0:=⟨_,rfl⟩;have HF:=Aside0.mk hr.symm;rw [← hr];clear hr0 hc0 hq hp hl hm hr
 go_enter Try.func84,Try.ntmps84
 go_wp2
 go_loopw [8] (fun v8 wr => ∃ (x : Int),0≤x∧x≤(l0.length : Int)∧v8 = .int .i64 x∧Aside0 (tIdx s kn qa qb (l0.drop x.toNat) x = r)∧Aside0 (Below w.heap.size w wr)) (fun v8 _ => l0.length - (intOf v8).toNat)
 case atStart => exact ⟨0,by omega,by omega,rfl,HF,⟨by first | exact Below.refl _ _ | exact b1_ (Below.refl _ _) _⟩⟩
 case round =>
  clear HF;obtain ⟨x,hx0,hx1,rfl,HF,HBr⟩:=hrel;by_cases hx : x < (l0.length : Int)
  rotate_left
  ·
   obtain rfl : x = (l0.length : Int):=by omega
   have d4 : decide ((l0.length : Int) < (l0.length : Int)) = false:=decide_eq_false (by omega);rw [Int.toNat_natCast,List.drop_length] at HF;obtain rfl : -1 = r:=HF.out;go_wp2;go_ret;exact ⟨rfl,HBr.out⟩
  obtain ⟨ad,e0,hx0_,hx1_,hx2_,hx3_,hx4_,hx5_,hx6_⟩:=at_T34 (Kd.C_below HR0.out HBr.out) x hx0 hx;cases e0;have d3 : decide (0≤x) = true:=decide_eq_true hx0;have d4 : decide (x < (l0.length : Int)) = true:=decide_eq_true hx;have hw : wrap64 (x + 1) = x + 1:=wrx x hx0 (by have:=HM.out;omega);have HP1:=Aside0.mk (HP.out _ (rd34_mem l0 x hx0 hx));have HE:=HF.out
  rw [drop_rd34 l0 x hx0 hx] at HE;simp only [tIdx] at HE;by_cases c8 : qReason s kn qa qb (rd_T34 l0 x) = 8
  rotate_left
  ·
   rw [if_neg c8] at HE;have e8 : (qReason s kn qa qb (rd_T34 l0 x) == 8) = false:=beq_eq_false_iff_ne.mpr c8;have HE':=Aside0.mk HE;clear HE HF
   go_wp2_with (first | (go_at_call 55;(refine calls_of_args (args':=#[.pointer (some ⟨g,0,none⟩),pageV (rd_T34 l0 x)]) (by first | rfl | simp [pageV, *]) ?_);(refine (q_transit.calls g s kn qa qb qc (rd_T34 l0 x) _ (HQ.out.below HBr.out) HP1.out HL.out).mono ?_);rintro e w3 ⟨rfl,hb⟩;have HB3:=Aside0.mk (below_step HBr.out hb);clear hb HBr))
   go_roundw
   case rel => exact ⟨x + 1,by omega,by omega,by rw [hw],HE',HB3⟩
   case measure => simp [intOf,hw];omega
  rw [if_pos c8] at HE;have e8 : (qReason s kn qa qb (rd_T34 l0 x) == 8) = true:=beq_iff_eq.mpr c8;subst HE;clear HF
  go_wp2_with (first | (go_at_call 55;(refine calls_of_args (args':=#[.pointer (some ⟨g,0,none⟩),pageV (rd_T34 l0 x)]) (by first | rfl | simp [pageV, *]) ?_);(refine (q_transit.calls g s kn qa qb qc (rd_T34 l0 x) _ (HQ.out.below HBr.out) HP1.out HL.out).mono ?_);rintro e w3 ⟨rfl,hb⟩;have HB3:=Aside0.mk (below_step HBr.out hb);clear hb HBr))
  go_ret;exact ⟨rfl,HB3.out⟩
set_option maxRecDepth 100000 in
set_option maxHeartbeats 4000000 in
theorem slices_ContainsFunc_Page.calls (g : Nat) (s : Int) (kn : Bool) (qa qb qc : List Bool) (A0 : Option Addr) (c0 : Nat) (l0 : List S34) (w : World) (hr0 : Kd.C k34 w A0 l0.length l0) (hc0 : l0.length≤c0) (hq : IsQ w g s kn qa qb qc) (hp : ∀ p ∈ l0,p.f1 < (qa.length : Int)) (hl : qb.length = qa.length) (hm : l0.length < 1000000) :
 Calls Try.prog 54 #[.slice A0 l0.length c0,.func (.func 55) #[.pointer (some ⟨g,0,none⟩)] #[]] w fun e w' => e = .returned (.bool (l0.any fun p => qReason s kn qa qb p == 8))∧Below w.heap.size w w':=by
 have HX:=Aside0.mk (fun W (hb : Below w.heap.size w W) => slices_IndexFunc_Page.calls g s kn qa qb qc A0 c0 l0 W (Kd.C_below hr0 hb) hc0 (hq.below hb) hp hl hm);have HB:=Aside0.mk (Below.refl w.heap.size w);rw [← tIdx_any s kn qa qb l0 0 (by omega)];clear hr0 hc0 hq hp hl hm
 go_enter Try.func54,Try.ntmps54
 go_wp2_with (first | (go_at_call 84;(refine (HX.out _ HB.out).mono ?_);rintro e w3 ⟨rfl,hb⟩;have HB3:=Aside0.mk (below_step HB.out hb);clear hb HB))
 go_ret;exact ⟨rfl,HB3.out⟩
def reclaimplan_Transit.f (k : Nat) (l0 : List (S34)) (l1 : List (S30)) (a2 : Int) (a3 : Bool) : Option (Bool) :=
 (reclaimplan_ask.f k l0 l1 a2).bind fun q => if q.1 = 0 then some (l0.any fun p => qReason a2 a3 q.2.1 q.2.2.1 p == 8) else some false
theorem reclaimplan_Transit.mono : ∀ a0 a1 a2 a3 k,LeO (reclaimplan_Transit.f k a0 a1 a2 a3) (reclaimplan_Transit.f (k + 1) a0 a1 a2 a3):=fun a0 a1 a2 a3 k => LeO.bind (reclaimplan_ask.mono _ _ _ _) (fun _ => LeO.refl _)
set_option maxRecDepth 100000 in
set_option maxHeartbeats 4000000 in
theorem reclaimplan_Transit.calls (k : Nat) (A0 : Option Addr) (c0 : Nat) (l0 : List (S34)) (A1 : Option Addr) (c1 : Nat) (l1 : List (S30)) (a2 : Int) (a3 : Bool) (r : Bool) (w : World) (hr0 : Kd.C k34 w A0 l0.length l0) (hc0 : l0.length≤c0) (hr1 : Kd.C k30 w A1 l1.length l1) (hc1 : l1.length≤c1) (h : reclaimplan_Transit.f k l0 l1 a2 a3 = some r) :
 Calls Try.prog 24 #[.slice A0 l0.length c0,.slice A1 l1.length c1,.int .i64 a2,.bool a3] w fun e w' => e = .returned (.bool r)∧Below w.heap.size w w':=by
 unfold reclaimplan_Transit.f at h
 obtain ⟨⟨q0,qa,qb,qc⟩,hA,h⟩:=Option.bind_eq_some_iff.mp h;have HA:=Aside0.mk hA;clear hA;have hu34:=Try.underlying34;have HR0:=Aside0.mk hr0;have HC0:=Aside0.mk hc0;have HR1:=Aside0.mk hr1;have HC1:=Aside0.mk hc1;clear hr0 hc0 hr1 hc1;have HB:=Aside0.mk (Below.refl w.heap.size w)
 dsimp only at h
 by_cases cq : q0 = 0
 rotate_left
 ·
  rw [if_neg cq] at h;obtain rfl:=Option.some.inj h;have e1 : (q0 == 0) = false:=beq_eq_false_iff_ne.mpr cq;clear h
  go_enter Try.func24,Try.ntmps24
  go_wp2_with (first | (go_at_call 50;(refine (ask1.calls k _ _ l0 _ _ l1 a2 a3 q0 (qa,qb,qc) _ HR0.out HC0.out HR1.out HC1.out HA.out cq).mono ?_);rintro e w1 ⟨rfl,hb⟩;have HB1:=Aside0.mk (below_step HB.out hb);clear hb HB))
  go_ret;exact ⟨rfl,HB1.out⟩
 rw [if_pos cq] at h;subst cq;obtain rfl:=Option.some.inj h;clear h;obtain ⟨ln1,ln2,ln3,-,lm,lp⟩:=ask_lengths HA.out;have HP:=Aside0.mk (show ∀ p ∈ l0,p.f1 < (qa.length : Int) by rw [ln1];exact lp);have HL:=Aside0.mk (show qb.length = qa.length by rw [ln1,ln2]);have HL3:=Aside0.mk (show qc.length = qa.length by rw [ln1,ln3]);have HM:=Aside0.mk lm;clear ln1 ln2 ln3 lp lm
 go_enter Try.func24,Try.ntmps24
 go_wp2_with (first | (go_at_call 50;(refine (ask0.calls k _ _ l0 _ _ l1 a2 a3 qa qb qc _ HR0.out HC0.out HR1.out HC1.out HA.out).mono ?_);rintro e w1 ⟨⟨g,rfl,hQ⟩,hb⟩;have HB1:=Aside0.mk (below_step HB.out hb);have HQ:=Aside0.mk hQ;clear hb HB hQ) | (go_at_call 54;(refine (slices_ContainsFunc_Page.calls g a2 a3 qa qb qc _ _ l0 _ (Kd.C_below HR0.out HB1.out) HC0.out HQ.out HP.out HL.out HM.out).mono ?_);rintro e w3 ⟨rfl,hb⟩;have HB3:=Aside0.mk (below_step HB1.out hb);clear hb HB1))
 go_ret;exact ⟨rfl,HB3.out⟩
def uStep (s : Int) (kn : Bool) (a b : List Bool) (n : Int) (p : S34) : Int:=if p.f6 = true∧qReason s kn a b p = 8 then n + 1 else n
def reclaimplan_Useful.f (k : Nat) (l0 : List (S34)) (l1 : List (S30)) (a2 : Int) (a3 : Bool) : Option (Int) :=
 (reclaimplan_ask.f k l0 l1 a2).bind fun q => if q.1 = 0 then some (l0.foldl (uStep a2 a3 q.2.1 q.2.2.1) 0) else some 0
theorem reclaimplan_Useful.mono : ∀ a0 a1 a2 a3 k,LeO (reclaimplan_Useful.f k a0 a1 a2 a3) (reclaimplan_Useful.f (k + 1) a0 a1 a2 a3):=fun a0 a1 a2 a3 k => LeO.bind (reclaimplan_ask.mono _ _ _ _) (fun _ => LeO.refl _)
set_option maxRecDepth 100000 in
set_option maxHeartbeats 4000000 in
theorem reclaimplan_Useful.calls (k : Nat) (A0 : Option Addr) (c0 : Nat) (l0 : List (S34)) (A1 : Option Addr) (c1 : Nat) (l1 : List (S30)) (a2 : Int) (a3 : Bool) (r : Int) (w : World) (hr0 : Kd.C k34 w A0 l0.length l0) (hc0 : l0.length≤c0) (hr1 : Kd.C k30 w A1 l1.length l1) (hc1 : l1.length≤c1) (h : reclaimplan_Useful.f k l0 l1 a2 a3 = some r) :
 Calls Try.prog 38 #[.slice A0 l0.length c0,.slice A1 l1.length c1,.int .i64 a2,.bool a3] w fun e w' => e = .returned (.int .i64 r)∧Below w.heap.size w w':=by
 unfold reclaimplan_Useful.f at h
 obtain ⟨⟨q0,qa,qb,qc⟩,hA,h⟩:=Option.bind_eq_some_iff.mp h;have HA:=Aside0.mk hA;clear hA;have hu34:=Try.underlying34;have HR0:=Aside0.mk hr0;have HC0:=Aside0.mk hc0;have HR1:=Aside0.mk hr1;have HC1:=Aside0.mk hc1;clear hr0 hc0 hr1 hc1;have HB:=Aside0.mk (Below.refl w.heap.size w)
 dsimp only at h
 by_cases cq : q0 = 0
 rotate_left
 ·
  rw [if_neg cq] at h;obtain rfl:=Option.some.inj h;have e1 : (q0 != 0) = true:=bne_iff_ne.mpr cq;clear h
  go_enter Try.func38,Try.ntmps38
  go_wp2_with (first | (go_at_call 50;(refine (ask1.calls k _ _ l0 _ _ l1 a2 a3 q0 (qa,qb,qc) _ HR0.out HC0.out HR1.out HC1.out HA.out cq).mono ?_);rintro e w1 ⟨rfl,hb⟩;have HB1:=Aside0.mk (below_step HB.out hb);clear hb HB))
  go_ret;exact ⟨rfl,HB1.out⟩
 rw [if_pos cq] at h;subst cq;have HF:=Aside0.mk (Option.some.inj h);clear h;obtain ⟨ln1,ln2,ln3,-,lm,lp⟩:=ask_lengths HA.out;have HP:=Aside0.mk (show ∀ p ∈ l0,p.f1 < (qa.length : Int) by rw [ln1];exact lp);have HL:=Aside0.mk (show qb.length = qa.length by rw [ln1,ln2]);have HL3:=Aside0.mk (show qc.length = qa.length by rw [ln1,ln3]);have HM:=Aside0.mk lm
 clear ln1 ln2 ln3 lp lm
 go_enter Try.func38,Try.ntmps38
 go_upto_region 5 with (first | (go_at_call 50;(refine (ask0.calls k _ _ l0 _ _ l1 a2 a3 qa qb qc _ HR0.out HC0.out HR1.out HC1.out HA.out).mono ?_);rintro e w1 ⟨⟨g,rfl,hQ⟩,hb⟩;have HB1:=Aside0.mk (below_step HB.out hb);have HQ:=Aside0.mk hQ;clear hb HB hQ))
 go_wp2
 go_loopw [11,26] (fun v11 v26 wr => ∃ (n x : Int),0≤x∧x≤(l0.length : Int)∧v11 = .int .i64 n∧v26 = .int .i64 x∧0≤n∧n≤x∧Aside0 ((l0.drop x.toNat).foldl (uStep a2 a3 qa qb) n = r)∧Aside0 (Below w1.heap.size w1 wr)) (fun _ v26 _ => l0.length - (intOf v26).toNat)
 case atStart => exact ⟨0,0,by omega,by omega,rfl,rfl,by omega,by omega,HF,⟨Below.refl _ _⟩⟩
 case round =>
  clear HF;obtain ⟨n,x,hx0,hx1,rfl,rfl,hn0,hn1,HF,HBr⟩:=hrel;by_cases hx : x < (l0.length : Int)
  rotate_left
  ·
   obtain rfl : x = (l0.length : Int):=by omega
   have d4 : decide ((l0.length : Int) < (l0.length : Int)) = false:=decide_eq_false (by omega);rw [Int.toNat_natCast,List.drop_length] at HF;obtain rfl : n = r:=HF.out;go_wp2;go_ret;exact ⟨rfl,below_step HB1.out HBr.out⟩
  obtain ⟨ad,e0,hx0_,hx1_,hx2_,hx3_,hx4_,hx5_,hx6_⟩:=at_T34 (Kd.C_below HR0.out (below_step HB1.out HBr.out)) x hx0 hx;cases e0;have d3 : decide (0≤x) = true:=decide_eq_true hx0;have d4 : decide (x < (l0.length : Int)) = true:=decide_eq_true hx;have hw : wrap64 (x + 1) = x + 1:=wrx x hx0 (by have:=HM.out;omega);have HP1:=Aside0.mk (HP.out _ (rd34_mem l0 x hx0 hx))
  have hw2 : wrap64 (n + 1) = n + 1:=wrx n hn0 (by have:=HM.out;omega)
  go_upto_region 8 with (first | ((with_reducible refine gate_dst (N:=13) rfl ?_);refine box_event rfl (N:=13) rfl (cs:=#[.int .i64 0,.int .i64 0,.int .i64 0,.int .i64 0,.int .i64 0,.bool false,.bool false]) (t:=34) (by first | (go_simp;done) | (go_simp;rfl)) ?_;intro b hg w5 hbox hbl;have HW5:=Aside0.mk (show w1.heap.size≤b by rw [hg];exact below_size HBr.out);have HB5:=Aside0.mk (below_step HBr.out hbl);have HBX:=Aside0.mk hbox;have hcz0 : w5.cell? ⟨b,0,none⟩ = some (.int .i64 0):=(blk_cell HBX.out 0).trans rfl;have hfz0:=blk_frozen HBX.out 0;have hcz1 : w5.cell? ⟨b,1,none⟩ = some (.int .i64 0):=(blk_cell HBX.out 1).trans rfl;have hfz1:=blk_frozen HBX.out 1;have hcz2 : w5.cell? ⟨b,2,none⟩ = some (.int .i64 0):=(blk_cell HBX.out 2).trans rfl;have hfz2:=blk_frozen HBX.out 2;have hcz3 : w5.cell? ⟨b,3,none⟩ = some (.int .i64 0):=(blk_cell HBX.out 3).trans rfl;have hfz3:=blk_frozen HBX.out 3;have hcz4 : w5.cell? ⟨b,4,none⟩ = some (.int .i64 0):=(blk_cell HBX.out 4).trans rfl;have hfz4:=blk_frozen HBX.out 4;have hcz5 : w5.cell? ⟨b,5,none⟩ = some (.bool false):=(blk_cell HBX.out 5).trans rfl;have hfz5:=blk_frozen HBX.out 5;have hcz6 : w5.cell? ⟨b,6,none⟩ = some (.bool false):=(blk_cell HBX.out 6).trans rfl;have hfz6:=blk_frozen HBX.out 6;clear hg hbl hbox HBr))
  refine wp_gen (fun wc hwc => ?_)
  have HXc : Aside0 (wc.heap[b]? = some (.cells #[.int .i64 (rd_T34 l0 x).f0,.int .i64 (rd_T34 l0 x).f1,.int .i64 (rd_T34 l0 x).f2,.int .i64 (rd_T34 l0 x).f3,.int .i64 (rd_T34 l0 x).f4,.bool (rd_T34 l0 x).f5,.bool (rd_T34 l0 x).f6] 34 (0,0))):=⟨by rw [hwc];exact blk_put (cs':=#[.int .i64 (rd_T34 l0 x).f0,.int .i64 (rd_T34 l0 x).f1,.int .i64 (rd_T34 l0 x).f2,.int .i64 (rd_T34 l0 x).f3,.int .i64 (rd_T34 l0 x).f4,.bool (rd_T34 l0 x).f5,.bool (rd_T34 l0 x).f6]) (blk_put (cs':=#[.int .i64 (rd_T34 l0 x).f0,.int .i64 (rd_T34 l0 x).f1,.int .i64 (rd_T34 l0 x).f2,.int .i64 (rd_T34 l0 x).f3,.int .i64 (rd_T34 l0 x).f4,.bool (rd_T34 l0 x).f5,.bool false]) (blk_put (cs':=#[.int .i64 (rd_T34 l0 x).f0,.int .i64 (rd_T34 l0 x).f1,.int .i64 (rd_T34 l0 x).f2,.int .i64 (rd_T34 l0 x).f3,.int .i64 (rd_T34 l0 x).f4,.bool false,.bool false]) (blk_put (cs':=#[.int .i64 (rd_T34 l0 x).f0,.int .i64 (rd_T34 l0 x).f1,.int .i64 (rd_T34 l0 x).f2,.int .i64 (rd_T34 l0 x).f3,.int .i64 0,.bool false,.bool false]) (blk_put (cs':=#[.int .i64 (rd_T34 l0 x).f0,.int .i64 (rd_T34 l0 x).f1,.int .i64 (rd_T34 l0 x).f2,.int .i64 0,.int .i64 0,.bool false,.bool false]) (blk_put (cs':=#[.int .i64 (rd_T34 l0 x).f0,.int .i64 (rd_T34 l0 x).f1,.int .i64 0,.int .i64 0,.int .i64 0,.bool false,.bool false]) (blk_put (cs':=#[.int .i64 (rd_T34 l0 x).f0,.int .i64 0,.int .i64 0,.int .i64 0,.int .i64 0,.bool false,.bool false]) (HBX.out) 0 _ rfl) 1 _ rfl) 2 _ rfl) 3 _ rfl) 4 _ rfl) 5 _ rfl) 6 _ rfl⟩
  have HBc : Aside0 (Below w1.heap.size w1 wc):=⟨by rw [hwc];with_reducible (repeat (first | exact HB5.out | refine below_set ?_ HW5.out))⟩;clear hwc HB5 HBX hcz0 hcz1 hcz2 hcz3 hcz4 hcz5 hcz6 hfz0 hfz1 hfz2 hfz3 hfz4 hfz5 hfz6 hx0_ hx1_ hx2_ hx3_ hx4_ hx5_ hx6_;have hz0 : wc.cell? ⟨b,0,none⟩ = some (.int .i64 (rd_T34 l0 x).f0):=(blk_cell HXc.out 0).trans rfl
  have hz1 : wc.cell? ⟨b,1,none⟩ = some (.int .i64 (rd_T34 l0 x).f1):=(blk_cell HXc.out 1).trans rfl;have hz2 : wc.cell? ⟨b,2,none⟩ = some (.int .i64 (rd_T34 l0 x).f2):=(blk_cell HXc.out 2).trans rfl;have hz3 : wc.cell? ⟨b,3,none⟩ = some (.int .i64 (rd_T34 l0 x).f3):=(blk_cell HXc.out 3).trans rfl
  have hz4 : wc.cell? ⟨b,4,none⟩ = some (.int .i64 (rd_T34 l0 x).f4):=(blk_cell HXc.out 4).trans rfl;have hz5 : wc.cell? ⟨b,5,none⟩ = some (.bool (rd_T34 l0 x).f5):=(blk_cell HXc.out 5).trans rfl;have hz6 : wc.cell? ⟨b,6,none⟩ = some (.bool (rd_T34 l0 x).f6):=(blk_cell HXc.out 6).trans rfl
  have HE : (l0.drop (x + 1).toNat).foldl (uStep a2 a3 qa qb) (uStep a2 a3 qa qb n (rd_T34 l0 x)) = r:=by
   rw [← HF.out,drop_rd34 l0 x hx0 hx];rfl
  clear HF;by_cases c6 : (rd_T34 l0 x).f6 = true
  rotate_left
  ·
   rw [Bool.eq_false_iff.mpr c6] at hz6;rw [show uStep a2 a3 qa qb n (rd_T34 l0 x) = n from if_neg (fun h => c6 h.1)] at HE;have HE':=Aside0.mk HE;clear HE;go_wp2
   go_roundw
   case rel => exact ⟨n,x + 1,by omega,by omega,rfl,by rw [hw],by omega,by omega,HE',HBc⟩
   case measure => simp [intOf,hw];omega
  rw [c6] at hz6;by_cases c8 : qReason a2 a3 qa qb (rd_T34 l0 x) = 8
  rotate_left
  ·
   have e8 : (qReason a2 a3 qa qb (rd_T34 l0 x) == 8) = false:=beq_eq_false_iff_ne.mpr c8;rw [show uStep a2 a3 qa qb n (rd_T34 l0 x) = n from if_neg (fun h => c8 h.2)] at HE;have HE':=Aside0.mk HE;clear HE
   go_wp2_with (first | (go_at_call 51;(refine calls_of_args (args':=#[.pointer (some ⟨g,0,none⟩),pageV (rd_T34 l0 x)]) (by first | rfl | simp [pageV, *]) ?_);(refine (q_reason.calls g a2 a3 qa qb qc (rd_T34 l0 x) _ (HQ.out.below HBc.out) HP1.out HL.out).mono ?_);rintro e w3 ⟨rfl,hb⟩;have HB3:=Aside0.mk (below_step HBc.out hb);have HX3:=Aside0.mk (blk_below HXc.out hb);clear hb HBc HXc hz0 hz1 hz2 hz3 hz4 hz5 hz6))
   go_roundw
   case rel => exact ⟨n,x + 1,by omega,by omega,rfl,by rw [hw],by omega,by omega,HE',HB3⟩
   case measure => simp [intOf,hw];omega
  have e8 : (qReason a2 a3 qa qb (rd_T34 l0 x) == 8) = true:=beq_iff_eq.mpr c8;rw [show uStep a2 a3 qa qb n (rd_T34 l0 x) = n + 1 from if_pos ⟨c6,c8⟩] at HE;have HE':=Aside0.mk HE;clear HE
  go_wp2_with (first | (go_at_call 51;(refine calls_of_args (args':=#[.pointer (some ⟨g,0,none⟩),pageV (rd_T34 l0 x)]) (by first | rfl | simp [pageV, *]) ?_);(refine (q_reason.calls g a2 a3 qa qb qc (rd_T34 l0 x) _ (HQ.out.below HBc.out) HP1.out HL.out).mono ?_);rintro e w3 ⟨rfl,hb⟩;have HB3:=Aside0.mk (below_step HBc.out hb);have HX3:=Aside0.mk (blk_below HXc.out hb);clear hb HBc HXc hz0 hz1 hz2 hz3 hz4 hz5 hz6))
  go_roundw
  case rel => exact ⟨n + 1,x + 1,by omega,by omega,by rw [hw2],by rw [hw],by omega,by omega,HE',HB3⟩
  case measure => simp [intOf,hw];omega
def estoversref39_Few.f (l0 : List (S34)) (l1 : List (S30)) : Option (Bool):=if (l0.length : Int)≤300 then (some (decide ((l1.length : Int)≤40))) else (some false)
set_option maxHeartbeats 8000000 in
set_option maxRecDepth 100000 in
theorem estoversref39_Few.calls (A0 : Option Addr) (c0 : Nat) (l0 : List (S34)) (A1 : Option Addr) (c1 : Nat) (l1 : List (S30)) (r : Bool) (w : World) (hr0 : Kd.C k34 w A0 l0.length l0) (hc0 : l0.length≤c0) (hr1 : Kd.C k30 w A1 l1.length l1) (hc1 : l1.length≤c1) (h : estoversref39_Few.f l0 l1 = some r) :
 Calls Try.prog 30 #[.slice A0 l0.length c0,.slice A1 l1.length c1] w fun e w' => e = .returned (.bool r)∧Drawn0 w w':=by
 have HR0:=Aside0.mk hr0;have HC0:=Aside0.mk hc0;clear hr0 hc0;have HR1:=Aside0.mk hr1;have HC1:=Aside0.mk hc1;clear hr1 hc1;have H : (if (l0.length : Int)≤300 then (some (decide ((l1.length : Int)≤40))) else (some false)) = some r:=h;clear h;by_cases c3 : (l0.length : Int)≤300
 rotate_left
 ·
  rw [if_neg c3] at H;have c3b0 : decide ((l0.length : Int)≤300) = false:=decide_eq_false c3;have c3b1 : decide (l0.length≤300) = false:=decide_eq_false (by omega);clear c3;obtain rfl:=Option.some.inj H
  go_enter Try.func30,Try.ntmps30
  go_wp2;go_ret
  exact ⟨by first | rfl | (simp;done) | (simp [*];done),by repeat (first | exact Drawn0.refl _ | apply Drawn0.step)⟩
 rw [if_pos c3] at H;have c3b0 : decide ((l0.length : Int)≤300) = true:=decide_eq_true c3;have c3b1 : decide (l0.length≤300) = true:=decide_eq_true (by omega);clear c3;obtain rfl:=Option.some.inj H
 go_enter Try.func30,Try.ntmps30
 go_wp2;go_ret
 exact ⟨by first | rfl | (simp;done) | (simp [*];done),by repeat (first | exact Drawn0.refl _ | apply Drawn0.step)⟩
end Go.Proofs.Ytnmenfkmndnoaaa.Pr
