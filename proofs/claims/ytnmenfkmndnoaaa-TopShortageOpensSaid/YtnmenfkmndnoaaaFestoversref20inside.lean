-- Written by a program of this session (a changed copy of the kit's printer). Not trusted: Lean checks it.
import Derived.Test.YtnmenfkmndnoaaaM0
namespace Go.Proofs.Ytnmenfkmndnoaaa.Pr
open Go.RowKit Go.Proofs.YtnmenfkmndnoaaaW.PrintWords Go.Proofs.YtnmenfkmndnoaaaW.PrintLast Go.Proofs.YtnmenfkmndnoaaaW.PrintMore
attribute [local go_sem] max2_int min2_int max_two min_two max_three min_three max_four min_four
set_option linter.unusedVariables false
set_option linter.unusedSimpArgs false
mutual
def estoversref20_inside.l0 : Nat→List (S30)→List Int→List Int→Int→Option (List Int)
 | 0,_,_,_,_ => none
 | k + 1,x0,x1,x5,x6 => if x6 < (x0.length : Int) then (estoversref20_inside.l1 k x0 x1 x5 x6 x6) else (some x5)
def estoversref20_inside.l1 : Nat→List (S30)→List Int→List Int→Int→Int→Option (List Int)
 | 0,_,_,_,_,_ => none
 | k + 1,x0,x1,x5,x6,x7 => if x7≥0 then (if 0≤x7 then (if x7 < (x5.length : Int) then (if 0≤x6 then (if x6 < (x1.length : Int) then (if x7 < (x0.length : Int) then (estoversref20_inside.l1 k x0 x1 (x5.set (x7 : Int).toNat (wrap64 ((rd x5 x7) + (rd x1 x6)))) x6 ((rd_T30 x0 x7).f0)) else (none)) else (none)) else (none)) else (none)) else (none)) else (estoversref20_inside.l0 k x0 x1 x5 (wrap64 (x6 + 1)))
end
def estoversref20_inside.f (k : Nat) (l0 : List (S30)) (l1 : List Int) : Option (List Int):=if 0≤(l0.length : Int) then (if ((l0.length : Int) : Int).toNat≤35184372088832 then (estoversref20_inside.l0 k l0 l1 (List.replicate ((l0.length : Int) : Int).toNat 0) 0) else (none)) else (none)
theorem estoversref20_inside.mono_l : ∀ k,(∀ y0 y1 y2 y3,LeO (estoversref20_inside.l0 k y0 y1 y2 y3) (estoversref20_inside.l0 (k + 1) y0 y1 y2 y3))∧(∀ y0 y1 y2 y3 y4,LeO (estoversref20_inside.l1 k y0 y1 y2 y3 y4) (estoversref20_inside.l1 (k + 1) y0 y1 y2 y3 y4))
 | 0 => ⟨fun _ _ _ _ r h => by simp [estoversref20_inside.l0] at h,fun _ _ _ _ _ r h => by simp [estoversref20_inside.l1] at h⟩
 | k + 1 => by
  obtain ⟨ih0,ih1⟩:=estoversref20_inside.mono_l k;refine ⟨?_,?_⟩
  ·
   intro y0 y1 y2 y3
   unfold estoversref20_inside.l0
   repeat' first
    | (with_reducible exact ih0 _ _ _ _)
    | (with_reducible exact ih1 _ _ _ _ _)
    | (with_reducible exact LeO.refl _)
    | (with_reducible exact LeO.none _)
    | (with_reducible refine LeO.ite ?_ ?_)
    | (with_reducible refine LeO.bind ?_ (fun _ => ?_))
    | exact ih0 _ _ _ _
    | exact ih1 _ _ _ _ _
    | exact LeO.none _
    | refine LeO.ite ?_ ?_
    | refine LeO.bind ?_ (fun _ => ?_)
  ·
   intro y0 y1 y2 y3 y4
   unfold estoversref20_inside.l1
   repeat' first
    | (with_reducible exact ih0 _ _ _ _)
    | (with_reducible exact ih1 _ _ _ _ _)
    | (with_reducible exact LeO.refl _)
    | (with_reducible exact LeO.none _)
    | (with_reducible refine LeO.ite ?_ ?_)
    | (with_reducible refine LeO.bind ?_ (fun _ => ?_))
    | exact ih0 _ _ _ _
    | exact ih1 _ _ _ _ _
    | exact LeO.none _
    | refine LeO.ite ?_ ?_
    | refine LeO.bind ?_ (fun _ => ?_)
theorem estoversref20_inside.mono : ∀ a0 a1 k,LeO (estoversref20_inside.f k a0 a1) (estoversref20_inside.f (k + 1) a0 a1):=by
 intro a0 a1 k;obtain ⟨ih0,ih1⟩:=estoversref20_inside.mono_l k
 unfold estoversref20_inside.f
 repeat' first
  | (with_reducible exact ih0 _ _ _ _)
  | (with_reducible exact ih1 _ _ _ _ _)
  | (with_reducible exact LeO.refl _)
  | (with_reducible exact LeO.none _)
  | (with_reducible refine LeO.ite ?_ ?_)
  | (with_reducible refine LeO.bind ?_ (fun _ => ?_))
  | exact ih0 _ _ _ _
  | exact ih1 _ _ _ _ _
  | exact LeO.none _
  | refine LeO.ite ?_ ?_
  | refine LeO.bind ?_ (fun _ => ?_)
def estoversref20_inside.T8 : Bool × List (List Nat × List Nat):=(true,[([],[]),([],[]),([0,1],[0,1]),([2],[2]),([],[]),([],[]),([4,5],[4,5]),([6],[6]),([3,7],[3,7]),([0,1,0,1,2,3,4,5,6,7,8],[0,1]),([9,8,0,1,2,3,4,5,6,7,8],[8,9])])
def estoversref20_inside.B8 : List Nat:=[0,0,3,7,0,0,48,112,255,511,1023]
theorem estoversref20_inside.tab8 : rtab .any (opsOf Try.f96 8) = estoversref20_inside.T8:=by kernel_rfl
theorem estoversref20_inside.bits8 : waitsOk estoversref20_inside.T8.2 estoversref20_inside.B8 = true:=by kernel_rfl
set_option maxHeartbeats 8000000 in
set_option maxRecDepth 100000 in
theorem estoversref20_inside.calls (k : Nat) (A0 : Option Addr) (c0 : Nat) (l0 : List (S30)) (A1 : Option Addr) (c1 : Nat) (l1 : List Int) (r : List Int) (w : World) (hr0 : Kd.C k30 w A0 l0.length l0) (hc0 : l0.length≤c0) (hr1 : Kd.C (Kd.int .i64) w A1 l1.length l1) (hc1 : l1.length≤c1) (h : estoversref20_inside.f k l0 l1 = some r) :
 Calls Try.prog 96 #[.slice A0 l0.length c0,.slice A1 l1.length c1] w fun e w' => ∃ v0_ : Value,e = .returned (v0_)∧Kd.R (Kd.int .i64) 3 w' w.heap.size (fun _ => True) v0_ r∧Below w.heap.size w w':=by
 have HR0:=Aside0.mk hr0;have HC0:=Aside0.mk hc0;clear hr0 hc0;have HR1:=Aside0.mk hr1;have HC1:=Aside0.mk hc1;clear hr1 hc1;have HB:=Aside0.mk (Below.refl w.heap.size w)
 have H : (if 0≤(l0.length : Int) then (if ((l0.length : Int) : Int).toNat≤35184372088832 then (estoversref20_inside.l0 k l0 l1 (List.replicate ((l0.length : Int) : Int).toNat 0) 0) else (none)) else (none)) = some r:=h;clear h;by_cases c3 : 0≤(l0.length : Int)
 rotate_left
 · rw [if_neg c3] at H;exact absurd H (by simp)
 rw [if_pos c3] at H;have c3b0:=eq_true c3;have c3b1 : decide (0≤(l0.length : Int)) = true:=decide_eq_true c3;clear c3;by_cases c4 : ((l0.length : Int) : Int).toNat≤35184372088832
 rotate_left
 · rw [if_neg c4] at H;exact absurd H (by simp)
 rw [if_pos c4] at H;have c4b0:=eq_true c4;have c4b1 : decide (((l0.length : Int) : Int).toNat≤35184372088832) = true:=decide_eq_true c4;clear c4;obtain ⟨y254,hy254⟩ : ∃ y_ : List Int,y_ = (List.replicate ((l0.length : Int) : Int).toNat 0):=⟨_,rfl⟩
 replace H : (estoversref20_inside.l0 k l0 l1 y254 0) = some r:=by first | (rw [hy254];with_reducible exact H) | (have H2_:=(Option.bind_some _ _).symm.trans H;rw [hy254];with_reducible exact H2_) | (have H2_:=(Option.bind_some _ _).symm.trans H;with_reducible exact H2_) | with_reducible exact H | (rw [hy254];exact H) | exact H
 have Ny254:=Aside0.mk hy254;clear hy254;have H':=Aside0.mk H;clear H
 go_enter Try.func96,Try.ntmps96
 go_wp2_with (first | ((with_reducible refine gate_dst (N:=10) rfl ?_);refine Kd.R_make (Kd.int .i64) _ 3 rfl (N:=10) rfl 50 _ _ rfl (l0.length : Int) rfl rfl Try.underlying50 (.int .i64 0) 8 info3 rfl (by decide) (by omega) 0 (ok:=fun _ => True) (okp:=fun _ => True) rfl (fun _ hk => hk) trivial (of_decide_eq_true (by first | (with_reducible assumption) | assumption)) (Nat.le_trans (Nat.mul_le_mul_right _ (of_decide_eq_true (by first | (with_reducible assumption) | assumption) : (l0.length : Int).toNat≤35184372088832)) (by omega)) (Below.refl _ _) (Nat.le_refl _) ?_;intro v255 w5 ho6 hb hg_ hnew_;clear hg_ hnew_;(first | rw [← Ny254.out] at ho6 | (simp only [Int.reduceToNat] at ho6;rw [← Ny254.out] at ho6));have n0_:=Aside0.mk (Kd.R_lower ho6 (below_size (by repeat (first | (with_reducible first | exact HB.out | apply b0_ | apply b1_ | apply b2_) | exact HB.out))));have n1_:=Aside0.mk (below_step (by repeat (first | (with_reducible first | exact HB.out | apply b0_ | apply b1_ | apply b2_) | exact HB.out)) hb);clear HB;have HO256:=n0_;have HB:=n1_;clear n0_ n1_;clear hb ho6))
 go_loopg [6] k (fun kq v6 w' => ∃ (x5_1 : List Int) (x6_1 : Int),v6 = .int .i64 x6_1∧Aside0 (estoversref20_inside.l0 kq l0 l1 x5_1 x6_1 = some r)∧Aside0 (kq≤k)∧Aside0 (Kd.R (Kd.int .i64) 3 w' w.heap.size (fun _ => True) v255 x5_1)∧Aside0 (Below w.heap.size w w'))
 case atStart => exact ⟨(y254),(0),(by first | rfl | (simp;done) | (simp [*];done)),H',⟨Nat.le_refl _⟩,⟨by (with_reducible repeat (first | apply Kd.R_alloc | apply Kd.R_drewN | apply Kd.R_drew));exact HO256.out⟩,⟨by repeat (first | (with_reducible first | exact HB.out | apply b0_ | apply b1_ | apply b2_) | exact HB.out)⟩⟩
 case round =>
  clear H';obtain ⟨x5_1,x6_1,rfl,HA,HK1,HO_5,HB⟩:=hrel
  cases gk with
   | zero => exact absurd HA.out (by simp [estoversref20_inside.l0])
   | succ k1 =>
    have H:=HA.out;clear HA;simp only [estoversref20_inside.l0] at H;by_cases c7 : x6_1 < (l0.length : Int)
    rotate_left
    ·
     rw [if_neg c7] at H;have c7b0 : decide (x6_1 < (l0.length : Int)) = false:=decide_eq_false c7;clear c7;obtain rfl:=Option.some.inj H;go_wp2;go_ret
     exact ⟨_,by first | rfl | (simp [errW_none,errW_some] <;> rfl) | (simp [*,errW_none,errW_some] <;> rfl),by (with_reducible repeat (first | apply Kd.R_alloc | apply Kd.R_drewN | apply Kd.R_drew));exact HO_5.out,by repeat (first | (with_reducible first | exact HB.out | apply b0_ | apply b1_ | apply b2_) | exact HB.out)⟩
    rw [if_pos c7] at H;have c7b0 : decide (x6_1 < (l0.length : Int)) = true:=decide_eq_true c7;clear c7;have H':=Aside0.mk H;clear H;go_wp2
    go_loopg [7] k1 (fun kq v7 w' => ∃ (x5_2 : List Int) (x7_2 : Int),v7 = .int .i64 x7_2∧Aside0 (estoversref20_inside.l1 kq l0 l1 x5_2 x6_1 x7_2 = some r)∧Aside0 (kq≤k1)∧Aside0 (Kd.R (Kd.int .i64) 3 w' w.heap.size (fun _ => True) v255 x5_2)∧Aside0 (Below w.heap.size w w'))
    case atStart => exact ⟨(x5_1),(x6_1),(by first | rfl | (simp;done) | (simp [*];done)),H',⟨Nat.le_refl _⟩,⟨by (with_reducible repeat (first | apply Kd.R_alloc | apply Kd.R_drewN | apply Kd.R_drew));exact HO_5.out⟩,⟨by repeat (first | (with_reducible first | exact HB.out | apply b0_ | apply b1_ | apply b2_) | exact HB.out)⟩⟩
    case round =>
     clear H';obtain ⟨x5_2,x7_2,rfl,HA,HK2,HO_5,HB⟩:=hrel
     cases gk with
      | zero => exact absurd HA.out (by simp [estoversref20_inside.l1])
      | succ k2 =>
       have H:=HA.out;clear HA;simp only [estoversref20_inside.l1] at H;by_cases c8 : x7_2≥0
       rotate_left
       ·
        rw [if_neg c8] at H;have c8b0 : decide (0≤x7_2) = false:=decide_eq_false c8;clear c8;have H':=Aside0.mk H;clear H;go_wp2
        go_roundg k2
        case measure => have:=HK1.out;have:=HK2.out;omega
        case rel => exact ⟨(x5_2),(wrap64 (x6_1 + 1)),(by first | rfl | (simp;done) | (simp [*];done)),H',⟨by have:=HK1.out;have:=HK2.out;omega⟩,⟨by (with_reducible repeat (first | apply Kd.R_alloc | apply Kd.R_drewN | apply Kd.R_drew));exact HO_5.out⟩,⟨by repeat (first | (with_reducible first | exact HB.out | apply b0_ | apply b1_ | apply b2_) | exact HB.out)⟩⟩
       rw [if_pos c8] at H;have c8b0 : decide (0≤x7_2) = true:=decide_eq_true c8;clear c8;by_cases c9 : 0≤x7_2
       rotate_left
       · rw [if_neg c9] at H;exact absurd H (by simp)
       rw [if_pos c9] at H;have c9b0 : decide (0≤x7_2) = true:=decide_eq_true c9;clear c9;by_cases c10 : x7_2 < (x5_2.length : Int)
       rotate_left
       · rw [if_neg c10] at H;exact absurd H (by simp)
       rw [if_pos c10] at H;have c10b0 : decide (x7_2 < (x5_2.length : Int)) = true:=decide_eq_true c10;clear c10;by_cases c11 : 0≤x6_1
       rotate_left
       · rw [if_neg c11] at H;exact absurd H (by simp)
       rw [if_pos c11] at H;have c11b0 : decide (0≤x6_1) = true:=decide_eq_true c11;clear c11;by_cases c12 : x6_1 < (l1.length : Int)
       rotate_left
       · rw [if_neg c12] at H;exact absurd H (by simp)
       rw [if_pos c12] at H;have c12b0 : decide (x6_1 < (l1.length : Int)) = true:=decide_eq_true c12;clear c12;obtain ⟨y259,hy259⟩ : ∃ y_ : List Int,y_ = (x5_2.set (x7_2 : Int).toNat (wrap64 ((rd x5_2 x7_2) + (rd l1 x6_1)))):=⟨_,rfl⟩
       replace H : (if x7_2 < (l0.length : Int) then (estoversref20_inside.l1 k2 l0 l1 y259 x6_1 ((rd_T30 l0 x7_2).f0)) else (none)) = some r:=by first | (rw [hy259];with_reducible exact H) | (have H2_:=(Option.bind_some _ _).symm.trans H;rw [hy259];with_reducible exact H2_) | (have H2_:=(Option.bind_some _ _).symm.trans H;with_reducible exact H2_) | with_reducible exact H | (rw [hy259];exact H) | exact H
       have Ny259:=Aside0.mk hy259;clear hy259;by_cases c14 : x7_2 < (l0.length : Int)
       rotate_left
       · rw [if_neg c14] at H;exact absurd H (by simp)
       rw [if_pos c14] at H;have c14b0 : decide (x7_2 < (l0.length : Int)) = true:=decide_eq_true c14;clear c14;have H':=Aside0.mk H;clear H
       try go_wp2
       have n0_:=Aside0.mk (Kd.R_drew HO_5.out);have n1_:=Aside0.mk (b2_ HB.out);clear HO_5;clear HB;have HO_5:=n0_;have HB:=n1_;clear n0_ n1_;obtain ⟨Ao16,co16,eo16⟩:=Kd.R_slice HO_5.out
       (first | subst eo16 | (injection eo16 with f1_ f2_ f3_;have f4_:=f1_.symm;have f5_:=f3_.symm;clear f1_ f2_ f3_;subst f4_;subst f5_))
       have p257 : 0≤(x7_2 : Int):=of_decide_eq_true (by first | (with_reducible assumption) | assumption);have q257 : x7_2 < (x5_2.length : Int):=of_decide_eq_true (by first | (with_reducible assumption) | assumption);obtain ⟨ad257,e257,hx257_0⟩:=Kd.at_int (Kd.R_reads' HO_5.out).2.2 x7_2 p257 q257;cases e257;replace p257:=eq_true p257;replace q257:=eq_true q257
       have p258 : 0≤(x6_1 : Int):=of_decide_eq_true (by first | (with_reducible assumption) | assumption);have q258 : x6_1 < (l1.length : Int):=of_decide_eq_true (by first | (with_reducible assumption) | assumption);obtain ⟨ad258,e258,hx258_0⟩:=Kd.at_int HR1.out x6_1 p258 q258;have hw258_0:=hx258_0;cases e258
       replace hx258_0:=(HB.out.cell (World.block_lt_of_cell? w _ hx258_0)).trans hx258_0;replace p258:=eq_true p258;replace q258:=eq_true q258;have p13 : 0≤(x7_2 : Int):=of_decide_eq_true (by first | (with_reducible assumption) | assumption);have q13 : (x7_2 : Int) < ((x5_2.length : Int) : Int):=of_decide_eq_true (by first | (with_reducible assumption) | assumption)
       obtain ⟨go13,co13,eo13,gb13,gl13,cl13,HG13⟩:=Kd.R_form HO_5.out (by omega)
       (first | cases eo13 | (injection eo13 with ea_ en_ ec_;(first | subst ea_ | (injection ea_ with ea_;subst ea_));subst ec_;clear en_))
       have GB13:=Aside0.mk gb13;have GG13:=Aside0.mk HG13;clear gb13 gl13 HG13
       (first | simp only [add_plain] at hx257_0 | skip)
       obtain ⟨hx13_0,hf13_0⟩:=Kd.R_celln 0 HO_5.out (x7_2 : Int) p13 q13;replace p13:=eq_true p13;replace q13:=eq_true q13;have HP17:=Kd.R_putn HO_5.out (x7_2 : Int) (wrap64 ((rd x5_2 x7_2) + (rd l1 x6_1)));rw [← Ny259.out] at HP17;have HQ17:=Aside0.mk HP17;clear HP17
       refine start_ (n:=11) (S:=fun w' => w'.cell? ⟨go13,(x7_2).toNat,none⟩ = some (.int .i64 (rd x5_2 x7_2))∧w'.cell? (ad258.add (x6_1).toNat) = some (.int .i64 (rd l1 x6_1))) (ds:=[10]) #[F0,F0,F0,F0,F0,F0,F0,F0,F0,F0,F0] (by kernel_rfl) rfl rfl ⟨hx257_0,((HB.out.cell (World.block_lt_of_cell? w _ hw258_0)).trans hw258_0)⟩ (fun hHeld => ?_);refine with_tabW estoversref20_inside.tab8 estoversref20_inside.bits8 (fun HT_ HW_ => ?_)
       generalize wr.drew = w15 at HO_5 HB GG13 HQ17 hf13_0 hx13_0 hx257_0 hx258_0 hHeld ⊢;refine pure_ (i:=0) (N:=some 25) (v:=?_) (a':=?_) #[T0,F0,F0,F0,F0,F0,F0,F0,F0,F0,F0] rfl rfl (any_of HT_.out (by kernel_rfl)) (fun _ _ _ h => h) (Or.inl ⟨by rfl,?_⟩) ?_ ?_
       rotate_left
       · intro w';go_simp;with_reducible rfl
       rotate_left
       · simp only [Act.put,z0_,z1_,z2_,i64_w,i32_w];rfl
       refine pure_ (i:=1) (N:=some 26) (v:=?_) (a':=?_) #[T0,T0,F0,F0,F0,F0,F0,F0,F0,F0,F0] rfl rfl (any_of HT_.out (by kernel_rfl)) (fun _ _ _ h => h) (Or.inl ⟨by rfl,?_⟩) ?_ ?_
       rotate_left
       · intro w';go_simp;with_reducible rfl
       rotate_left
       · simp only [Act.put,z0_,z1_,z2_,i64_w,i32_w];rfl
       refine pure_ (i:=2) (N:=some 27) (v:=?_) (a':=?_) #[T0,T0,T0,F0,F0,F0,F0,F0,F0,F0,F0] rfl rfl (any_of HT_.out (by kernel_rfl)) (fun _ _ _ h => h) (Or.inl ⟨by rfl,?_⟩) ?_ ?_
       rotate_left
       · intro w';go_simp;with_reducible rfl
       rotate_left
       · simp only [Act.put,z0_,z1_,z2_,i64_w,i32_w];rfl
       refine pure_ (i:=4) (N:=some 29) (v:=?_) (a':=?_) #[T0,T0,T0,F0,T0,F0,F0,F0,F0,F0,F0] rfl rfl (any_of HT_.out (by kernel_rfl)) (fun _ _ _ h => h) (Or.inl ⟨by rfl,?_⟩) ?_ ?_
       rotate_left
       · intro w';go_simp;with_reducible rfl
       rotate_left
       · simp only [Act.put,z0_,z1_,z2_,i64_w,i32_w];rfl
       refine pure_ (i:=5) (N:=some 30) (v:=?_) (a':=?_) #[T0,T0,T0,F0,T0,T0,F0,F0,F0,F0,F0] rfl rfl (any_of HT_.out (by kernel_rfl)) (fun _ _ _ h => h) (Or.inl ⟨by rfl,?_⟩) ?_ ?_
       rotate_left
       · intro w';go_simp;with_reducible rfl
       rotate_left
       · simp only [Act.put,z0_,z1_,z2_,i64_w,i32_w];rfl
       refine pure_ (i:=6) (N:=some 31) (v:=?_) (a':=?_) #[T0,T0,T0,F0,T0,T0,T0,F0,F0,F0,F0] rfl rfl (any_of HT_.out (by kernel_rfl)) (fun _ _ _ h => h) (Or.inl ⟨by rfl,?_⟩) ?_ ?_
       rotate_left
       · intro w';go_simp;with_reducible rfl
       rotate_left
       · simp only [Act.put,z0_,z1_,z2_,i64_w,i32_w];rfl
       refine take_ (i:=3) (N:=some 28) (v:=?_) (a':=?_) #[T0,T0,T0,T0,T0,T0,T0,F0,F0,F0,F0] rfl rfl (take_ofW HT_.out HW_.out (by kernel_rfl)) (fun _ _ _ h => h) (Or.inl ⟨by rfl,?_⟩) hHeld ?_ ?_
       rotate_left
       ·
        rintro w' ⟨s0,s1⟩
        go_simp;with_reducible rfl
       rotate_left
       · simp only [Act.put,z0_,z1_,z2_,i64_w,i32_w];rfl
       refine take_ (i:=7) (N:=some 32) (v:=?_) (a':=?_) #[T0,T0,T0,T0,T0,T0,T0,T0,F0,F0,F0] rfl rfl (take_ofW HT_.out HW_.out (by kernel_rfl)) (fun _ _ _ h => h) (Or.inl ⟨by rfl,?_⟩) hHeld ?_ ?_
       rotate_left
       ·
        rintro w' ⟨s0,s1⟩
        go_simp;with_reducible rfl
       rotate_left
       · simp only [Act.put,z0_,z1_,z2_,i64_w,i32_w];rfl
       refine pure_ (i:=8) (N:=some 33) (v:=?_) (a':=?_) #[T0,T0,T0,T0,T0,T0,T0,T0,T0,F0,F0] rfl rfl (any_of HT_.out (by kernel_rfl)) (fun _ _ _ h => h) (Or.inl ⟨by rfl,?_⟩) ?_ ?_
       rotate_left
       · intro w';go_simp;with_reducible rfl
       rotate_left
       · simp only [Act.put,z0_,z1_,z2_,i64_w,i32_w];rfl
       refine pure_ (i:=9) (N:=some 34) (v:=?_) (a':=?_) #[T0,T0,T0,T0,T0,T0,T0,T0,T0,T0,F0] rfl rfl (any_of HT_.out (by kernel_rfl)) (fun _ _ _ h => h) (Or.inl ⟨by rfl,?_⟩) ?_ ?_
       rotate_left
       · intro w';go_simp;with_reducible rfl
       rotate_left
       · simp only [Act.put,z0_,z1_,z2_,i64_w,i32_w];rfl
       refine last_ (i:=10) (N:=none) #[T0,T0,T0,T0,T0,T0,T0,T0,T0,T0,T0] rfl rfl (one_of HT_.out (by kernel_rfl)) (by decide) (fun K hK => ?_);refine skip_ (w1:=?_) (by rfl) rfl ?_ ?_
       rotate_left
       · go_simp;rfl
       refine hK.out _ _ ?_;clear hK K;refine done_ (done_of HT_.out (by kernel_rfl)) ?_;have p260 : 0≤(x7_2 : Int):=of_decide_eq_true (by first | (with_reducible assumption) | assumption);have q260 : x7_2 < (l0.length : Int):=of_decide_eq_true (by first | (with_reducible assumption) | assumption);obtain ⟨ad260,e260,hx260_0,hx260_1,hx260_2,hx260_3,hx260_4⟩:=at_T30 HR0.out x7_2 p260 q260
       cases e260;have hn260_0 : ad260.block≠go13:=Nat.ne_of_lt (Nat.lt_of_lt_of_le (by have:=World.block_lt_of_cell? _ _ hx260_0;first | rwa [add_block] at this | exact this) GB13.out);replace hx260_0:=(HB.out.cell (World.block_lt_of_cell? w _ hx260_0)).trans hx260_0;replace hx260_1:=(HB.out.cell (World.block_lt_of_cell? w _ hx260_1)).trans hx260_1
       replace hx260_2:=(HB.out.cell (World.block_lt_of_cell? w _ hx260_2)).trans hx260_2;replace hx260_3:=(HB.out.cell (World.block_lt_of_cell? w _ hx260_3)).trans hx260_3;replace hx260_4:=(HB.out.cell (World.block_lt_of_cell? w _ hx260_4)).trans hx260_4
       replace hx260_0:=(cell_far (p:=⟨go13,(x7_2 : Int).toNat,none⟩) (by first | (rw [add_block];exact hn260_0) | (show (Addr.add _ _).block≠_;rw [add_block];exact hn260_0) | exact hn260_0) (.int .i64 (wrap64 ((rd x5_2 x7_2) + (rd l1 x6_1))))).trans hx260_0
       replace hx260_1:=(cell_far (p:=⟨go13,(x7_2 : Int).toNat,none⟩) (by first | (rw [add_block];exact hn260_0) | (show (Addr.add _ _).block≠_;rw [add_block];exact hn260_0) | exact hn260_0) (.int .i64 (wrap64 ((rd x5_2 x7_2) + (rd l1 x6_1))))).trans hx260_1
       replace hx260_2:=(cell_far (p:=⟨go13,(x7_2 : Int).toNat,none⟩) (by first | (rw [add_block];exact hn260_0) | (show (Addr.add _ _).block≠_;rw [add_block];exact hn260_0) | exact hn260_0) (.int .i64 (wrap64 ((rd x5_2 x7_2) + (rd l1 x6_1))))).trans hx260_2
       replace hx260_3:=(cell_far (p:=⟨go13,(x7_2 : Int).toNat,none⟩) (by first | (rw [add_block];exact hn260_0) | (show (Addr.add _ _).block≠_;rw [add_block];exact hn260_0) | exact hn260_0) (.int .i64 (wrap64 ((rd x5_2 x7_2) + (rd l1 x6_1))))).trans hx260_3
       replace hx260_4:=(cell_far (p:=⟨go13,(x7_2 : Int).toNat,none⟩) (by first | (rw [add_block];exact hn260_0) | (show (Addr.add _ _).block≠_;rw [add_block];exact hn260_0) | exact hn260_0) (.int .i64 (wrap64 ((rd x5_2 x7_2) + (rd l1 x6_1))))).trans hx260_4;clear hn260_0;replace p260:=eq_true p260;replace q260:=eq_true q260
       try go_wp2
       go_roundg k2
       case measure => have:=HK1.out;have:=HK2.out;omega
       case rel => exact ⟨(y259),((rd_T30 l0 x7_2).f0),(by first | rfl | (simp;done) | (simp [*];done)),H',⟨by have:=HK1.out;have:=HK2.out;omega⟩,⟨by (with_reducible repeat (first | apply Kd.R_alloc | apply Kd.R_drewN | apply Kd.R_drew));exact HQ17.out⟩,⟨by repeat (first | (with_reducible first | exact HB.out | apply b0_ | apply b1_ | apply b2_ | refine below_set ?_ GB13.out) | exact HB.out)⟩⟩
end Go.Proofs.Ytnmenfkmndnoaaa.Pr
