-- Written by a program of this session (a changed copy of the kit's printer). Not trusted: Lean checks it.
import Derived.Test.YtnmenfkmndnoaaaM0
import Derived.Test.YtnmenfkmndnoaaaM1
namespace Go.Proofs.Ytnmenfkmndnoaaa.Pr
open Go.RowKit Go.Proofs.YtnmenfkmndnoaaaW.PrintWords Go.Proofs.YtnmenfkmndnoaaaW.PrintLast Go.Proofs.YtnmenfkmndnoaaaW.PrintMore
attribute [local go_sem] max2_int min2_int max_two min_two max_three min_three max_four min_four
set_option linter.unusedVariables false
set_option linter.unusedSimpArgs false
def protection_inside.l0 : Nat→List (S30)→List Int→List Int→Int→Option (List Int)
 | 0,_,_,_,_ => none
 | k + 1,x0,x1,x5,x6 => if x6≥0 then (if 0≤x6 then (if x6 < (x5.length : Int) then (if x6 < (x1.length : Int) then ((some (x5.set (x6 : Int).toNat (wrap64 ((rd x5 x6) + (rd x1 x6))) : List Int)).bind fun y143 => (if x6 > 0 then (if x6 < (x0.length : Int) then (if 0≤((rd_T30 x0 x6).f0) then (if ((rd_T30 x0 x6).f0) < (x5.length : Int) then (protection_inside.l0 k x0 x1 (y143.set (((rd_T30 x0 x6).f0) : Int).toNat (wrap64 ((rd y143 ((rd_T30 x0 x6).f0)) + (rd y143 x6)))) (wrap64 (x6 - 1))) else (none)) else (none)) else (none)) else (protection_inside.l0 k x0 x1 y143 (wrap64 (x6 - 1))))) else (none)) else (none)) else (none)) else (some x5)
def protection_inside.f (k : Nat) (l0 : List (S30)) (l1 : List Int) : Option (List Int):=if 0≤(l0.length : Int) then (if ((l0.length : Int) : Int).toNat≤35184372088832 then (protection_inside.l0 k l0 l1 (List.replicate ((l0.length : Int) : Int).toNat 0) (wrap64 ((l0.length : Int) - 1))) else (none)) else (none)
theorem protection_inside.mono_l : ∀ k,(∀ y0 y1 y2 y3,LeO (protection_inside.l0 k y0 y1 y2 y3) (protection_inside.l0 (k + 1) y0 y1 y2 y3))
 | 0 => fun _ _ _ _ r h => by simp [protection_inside.l0] at h
 | k + 1 => by
  have ih0:=protection_inside.mono_l k
  ·
   intro y0 y1 y2 y3
   unfold protection_inside.l0
   repeat' first
    | (with_reducible exact ih0 _ _ _ _)
    | (with_reducible exact LeO.refl _)
    | (with_reducible exact LeO.none _)
    | (with_reducible refine LeO.ite ?_ ?_)
    | (with_reducible refine LeO.bind ?_ (fun _ => ?_))
    | exact ih0 _ _ _ _
    | exact LeO.none _
    | refine LeO.ite ?_ ?_
    | refine LeO.bind ?_ (fun _ => ?_)
theorem protection_inside.mono : ∀ a0 a1 k,LeO (protection_inside.f k a0 a1) (protection_inside.f (k + 1) a0 a1):=by
 intro a0 a1 k;have ih0:=protection_inside.mono_l k
 unfold protection_inside.f
 repeat' first
  | (with_reducible exact ih0 _ _ _ _)
  | (with_reducible exact LeO.refl _)
  | (with_reducible exact LeO.none _)
  | (with_reducible refine LeO.ite ?_ ?_)
  | (with_reducible refine LeO.bind ?_ (fun _ => ?_))
  | exact ih0 _ _ _ _
  | exact LeO.none _
  | refine LeO.ite ?_ ?_
  | refine LeO.bind ?_ (fun _ => ?_)
def protection_inside.T5 : Bool × List (List Nat × List Nat):=(true,[([],[]),([],[]),([0,1],[0,1]),([2],[2]),([],[]),([],[]),([4,5],[4,5]),([6],[6]),([3,7],[3,7]),([0,1,0,1,2,3,4,5,6,7,8],[0,1]),([9,8,0,1,2,3,4,5,6,7,8],[8,9])])
def protection_inside.B5 : List Nat:=[0,0,3,7,0,0,48,112,255,511,1023]
theorem protection_inside.tab5 : rtab .any (opsOf Try.f90 5) = protection_inside.T5:=by kernel_rfl
theorem protection_inside.bits5 : waitsOk protection_inside.T5.2 protection_inside.B5 = true:=by kernel_rfl
def protection_inside.T7 : Bool × List (List Nat × List Nat):=(true,[([],[]),([],[]),([],[]),([1,2],[1,2]),([3],[3]),([4],[4]),([0,5],[0,5]),([6],[6]),([],[]),([],[]),([8,9],[8,9]),([10],[10]),([7,11],[7,11]),([0,5,0,1,2,3,4,5,6,7,8,9,10,11,12],[0,5]),([13,12,0,1,2,3,4,5,6,7,8,9,10,11,12],[12,13])])
def protection_inside.B7 : List Nat:=[0,0,0,6,14,30,63,127,0,0,768,1792,4095,8191,16383]
theorem protection_inside.tab7 : rtab .any (opsOf Try.f90 7) = protection_inside.T7:=by kernel_rfl
theorem protection_inside.bits7 : waitsOk protection_inside.T7.2 protection_inside.B7 = true:=by kernel_rfl
set_option maxHeartbeats 8000000 in
set_option maxRecDepth 100000 in
theorem protection_inside.calls (k : Nat) (A0 : Option Addr) (c0 : Nat) (l0 : List (S30)) (A1 : Option Addr) (c1 : Nat) (l1 : List Int) (r : List Int) (w : World) (hr0 : Kd.C k30 w A0 l0.length l0) (hc0 : l0.length≤c0) (hr1 : Kd.C (Kd.int .i64) w A1 l1.length l1) (hc1 : l1.length≤c1) (h : protection_inside.f k l0 l1 = some r) :
 Calls Try.prog 90 #[.slice A0 l0.length c0,.slice A1 l1.length c1] w fun e w' => ∃ v0_ : Value,e = .returned (v0_)∧Kd.R (Kd.int .i64) 3 w' w.heap.size (fun _ => True) v0_ r∧Below w.heap.size w w':=by
 have HR0:=Aside0.mk hr0;have HC0:=Aside0.mk hc0;clear hr0 hc0;have HR1:=Aside0.mk hr1;have HC1:=Aside0.mk hc1;clear hr1 hc1;have HB:=Aside0.mk (Below.refl w.heap.size w)
 have H : (if 0≤(l0.length : Int) then (if ((l0.length : Int) : Int).toNat≤35184372088832 then (protection_inside.l0 k l0 l1 (List.replicate ((l0.length : Int) : Int).toNat 0) (wrap64 ((l0.length : Int) - 1))) else (none)) else (none)) = some r:=h;clear h;by_cases c3 : 0≤(l0.length : Int)
 rotate_left
 · rw [if_neg c3] at H;exact absurd H (by simp)
 rw [if_pos c3] at H;have c3b0:=eq_true c3;have c3b1 : decide (0≤(l0.length : Int)) = true:=decide_eq_true c3;clear c3;by_cases c4 : ((l0.length : Int) : Int).toNat≤35184372088832
 rotate_left
 · rw [if_neg c4] at H;exact absurd H (by simp)
 rw [if_pos c4] at H;have c4b0:=eq_true c4;have c4b1 : decide (((l0.length : Int) : Int).toNat≤35184372088832) = true:=decide_eq_true c4;clear c4;obtain ⟨y138,hy138⟩ : ∃ y_ : List Int,y_ = (List.replicate ((l0.length : Int) : Int).toNat 0):=⟨_,rfl⟩
 replace H : (protection_inside.l0 k l0 l1 y138 (wrap64 ((l0.length : Int) - 1))) = some r:=by first | (rw [hy138];with_reducible exact H) | (have H2_:=(Option.bind_some _ _).symm.trans H;rw [hy138];with_reducible exact H2_) | (have H2_:=(Option.bind_some _ _).symm.trans H;with_reducible exact H2_) | with_reducible exact H | (rw [hy138];exact H) | exact H
 have Ny138:=Aside0.mk hy138;clear hy138;have H':=Aside0.mk H;clear H
 go_enter Try.func90,Try.ntmps90
 go_wp2_with (first | ((with_reducible refine gate_dst (N:=9) rfl ?_);refine Kd.R_make (Kd.int .i64) _ 3 rfl (N:=9) rfl 50 _ _ rfl (l0.length : Int) rfl rfl Try.underlying50 (.int .i64 0) 8 info3 rfl (by decide) (by omega) 0 (ok:=fun _ => True) (okp:=fun _ => True) rfl (fun _ hk => hk) trivial (of_decide_eq_true (by first | (with_reducible assumption) | assumption)) (Nat.le_trans (Nat.mul_le_mul_right _ (of_decide_eq_true (by first | (with_reducible assumption) | assumption) : (l0.length : Int).toNat≤35184372088832)) (by omega)) (Below.refl _ _) (Nat.le_refl _) ?_;intro v139 w5 ho6 hb hg_ hnew_;clear hg_ hnew_;(first | rw [← Ny138.out] at ho6 | (simp only [Int.reduceToNat] at ho6;rw [← Ny138.out] at ho6));have n0_:=Aside0.mk (Kd.R_lower ho6 (below_size (by repeat (first | (with_reducible first | exact HB.out | apply b0_ | apply b1_ | apply b2_) | exact HB.out))));have n1_:=Aside0.mk (below_step (by repeat (first | (with_reducible first | exact HB.out | apply b0_ | apply b1_ | apply b2_) | exact HB.out)) hb);clear HB;have HO140:=n0_;have HB:=n1_;clear n0_ n1_;clear hb ho6))
 go_loopg [6] k (fun kq v6 w' => ∃ (x5_1 : List Int) (x6_1 : Int),v6 = .int .i64 x6_1∧Aside0 (protection_inside.l0 kq l0 l1 x5_1 x6_1 = some r)∧Aside0 (kq≤k)∧Aside0 (Kd.R (Kd.int .i64) 3 w' w.heap.size (fun _ => True) v139 x5_1)∧Aside0 (Below w.heap.size w w'))
 case atStart => exact ⟨(y138),(wrap64 ((l0.length : Int) - 1)),(by first | rfl | (simp;done) | (simp [*];done)),H',⟨Nat.le_refl _⟩,⟨by (with_reducible repeat (first | apply Kd.R_alloc | apply Kd.R_drewN | apply Kd.R_drew));exact HO140.out⟩,⟨by repeat (first | (with_reducible first | exact HB.out | apply b0_ | apply b1_ | apply b2_) | exact HB.out)⟩⟩
 case round =>
  clear H';obtain ⟨x5_1,x6_1,rfl,HA,HK1,HO_5,HB⟩:=hrel
  cases gk with
   | zero => exact absurd HA.out (by simp [protection_inside.l0])
   | succ k1 =>
    have H:=HA.out;clear HA;simp only [protection_inside.l0] at H;by_cases c7 : x6_1≥0
    rotate_left
    ·
     rw [if_neg c7] at H;have c7b0 : decide (0≤x6_1) = false:=decide_eq_false c7;clear c7;obtain rfl:=Option.some.inj H;go_wp2;go_ret
     exact ⟨_,by first | rfl | (simp [errW_none,errW_some] <;> rfl) | (simp [*,errW_none,errW_some] <;> rfl),by (with_reducible repeat (first | apply Kd.R_alloc | apply Kd.R_drewN | apply Kd.R_drew));exact HO_5.out,by repeat (first | (with_reducible first | exact HB.out | apply b0_ | apply b1_ | apply b2_) | exact HB.out)⟩
    rw [if_pos c7] at H;have c7b0 : decide (0≤x6_1) = true:=decide_eq_true c7;clear c7;by_cases c8 : 0≤x6_1
    rotate_left
    · rw [if_neg c8] at H;exact absurd H (by simp)
    rw [if_pos c8] at H;have c8b0 : decide (0≤x6_1) = true:=decide_eq_true c8;clear c8;by_cases c9 : x6_1 < (x5_1.length : Int)
    rotate_left
    · rw [if_neg c9] at H;exact absurd H (by simp)
    rw [if_pos c9] at H;have c9b0 : decide (x6_1 < (x5_1.length : Int)) = true:=decide_eq_true c9;clear c9;by_cases c10 : x6_1 < (l1.length : Int)
    rotate_left
    · rw [if_neg c10] at H;exact absurd H (by simp)
    rw [if_pos c10] at H;have c10b0 : decide (x6_1 < (l1.length : Int)) = true:=decide_eq_true c10;clear c10;obtain ⟨y143,hy143⟩ : ∃ y_ : List Int,y_ = (x5_1.set (x6_1 : Int).toNat (wrap64 ((rd x5_1 x6_1) + (rd l1 x6_1)))):=⟨_,rfl⟩
    replace H : (if x6_1 > 0 then (if x6_1 < (l0.length : Int) then (if 0≤((rd_T30 l0 x6_1).f0) then (if ((rd_T30 l0 x6_1).f0) < (x5_1.length : Int) then (protection_inside.l0 k1 l0 l1 (y143.set (((rd_T30 l0 x6_1).f0) : Int).toNat (wrap64 ((rd y143 ((rd_T30 l0 x6_1).f0)) + (rd y143 x6_1)))) (wrap64 (x6_1 - 1))) else (none)) else (none)) else (none)) else (protection_inside.l0 k1 l0 l1 y143 (wrap64 (x6_1 - 1)))) = some r:=by first | (rw [hy143];with_reducible exact H) | (have H2_:=(Option.bind_some _ _).symm.trans H;rw [hy143];with_reducible exact H2_) | (have H2_:=(Option.bind_some _ _).symm.trans H;with_reducible exact H2_) | with_reducible exact H | (rw [hy143];exact H) | exact H
    have Ny143:=Aside0.mk hy143;clear hy143;by_cases c12 : x6_1 > 0
    rotate_left
    ·
     rw [if_neg c12] at H;have c12b0 : decide (0 < x6_1) = false:=decide_eq_false c12;clear c12;have H':=Aside0.mk H;clear H
     try go_wp2
     have n0_:=Aside0.mk (Kd.R_drew HO_5.out);have n1_:=Aside0.mk (b2_ HB.out);clear HO_5;clear HB;have HO_5:=n0_;have HB:=n1_;clear n0_ n1_;obtain ⟨Ao24,co24,eo24⟩:=Kd.R_slice HO_5.out
     (first | subst eo24 | (injection eo24 with f1_ f2_ f3_;have f4_:=f1_.symm;have f5_:=f3_.symm;clear f1_ f2_ f3_;subst f4_;subst f5_))
     have p141 : 0≤(x6_1 : Int):=of_decide_eq_true (by first | (with_reducible assumption) | assumption);have q141 : x6_1 < (x5_1.length : Int):=of_decide_eq_true (by first | (with_reducible assumption) | assumption);obtain ⟨ad141,e141,hx141_0⟩:=Kd.at_int (Kd.R_reads' HO_5.out).2.2 x6_1 p141 q141;cases e141;replace p141:=eq_true p141;replace q141:=eq_true q141
     have p142 : 0≤(x6_1 : Int):=of_decide_eq_true (by first | (with_reducible assumption) | assumption);have q142 : x6_1 < (l1.length : Int):=of_decide_eq_true (by first | (with_reducible assumption) | assumption);obtain ⟨ad142,e142,hx142_0⟩:=Kd.at_int HR1.out x6_1 p142 q142;have hw142_0:=hx142_0;cases e142
     replace hx142_0:=(HB.out.cell (World.block_lt_of_cell? w _ hx142_0)).trans hx142_0;replace p142:=eq_true p142;replace q142:=eq_true q142;have p11 : 0≤(x6_1 : Int):=of_decide_eq_true (by first | (with_reducible assumption) | assumption);have q11 : (x6_1 : Int) < ((x5_1.length : Int) : Int):=of_decide_eq_true (by first | (with_reducible assumption) | assumption)
     obtain ⟨go11,co11,eo11,gb11,gl11,cl11,HG11⟩:=Kd.R_form HO_5.out (by omega)
     (first | cases eo11 | (injection eo11 with ea_ en_ ec_;(first | subst ea_ | (injection ea_ with ea_;subst ea_));subst ec_;clear en_))
     have GB11:=Aside0.mk gb11;have GG11:=Aside0.mk HG11;clear gb11 gl11 HG11
     (first | simp only [add_plain] at hx141_0 | skip)
     obtain ⟨hx11_0,hf11_0⟩:=Kd.R_celln 0 HO_5.out (x6_1 : Int) p11 q11;replace p11:=eq_true p11;replace q11:=eq_true q11;have HP25:=Kd.R_putn HO_5.out (x6_1 : Int) (wrap64 ((rd x5_1 x6_1) + (rd l1 x6_1)));rw [← Ny143.out] at HP25;have HQ25:=Aside0.mk HP25;clear HP25
     refine start_ (n:=11) (S:=fun w' => w'.cell? ⟨go11,(x6_1).toNat,none⟩ = some (.int .i64 (rd x5_1 x6_1))∧w'.cell? (ad142.add (x6_1).toNat) = some (.int .i64 (rd l1 x6_1))) (ds:=[10]) #[F0,F0,F0,F0,F0,F0,F0,F0,F0,F0,F0] (by kernel_rfl) rfl rfl ⟨hx141_0,((HB.out.cell (World.block_lt_of_cell? w _ hw142_0)).trans hw142_0)⟩ (fun hHeld => ?_);refine with_tabW protection_inside.tab5 protection_inside.bits5 (fun HT_ HW_ => ?_)
     generalize wr.drew = w23 at HO_5 HB GG11 HQ25 hf11_0 hx11_0 hx141_0 hx142_0 hHeld ⊢;refine pure_ (i:=0) (N:=some 17) (v:=?_) (a':=?_) #[T0,F0,F0,F0,F0,F0,F0,F0,F0,F0,F0] rfl rfl (any_of HT_.out (by kernel_rfl)) (fun _ _ _ h => h) (Or.inl ⟨by rfl,?_⟩) ?_ ?_
     rotate_left
     · intro w';go_simp;with_reducible rfl
     rotate_left
     · simp only [Act.put,z0_,z1_,z2_,i64_w,i32_w];rfl
     refine pure_ (i:=1) (N:=some 18) (v:=?_) (a':=?_) #[T0,T0,F0,F0,F0,F0,F0,F0,F0,F0,F0] rfl rfl (any_of HT_.out (by kernel_rfl)) (fun _ _ _ h => h) (Or.inl ⟨by rfl,?_⟩) ?_ ?_
     rotate_left
     · intro w';go_simp;with_reducible rfl
     rotate_left
     · simp only [Act.put,z0_,z1_,z2_,i64_w,i32_w];rfl
     refine pure_ (i:=2) (N:=some 19) (v:=?_) (a':=?_) #[T0,T0,T0,F0,F0,F0,F0,F0,F0,F0,F0] rfl rfl (any_of HT_.out (by kernel_rfl)) (fun _ _ _ h => h) (Or.inl ⟨by rfl,?_⟩) ?_ ?_
     rotate_left
     · intro w';go_simp;with_reducible rfl
     rotate_left
     · simp only [Act.put,z0_,z1_,z2_,i64_w,i32_w];rfl
     refine pure_ (i:=4) (N:=some 21) (v:=?_) (a':=?_) #[T0,T0,T0,F0,T0,F0,F0,F0,F0,F0,F0] rfl rfl (any_of HT_.out (by kernel_rfl)) (fun _ _ _ h => h) (Or.inl ⟨by rfl,?_⟩) ?_ ?_
     rotate_left
     · intro w';go_simp;with_reducible rfl
     rotate_left
     · simp only [Act.put,z0_,z1_,z2_,i64_w,i32_w];rfl
     refine pure_ (i:=5) (N:=some 22) (v:=?_) (a':=?_) #[T0,T0,T0,F0,T0,T0,F0,F0,F0,F0,F0] rfl rfl (any_of HT_.out (by kernel_rfl)) (fun _ _ _ h => h) (Or.inl ⟨by rfl,?_⟩) ?_ ?_
     rotate_left
     · intro w';go_simp;with_reducible rfl
     rotate_left
     · simp only [Act.put,z0_,z1_,z2_,i64_w,i32_w];rfl
     refine pure_ (i:=6) (N:=some 23) (v:=?_) (a':=?_) #[T0,T0,T0,F0,T0,T0,T0,F0,F0,F0,F0] rfl rfl (any_of HT_.out (by kernel_rfl)) (fun _ _ _ h => h) (Or.inl ⟨by rfl,?_⟩) ?_ ?_
     rotate_left
     · intro w';go_simp;with_reducible rfl
     rotate_left
     · simp only [Act.put,z0_,z1_,z2_,i64_w,i32_w];rfl
     refine take_ (i:=3) (N:=some 20) (v:=?_) (a':=?_) #[T0,T0,T0,T0,T0,T0,T0,F0,F0,F0,F0] rfl rfl (take_ofW HT_.out HW_.out (by kernel_rfl)) (fun _ _ _ h => h) (Or.inl ⟨by rfl,?_⟩) hHeld ?_ ?_
     rotate_left
     ·
      rintro w' ⟨s0,s1⟩
      go_simp;with_reducible rfl
     rotate_left
     · simp only [Act.put,z0_,z1_,z2_,i64_w,i32_w];rfl
     refine take_ (i:=7) (N:=some 24) (v:=?_) (a':=?_) #[T0,T0,T0,T0,T0,T0,T0,T0,F0,F0,F0] rfl rfl (take_ofW HT_.out HW_.out (by kernel_rfl)) (fun _ _ _ h => h) (Or.inl ⟨by rfl,?_⟩) hHeld ?_ ?_
     rotate_left
     ·
      rintro w' ⟨s0,s1⟩
      go_simp;with_reducible rfl
     rotate_left
     · simp only [Act.put,z0_,z1_,z2_,i64_w,i32_w];rfl
     refine pure_ (i:=8) (N:=some 25) (v:=?_) (a':=?_) #[T0,T0,T0,T0,T0,T0,T0,T0,T0,F0,F0] rfl rfl (any_of HT_.out (by kernel_rfl)) (fun _ _ _ h => h) (Or.inl ⟨by rfl,?_⟩) ?_ ?_
     rotate_left
     · intro w';go_simp;with_reducible rfl
     rotate_left
     · simp only [Act.put,z0_,z1_,z2_,i64_w,i32_w];rfl
     refine pure_ (i:=9) (N:=some 26) (v:=?_) (a':=?_) #[T0,T0,T0,T0,T0,T0,T0,T0,T0,T0,F0] rfl rfl (any_of HT_.out (by kernel_rfl)) (fun _ _ _ h => h) (Or.inl ⟨by rfl,?_⟩) ?_ ?_
     rotate_left
     · intro w';go_simp;with_reducible rfl
     rotate_left
     · simp only [Act.put,z0_,z1_,z2_,i64_w,i32_w];rfl
     refine last_ (i:=10) (N:=none) #[T0,T0,T0,T0,T0,T0,T0,T0,T0,T0,T0] rfl rfl (one_of HT_.out (by kernel_rfl)) (by decide) (fun K hK => ?_);refine skip_ (w1:=?_) (by rfl) rfl ?_ ?_
     rotate_left
     · go_simp;rfl
     refine hK.out _ _ ?_;clear hK K;refine done_ (done_of HT_.out (by kernel_rfl)) ?_
     try go_wp2
     go_roundg k1
     case measure => have:=HK1.out;omega
     case rel => exact ⟨(y143),(wrap64 (x6_1 - 1)),(by first | rfl | (simp;done) | (simp [*];done)),H',⟨by have:=HK1.out;omega⟩,⟨by (with_reducible repeat (first | apply Kd.R_alloc | apply Kd.R_drewN | apply Kd.R_drew));exact HQ25.out⟩,⟨by repeat (first | (with_reducible first | exact HB.out | apply b0_ | apply b1_ | apply b2_ | refine below_set ?_ GB11.out) | exact HB.out)⟩⟩
    rw [if_pos c12] at H;have c12b0 : decide (0 < x6_1) = true:=decide_eq_true c12;clear c12;by_cases c13 : x6_1 < (l0.length : Int)
    rotate_left
    · rw [if_neg c13] at H;exact absurd H (by simp)
    rw [if_pos c13] at H;have c13b0 : decide (x6_1 < (l0.length : Int)) = true:=decide_eq_true c13;clear c13;by_cases c14 : 0≤((rd_T30 l0 x6_1).f0)
    rotate_left
    · rw [if_neg c14] at H;exact absurd H (by simp)
    rw [if_pos c14] at H;have c14b0 : decide (0≤((rd_T30 l0 x6_1).f0)) = true:=decide_eq_true c14;clear c14;by_cases c15 : ((rd_T30 l0 x6_1).f0) < (x5_1.length : Int)
    rotate_left
    · rw [if_neg c15] at H;exact absurd H (by simp)
    rw [if_pos c15] at H;have c15b0 : decide (((rd_T30 l0 x6_1).f0) < (x5_1.length : Int)) = true:=decide_eq_true c15;clear c15;obtain ⟨y147,hy147⟩ : ∃ y_ : List Int,y_ = (y143.set (((rd_T30 l0 x6_1).f0) : Int).toNat (wrap64 ((rd y143 ((rd_T30 l0 x6_1).f0)) + (rd y143 x6_1)))):=⟨_,rfl⟩
    replace H : (protection_inside.l0 k1 l0 l1 y147 (wrap64 (x6_1 - 1))) = some r:=by first | (rw [hy147];with_reducible exact H) | (have H2_:=(Option.bind_some _ _).symm.trans H;rw [hy147];with_reducible exact H2_) | (have H2_:=(Option.bind_some _ _).symm.trans H;with_reducible exact H2_) | with_reducible exact H | (rw [hy147];exact H) | exact H
    have Ny147:=Aside0.mk hy147;clear hy147;have H':=Aside0.mk H;clear H
    try go_wp2
    have n0_:=Aside0.mk (Kd.R_drew HO_5.out);have n1_:=Aside0.mk (b2_ HB.out);clear HO_5;clear HB;have HO_5:=n0_;have HB:=n1_;clear n0_ n1_;obtain ⟨Ao18,co18,eo18⟩:=Kd.R_slice HO_5.out
    (first | subst eo18 | (injection eo18 with f1_ f2_ f3_;have f4_:=f1_.symm;have f5_:=f3_.symm;clear f1_ f2_ f3_;subst f4_;subst f5_))
    have p141 : 0≤(x6_1 : Int):=of_decide_eq_true (by first | (with_reducible assumption) | assumption);have q141 : x6_1 < (x5_1.length : Int):=of_decide_eq_true (by first | (with_reducible assumption) | assumption);obtain ⟨ad141,e141,hx141_0⟩:=Kd.at_int (Kd.R_reads' HO_5.out).2.2 x6_1 p141 q141;cases e141;replace p141:=eq_true p141;replace q141:=eq_true q141
    have p142 : 0≤(x6_1 : Int):=of_decide_eq_true (by first | (with_reducible assumption) | assumption);have q142 : x6_1 < (l1.length : Int):=of_decide_eq_true (by first | (with_reducible assumption) | assumption);obtain ⟨ad142,e142,hx142_0⟩:=Kd.at_int HR1.out x6_1 p142 q142;have hw142_0:=hx142_0;cases e142
    replace hx142_0:=(HB.out.cell (World.block_lt_of_cell? w _ hx142_0)).trans hx142_0;replace p142:=eq_true p142;replace q142:=eq_true q142;have p11 : 0≤(x6_1 : Int):=of_decide_eq_true (by first | (with_reducible assumption) | assumption);have q11 : (x6_1 : Int) < ((x5_1.length : Int) : Int):=of_decide_eq_true (by first | (with_reducible assumption) | assumption)
    obtain ⟨go11,co11,eo11,gb11,gl11,cl11,HG11⟩:=Kd.R_form HO_5.out (by omega)
    (first | cases eo11 | (injection eo11 with ea_ en_ ec_;(first | subst ea_ | (injection ea_ with ea_;subst ea_));subst ec_;clear en_))
    have GB11:=Aside0.mk gb11;have GG11:=Aside0.mk HG11;clear gb11 gl11 HG11
    (first | simp only [add_plain] at hx141_0 | skip)
    obtain ⟨hx11_0,hf11_0⟩:=Kd.R_celln 0 HO_5.out (x6_1 : Int) p11 q11;replace p11:=eq_true p11;replace q11:=eq_true q11;have HP19:=Kd.R_putn HO_5.out (x6_1 : Int) (wrap64 ((rd x5_1 x6_1) + (rd l1 x6_1)));rw [← Ny143.out] at HP19;have HQ19:=Aside0.mk HP19;clear HP19
    refine start_ (n:=11) (S:=fun w' => w'.cell? ⟨go11,(x6_1).toNat,none⟩ = some (.int .i64 (rd x5_1 x6_1))∧w'.cell? (ad142.add (x6_1).toNat) = some (.int .i64 (rd l1 x6_1))) (ds:=[10]) #[F0,F0,F0,F0,F0,F0,F0,F0,F0,F0,F0] (by kernel_rfl) rfl rfl ⟨hx141_0,((HB.out.cell (World.block_lt_of_cell? w _ hw142_0)).trans hw142_0)⟩ (fun hHeld => ?_);refine with_tabW protection_inside.tab5 protection_inside.bits5 (fun HT_ HW_ => ?_)
    generalize wr.drew = w17 at HO_5 HB GG11 HQ19 hf11_0 hx11_0 hx141_0 hx142_0 hHeld ⊢;refine pure_ (i:=0) (N:=some 17) (v:=?_) (a':=?_) #[T0,F0,F0,F0,F0,F0,F0,F0,F0,F0,F0] rfl rfl (any_of HT_.out (by kernel_rfl)) (fun _ _ _ h => h) (Or.inl ⟨by rfl,?_⟩) ?_ ?_
    rotate_left
    · intro w';go_simp;with_reducible rfl
    rotate_left
    · simp only [Act.put,z0_,z1_,z2_,i64_w,i32_w];rfl
    refine pure_ (i:=1) (N:=some 18) (v:=?_) (a':=?_) #[T0,T0,F0,F0,F0,F0,F0,F0,F0,F0,F0] rfl rfl (any_of HT_.out (by kernel_rfl)) (fun _ _ _ h => h) (Or.inl ⟨by rfl,?_⟩) ?_ ?_
    rotate_left
    · intro w';go_simp;with_reducible rfl
    rotate_left
    · simp only [Act.put,z0_,z1_,z2_,i64_w,i32_w];rfl
    refine pure_ (i:=2) (N:=some 19) (v:=?_) (a':=?_) #[T0,T0,T0,F0,F0,F0,F0,F0,F0,F0,F0] rfl rfl (any_of HT_.out (by kernel_rfl)) (fun _ _ _ h => h) (Or.inl ⟨by rfl,?_⟩) ?_ ?_
    rotate_left
    · intro w';go_simp;with_reducible rfl
    rotate_left
    · simp only [Act.put,z0_,z1_,z2_,i64_w,i32_w];rfl
    refine pure_ (i:=4) (N:=some 21) (v:=?_) (a':=?_) #[T0,T0,T0,F0,T0,F0,F0,F0,F0,F0,F0] rfl rfl (any_of HT_.out (by kernel_rfl)) (fun _ _ _ h => h) (Or.inl ⟨by rfl,?_⟩) ?_ ?_
    rotate_left
    · intro w';go_simp;with_reducible rfl
    rotate_left
    · simp only [Act.put,z0_,z1_,z2_,i64_w,i32_w];rfl
    refine pure_ (i:=5) (N:=some 22) (v:=?_) (a':=?_) #[T0,T0,T0,F0,T0,T0,F0,F0,F0,F0,F0] rfl rfl (any_of HT_.out (by kernel_rfl)) (fun _ _ _ h => h) (Or.inl ⟨by rfl,?_⟩) ?_ ?_
    rotate_left
    · intro w';go_simp;with_reducible rfl
    rotate_left
    · simp only [Act.put,z0_,z1_,z2_,i64_w,i32_w];rfl
    refine pure_ (i:=6) (N:=some 23) (v:=?_) (a':=?_) #[T0,T0,T0,F0,T0,T0,T0,F0,F0,F0,F0] rfl rfl (any_of HT_.out (by kernel_rfl)) (fun _ _ _ h => h) (Or.inl ⟨by rfl,?_⟩) ?_ ?_
    rotate_left
    · intro w';go_simp;with_reducible rfl
    rotate_left
    · simp only [Act.put,z0_,z1_,z2_,i64_w,i32_w];rfl
    refine take_ (i:=3) (N:=some 20) (v:=?_) (a':=?_) #[T0,T0,T0,T0,T0,T0,T0,F0,F0,F0,F0] rfl rfl (take_ofW HT_.out HW_.out (by kernel_rfl)) (fun _ _ _ h => h) (Or.inl ⟨by rfl,?_⟩) hHeld ?_ ?_
    rotate_left
    ·
     rintro w' ⟨s0,s1⟩
     go_simp;with_reducible rfl
    rotate_left
    · simp only [Act.put,z0_,z1_,z2_,i64_w,i32_w];rfl
    refine take_ (i:=7) (N:=some 24) (v:=?_) (a':=?_) #[T0,T0,T0,T0,T0,T0,T0,T0,F0,F0,F0] rfl rfl (take_ofW HT_.out HW_.out (by kernel_rfl)) (fun _ _ _ h => h) (Or.inl ⟨by rfl,?_⟩) hHeld ?_ ?_
    rotate_left
    ·
     rintro w' ⟨s0,s1⟩
     go_simp;with_reducible rfl
    rotate_left
    · simp only [Act.put,z0_,z1_,z2_,i64_w,i32_w];rfl
    refine pure_ (i:=8) (N:=some 25) (v:=?_) (a':=?_) #[T0,T0,T0,T0,T0,T0,T0,T0,T0,F0,F0] rfl rfl (any_of HT_.out (by kernel_rfl)) (fun _ _ _ h => h) (Or.inl ⟨by rfl,?_⟩) ?_ ?_
    rotate_left
    · intro w';go_simp;with_reducible rfl
    rotate_left
    · simp only [Act.put,z0_,z1_,z2_,i64_w,i32_w];rfl
    refine pure_ (i:=9) (N:=some 26) (v:=?_) (a':=?_) #[T0,T0,T0,T0,T0,T0,T0,T0,T0,T0,F0] rfl rfl (any_of HT_.out (by kernel_rfl)) (fun _ _ _ h => h) (Or.inl ⟨by rfl,?_⟩) ?_ ?_
    rotate_left
    · intro w';go_simp;with_reducible rfl
    rotate_left
    · simp only [Act.put,z0_,z1_,z2_,i64_w,i32_w];rfl
    refine last_ (i:=10) (N:=none) #[T0,T0,T0,T0,T0,T0,T0,T0,T0,T0,T0] rfl rfl (one_of HT_.out (by kernel_rfl)) (by decide) (fun K hK => ?_);refine skip_ (w1:=?_) (by rfl) rfl ?_ ?_
    rotate_left
    · go_simp;rfl
    refine hK.out _ _ ?_;clear hK K;refine done_ (done_of HT_.out (by kernel_rfl)) ?_
    try go_wp2
    have n0_ : Aside0 (Kd.R (Kd.int .i64) 3 (w17.setCell ⟨go11,(x6_1 : Int).toNat,none⟩ (.int .i64 (wrap64 ((rd x5_1 x6_1) + (rd l1 x6_1))))) w.heap.size (fun _ => True) (.slice (some ⟨go11,0,none⟩) x5_1.length co18) y143):=⟨by (with_reducible repeat (first | apply Kd.R_alloc | apply Kd.R_drewN | apply Kd.R_drew));exact HQ19.out⟩
    have n1_ : Aside0 (Below w.heap.size w (w17.setCell ⟨go11,(x6_1 : Int).toNat,none⟩ (.int .i64 (wrap64 ((rd x5_1 x6_1) + (rd l1 x6_1)))))):=⟨by repeat (first | (with_reducible first | exact HB.out | apply b0_ | apply b1_ | apply b2_ | refine below_set ?_ GB11.out) | exact HB.out)⟩
    (try clear HO_5)
    (try clear HB)
    generalize (w17.setCell ⟨go11,(x6_1 : Int).toNat,none⟩ (.int .i64 (wrap64 ((rd x5_1 x6_1) + (rd l1 x6_1))))) = w20 at n0_ n1_ ⊢;have HO_5:=n0_;have HB:=n1_;clear n0_ n1_;have n0_:=Aside0.mk (Kd.R_drew HO_5.out);have n1_:=Aside0.mk (b2_ HB.out);clear HO_5;clear HB;have HO_5:=n0_;have HB:=n1_;clear n0_ n1_
    have p144 : 0≤(x6_1 : Int):=of_decide_eq_true (by first | (with_reducible assumption) | assumption);have q144 : x6_1 < (l0.length : Int):=of_decide_eq_true (by first | (with_reducible assumption) | assumption);obtain ⟨ad144,e144,hx144_0,hx144_1,hx144_2,hx144_3,hx144_4⟩:=at_T30 HR0.out x6_1 p144 q144;have hw144_4:=hx144_4;have hw144_3:=hx144_3;have hw144_2:=hx144_2
    have hw144_1:=hx144_1;have hw144_0:=hx144_0;cases e144;replace hx144_0:=(HB.out.cell (World.block_lt_of_cell? w _ hx144_0)).trans hx144_0;replace hx144_1:=(HB.out.cell (World.block_lt_of_cell? w _ hx144_1)).trans hx144_1;replace hx144_2:=(HB.out.cell (World.block_lt_of_cell? w _ hx144_2)).trans hx144_2
    replace hx144_3:=(HB.out.cell (World.block_lt_of_cell? w _ hx144_3)).trans hx144_3;replace hx144_4:=(HB.out.cell (World.block_lt_of_cell? w _ hx144_4)).trans hx144_4;replace p144:=eq_true p144;replace q144:=eq_true q144;have p145 : 0≤(((rd_T30 l0 x6_1).f0) : Int):=of_decide_eq_true (by first | (with_reducible assumption) | assumption)
    have q145 : ((rd_T30 l0 x6_1).f0) < (y143.length : Int):=(by have h_ : (((rd_T30 l0 x6_1).f0) : Int) < ((x5_1.length : Int) : Int):=of_decide_eq_true (by first | (with_reducible assumption) | assumption);first | (have e_:=(Kd.R_reads' HO_5.out).1;omega) | simpa only [Ny143.out,List.length_set] using h_)
    have ql145 : ((((rd_T30 l0 x6_1).f0) : Int) < ((x5_1.length : Int) : Int)) = True:=eq_true (of_decide_eq_true (by first | (with_reducible assumption) | assumption));obtain ⟨ad145,e145,hx145_0⟩:=Kd.at_int (Kd.R_reads' HO_5.out).2.2 ((rd_T30 l0 x6_1).f0) p145 q145;obtain rfl : (⟨go11,0,none⟩ : Addr) = ad145:=(by injection e145)
    (first | simp only [add_plain] at hx145_0 | simp only [add_at] at hx145_0 | simp only [Addr.add,Nat.zero_add] at hx145_0 | skip)
    replace p145:=eq_true p145;replace q145:=eq_true q145;have p146 : 0≤(x6_1 : Int):=of_decide_eq_true (by first | (with_reducible assumption) | assumption)
    have q146 : x6_1 < (y143.length : Int):=(by have h_ : (x6_1 : Int) < ((x5_1.length : Int) : Int):=of_decide_eq_true (by first | (with_reducible assumption) | assumption);first | (have e_:=(Kd.R_reads' HO_5.out).1;omega) | simpa only [Ny143.out,List.length_set] using h_)
    have ql146 : ((x6_1 : Int) < ((x5_1.length : Int) : Int)) = True:=eq_true (of_decide_eq_true (by first | (with_reducible assumption) | assumption));obtain ⟨ad146,e146,hx146_0⟩:=Kd.at_int (Kd.R_reads' HO_5.out).2.2 x6_1 p146 q146;obtain rfl : (⟨go11,0,none⟩ : Addr) = ad146:=(by injection e146)
    (first | simp only [add_plain] at hx146_0 | simp only [add_at] at hx146_0 | simp only [Addr.add,Nat.zero_add] at hx146_0 | skip)
    replace p146:=eq_true p146;replace q146:=eq_true q146;have p16 : 0≤(((rd_T30 l0 x6_1).f0) : Int):=of_decide_eq_true (by first | (with_reducible assumption) | assumption);have q16 : (((rd_T30 l0 x6_1).f0) : Int) < ((x5_1.length : Int) : Int):=of_decide_eq_true (by first | (with_reducible assumption) | assumption)
    obtain ⟨hx16_0,hf16_0⟩:=Kd.R_celln 0 HO_5.out (((rd_T30 l0 x6_1).f0) : Int) p16 q16;replace p16:=eq_true p16;replace q16:=eq_true q16;have HP22:=Kd.R_putn HO_5.out (((rd_T30 l0 x6_1).f0) : Int) (wrap64 ((rd y143 ((rd_T30 l0 x6_1).f0)) + (rd y143 x6_1)));rw [← Ny147.out] at HP22;have HQ22:=Aside0.mk HP22;clear HP22
    refine start_ (n:=15) (S:=fun w' => w'.cell? (ad144.add ((x6_1).toNat * 5)) = some (.int .i64 ((rd_T30 l0 x6_1).f0))∧w'.cell? ⟨(ad144.add ((x6_1).toNat * 5)).block,(ad144.add ((x6_1).toNat * 5)).off + 1,none⟩ = some (.int .i64 ((rd_T30 l0 x6_1).f1))∧w'.cell? ⟨(ad144.add ((x6_1).toNat * 5)).block,(ad144.add ((x6_1).toNat * 5)).off + 2,none⟩ = some (.int .i64 ((rd_T30 l0 x6_1).f2))∧w'.cell? ⟨(ad144.add ((x6_1).toNat * 5)).block,(ad144.add ((x6_1).toNat * 5)).off + 3,none⟩ = some (.int .i64 ((rd_T30 l0 x6_1).f3))∧w'.cell? ⟨(ad144.add ((x6_1).toNat * 5)).block,(ad144.add ((x6_1).toNat * 5)).off + 4,none⟩ = some (.int .i64 ((rd_T30 l0 x6_1).f4))∧w'.cell? ⟨go11,(((rd_T30 l0 x6_1).f0)).toNat,none⟩ = some (.int .i64 (rd y143 ((rd_T30 l0 x6_1).f0)))∧w'.cell? ⟨go11,(x6_1).toNat,none⟩ = some (.int .i64 (rd y143 x6_1))) (ds:=[14]) #[F0,F0,F0,F0,F0,F0,F0,F0,F0,F0,F0,F0,F0,F0,F0] (by kernel_rfl) rfl rfl ⟨((HB.out.cell (World.block_lt_of_cell? w _ hw144_0)).trans hw144_0),((HB.out.cell (World.block_lt_of_cell? w _ hw144_1)).trans hw144_1),((HB.out.cell (World.block_lt_of_cell? w _ hw144_2)).trans hw144_2),((HB.out.cell (World.block_lt_of_cell? w _ hw144_3)).trans hw144_3),((HB.out.cell (World.block_lt_of_cell? w _ hw144_4)).trans hw144_4),hx145_0,hx146_0⟩ (fun hHeld => ?_);refine with_tabW protection_inside.tab7 protection_inside.bits7 (fun HT_ HW_ => ?_)
    generalize w20.drew = w21 at HO_5 HB HQ19 HQ22 hf16_0 hx144_0 hx144_1 hx144_2 hx144_3 hx144_4 hx145_0 hx146_0 hx16_0 hHeld ⊢;refine pure_ (i:=0) (N:=some 29) (v:=?_) (a':=?_) #[T0,F0,F0,F0,F0,F0,F0,F0,F0,F0,F0,F0,F0,F0,F0] rfl rfl (any_of HT_.out (by kernel_rfl)) (fun _ _ _ h => h) (Or.inl ⟨by rfl,?_⟩) ?_ ?_
    rotate_left
    · intro w';go_simp;with_reducible rfl
    rotate_left
    · simp only [Act.put,z0_,z1_,z2_,i64_w,i32_w];rfl
    refine pure_ (i:=1) (N:=some 30) (v:=?_) (a':=?_) #[T0,T0,F0,F0,F0,F0,F0,F0,F0,F0,F0,F0,F0,F0,F0] rfl rfl (any_of HT_.out (by kernel_rfl)) (fun _ _ _ h => h) (Or.inl ⟨by rfl,?_⟩) ?_ ?_
    rotate_left
    · intro w';go_simp;with_reducible rfl
    rotate_left
    · simp only [Act.put,z0_,z1_,z2_,i64_w,i32_w];rfl
    refine pure_ (i:=2) (N:=some 31) (v:=?_) (a':=?_) #[T0,T0,T0,F0,F0,F0,F0,F0,F0,F0,F0,F0,F0,F0,F0] rfl rfl (any_of HT_.out (by kernel_rfl)) (fun _ _ _ h => h) (Or.inl ⟨by rfl,?_⟩) ?_ ?_
    rotate_left
    · intro w';go_simp;with_reducible rfl
    rotate_left
    · simp only [Act.put,z0_,z1_,z2_,i64_w,i32_w];rfl
    refine pure_ (i:=3) (N:=some 32) (v:=?_) (a':=?_) #[T0,T0,T0,T0,F0,F0,F0,F0,F0,F0,F0,F0,F0,F0,F0] rfl rfl (any_of HT_.out (by kernel_rfl)) (fun _ _ _ h => h) (Or.inl ⟨by rfl,?_⟩) ?_ ?_
    rotate_left
    · intro w';go_simp;with_reducible rfl
    rotate_left
    · simp only [Act.put,z0_,z1_,z2_,i64_w,i32_w];rfl
    refine pure_ (i:=4) (N:=some 33) (v:=?_) (a':=?_) #[T0,T0,T0,T0,T0,F0,F0,F0,F0,F0,F0,F0,F0,F0,F0] rfl rfl (any_of HT_.out (by kernel_rfl)) (fun _ _ _ h => h) (Or.inl ⟨by rfl,?_⟩) ?_ ?_
    rotate_left
    · intro w';go_simp;with_reducible rfl
    rotate_left
    · simp only [Act.put,z0_,z1_,z2_,i64_w,i32_w];rfl
    refine pure_ (i:=8) (N:=some 37) (v:=?_) (a':=?_) #[T0,T0,T0,T0,T0,F0,F0,F0,T0,F0,F0,F0,F0,F0,F0] rfl rfl (any_of HT_.out (by kernel_rfl)) (fun _ _ _ h => h) (Or.inl ⟨by rfl,?_⟩) ?_ ?_
    rotate_left
    · intro w';go_simp;with_reducible rfl
    rotate_left
    · simp only [Act.put,z0_,z1_,z2_,i64_w,i32_w];rfl
    refine pure_ (i:=9) (N:=some 38) (v:=?_) (a':=?_) #[T0,T0,T0,T0,T0,F0,F0,F0,T0,T0,F0,F0,F0,F0,F0] rfl rfl (any_of HT_.out (by kernel_rfl)) (fun _ _ _ h => h) (Or.inl ⟨by rfl,?_⟩) ?_ ?_
    rotate_left
    · intro w';go_simp;with_reducible rfl
    rotate_left
    · simp only [Act.put,z0_,z1_,z2_,i64_w,i32_w];rfl
    refine pure_ (i:=10) (N:=some 39) (v:=?_) (a':=?_) #[T0,T0,T0,T0,T0,F0,F0,F0,T0,T0,T0,F0,F0,F0,F0] rfl rfl (any_of HT_.out (by kernel_rfl)) (fun _ _ _ h => h) (Or.inl ⟨by rfl,?_⟩) ?_ ?_
    rotate_left
    · intro w';go_simp;with_reducible rfl
    rotate_left
    · simp only [Act.put,z0_,z1_,z2_,i64_w,i32_w];rfl
    refine take_ (i:=5) (N:=some 34) (v:=?_) (a':=?_) #[T0,T0,T0,T0,T0,T0,F0,F0,T0,T0,T0,F0,F0,F0,F0] rfl rfl (take_ofW HT_.out HW_.out (by kernel_rfl)) (fun _ _ _ h => h) (Or.inl ⟨by rfl,?_⟩) hHeld ?_ ?_
    rotate_left
    ·
     rintro w' ⟨s0,s1,s2,s3,s4,s5,s6⟩
     go_simp;with_reducible rfl
    rotate_left
    · simp only [Act.put,z0_,z1_,z2_,i64_w,i32_w];rfl
    refine pure_ (i:=6) (N:=some 35) (v:=?_) (a':=?_) #[T0,T0,T0,T0,T0,T0,T0,F0,T0,T0,T0,F0,F0,F0,F0] rfl rfl (any_of HT_.out (by kernel_rfl)) (fun _ _ _ h => h) (Or.inl ⟨by rfl,?_⟩) ?_ ?_
    rotate_left
    · intro w';go_simp;with_reducible rfl
    rotate_left
    · simp only [Act.put,z0_,z1_,z2_,i64_w,i32_w];rfl
    refine take_ (i:=7) (N:=some 36) (v:=?_) (a':=?_) #[T0,T0,T0,T0,T0,T0,T0,T0,T0,T0,T0,F0,F0,F0,F0] rfl rfl (take_ofW HT_.out HW_.out (by kernel_rfl)) (fun _ _ _ h => h) (Or.inl ⟨by rfl,?_⟩) hHeld ?_ ?_
    rotate_left
    ·
     rintro w' ⟨s0,s1,s2,s3,s4,s5,s6⟩
     go_simp;with_reducible rfl
    rotate_left
    · simp only [Act.put,z0_,z1_,z2_,i64_w,i32_w];rfl
    refine take_ (i:=11) (N:=some 40) (v:=?_) (a':=?_) #[T0,T0,T0,T0,T0,T0,T0,T0,T0,T0,T0,T0,F0,F0,F0] rfl rfl (take_ofW HT_.out HW_.out (by kernel_rfl)) (fun _ _ _ h => h) (Or.inl ⟨by rfl,?_⟩) hHeld ?_ ?_
    rotate_left
    ·
     rintro w' ⟨s0,s1,s2,s3,s4,s5,s6⟩
     go_simp;with_reducible rfl
    rotate_left
    · simp only [Act.put,z0_,z1_,z2_,i64_w,i32_w];rfl
    refine pure_ (i:=12) (N:=some 41) (v:=?_) (a':=?_) #[T0,T0,T0,T0,T0,T0,T0,T0,T0,T0,T0,T0,T0,F0,F0] rfl rfl (any_of HT_.out (by kernel_rfl)) (fun _ _ _ h => h) (Or.inl ⟨by rfl,?_⟩) ?_ ?_
    rotate_left
    · intro w';go_simp;with_reducible rfl
    rotate_left
    · simp only [Act.put,z0_,z1_,z2_,i64_w,i32_w];rfl
    refine pure_ (i:=13) (N:=some 42) (v:=?_) (a':=?_) #[T0,T0,T0,T0,T0,T0,T0,T0,T0,T0,T0,T0,T0,T0,F0] rfl rfl (any_of HT_.out (by kernel_rfl)) (fun _ _ _ h => h) (Or.inl ⟨by rfl,?_⟩) ?_ ?_
    rotate_left
    · intro w';go_simp;with_reducible rfl
    rotate_left
    · simp only [Act.put,z0_,z1_,z2_,i64_w,i32_w];rfl
    refine last_ (i:=14) (N:=none) #[T0,T0,T0,T0,T0,T0,T0,T0,T0,T0,T0,T0,T0,T0,T0] rfl rfl (one_of HT_.out (by kernel_rfl)) (by decide) (fun K hK => ?_);refine skip_ (w1:=?_) (by rfl) rfl ?_ ?_
    rotate_left
    · go_simp;rfl
    refine hK.out _ _ ?_;clear hK K;refine done_ (done_of HT_.out (by kernel_rfl)) ?_
    try go_wp2
    go_roundg k1
    case measure => have:=HK1.out;omega
    case rel => exact ⟨(y147),(wrap64 (x6_1 - 1)),(by first | rfl | (simp;done) | (simp [*];done)),H',⟨by have:=HK1.out;omega⟩,⟨by (with_reducible repeat (first | apply Kd.R_alloc | apply Kd.R_drewN | apply Kd.R_drew));exact HQ22.out⟩,⟨by repeat (first | (with_reducible first | exact HB.out | apply b0_ | apply b1_ | apply b2_ | refine below_set ?_ GB11.out) | exact HB.out)⟩⟩
mutual
def protection_Guarded.j0 : Nat→List (S30)→List Int→Int→Int→Bool→Bool→Option (Bool)
 | 0,_,_,_,_,_,_ => none
 | k + 1,x0,x1,x2,x3,x4,x39 => if x39 = true then (some true) else ((protection_inside.f k x0 x1).bind fun t149 => (protection_Guarded.l0 k x0 x4 t149 (mx x3 0) false x2))
def protection_Guarded.l0 : Nat→List (S30)→Bool→List Int→Int→Bool→Int→Option (Bool)
 | 0,_,_,_,_,_,_ => none
 | k + 1,x0,x4,x11,x12,x13,x14 => if x14 > x12 then (if 0≤x14 then (if x14 < (x0.length : Int) then (if x4 = true then (if x13 = true then (protection_Guarded.l0 k x0 x4 x11 x12 true ((rd_T30 x0 x14).f0)) else (if x14 < (x11.length : Int) then (protection_Guarded.l0 k x0 x4 x11 x12 (decide ((wrap64 (((rd_T30 x0 x14).f1) - (rd x11 x14)))≤((rd_T30 x0 x14).f3))) ((rd_T30 x0 x14).f0)) else (none))) else (if x13 = true then (protection_Guarded.l0 k x0 x4 x11 x12 true ((rd_T30 x0 x14).f0)) else (if x14 < (x11.length : Int) then (protection_Guarded.l0 k x0 x4 x11 x12 (decide ((wrap64 (((rd_T30 x0 x14).f1) - (rd x11 x14)))≤((rd_T30 x0 x14).f2))) ((rd_T30 x0 x14).f0)) else (none)))) else (none)) else (none)) else (if x13 = true then (some true) else (some (x14 != x12)))
end
def protection_Guarded.f (k : Nat) (l0 : List (S30)) (l1 : List Int) (a2 : Int) (a3 : Int) (a4 : Bool) : Option (Bool):=(protection_valid.f k l0 l1).bind fun t148 => (if t148 = true then (if a2 < 0 then (protection_Guarded.j0 k l0 l1 a2 a3 a4 true) else (if a2≥(l0.length : Int) then (protection_Guarded.j0 k l0 l1 a2 a3 a4 true) else (if a3 < (-1) then (protection_Guarded.j0 k l0 l1 a2 a3 a4 true) else (protection_Guarded.j0 k l0 l1 a2 a3 a4 (decide (a3≥(l0.length : Int))))))) else (protection_Guarded.j0 k l0 l1 a2 a3 a4 true))
theorem protection_Guarded.mono_l : ∀ k,(∀ y0 y1 y2 y3 y4 y5,LeO (protection_Guarded.j0 k y0 y1 y2 y3 y4 y5) (protection_Guarded.j0 (k + 1) y0 y1 y2 y3 y4 y5))∧(∀ y0 y1 y2 y3 y4 y5,LeO (protection_Guarded.l0 k y0 y1 y2 y3 y4 y5) (protection_Guarded.l0 (k + 1) y0 y1 y2 y3 y4 y5))
 | 0 => ⟨fun _ _ _ _ _ _ r h => by simp [protection_Guarded.j0] at h,fun _ _ _ _ _ _ r h => by simp [protection_Guarded.l0] at h⟩
 | k + 1 => by
  obtain ⟨ih0,ih1⟩:=protection_Guarded.mono_l k;refine ⟨?_,?_⟩
  ·
   intro y0 y1 y2 y3 y4 y5
   unfold protection_Guarded.j0
   repeat' first
    | (with_reducible exact ih0 _ _ _ _ _ _)
    | (with_reducible exact ih1 _ _ _ _ _ _)
    | (with_reducible exact protection_inside.mono _ _ _)
    | (with_reducible exact protection_valid.mono _ _ _)
    | (with_reducible exact LeO.refl _)
    | (with_reducible exact LeO.none _)
    | (with_reducible refine LeO.ite ?_ ?_)
    | (with_reducible refine LeO.bind ?_ (fun _ => ?_))
    | exact ih0 _ _ _ _ _ _
    | exact ih1 _ _ _ _ _ _
    | exact protection_inside.mono _ _ _
    | exact protection_valid.mono _ _ _
    | exact LeO.none _
    | refine LeO.ite ?_ ?_
    | refine LeO.bind ?_ (fun _ => ?_)
  ·
   intro y0 y1 y2 y3 y4 y5
   unfold protection_Guarded.l0
   repeat' first
    | (with_reducible exact ih0 _ _ _ _ _ _)
    | (with_reducible exact ih1 _ _ _ _ _ _)
    | (with_reducible exact protection_inside.mono _ _ _)
    | (with_reducible exact protection_valid.mono _ _ _)
    | (with_reducible exact LeO.refl _)
    | (with_reducible exact LeO.none _)
    | (with_reducible refine LeO.ite ?_ ?_)
    | (with_reducible refine LeO.bind ?_ (fun _ => ?_))
    | exact ih0 _ _ _ _ _ _
    | exact ih1 _ _ _ _ _ _
    | exact protection_inside.mono _ _ _
    | exact protection_valid.mono _ _ _
    | exact LeO.none _
    | refine LeO.ite ?_ ?_
    | refine LeO.bind ?_ (fun _ => ?_)
theorem protection_Guarded.mono : ∀ a0 a1 a2 a3 a4 k,LeO (protection_Guarded.f k a0 a1 a2 a3 a4) (protection_Guarded.f (k + 1) a0 a1 a2 a3 a4):=by
 intro a0 a1 a2 a3 a4 k;obtain ⟨ih0,ih1⟩:=protection_Guarded.mono_l k
 unfold protection_Guarded.f
 repeat' first
  | (with_reducible exact ih0 _ _ _ _ _ _)
  | (with_reducible exact ih1 _ _ _ _ _ _)
  | (with_reducible exact protection_inside.mono _ _ _)
  | (with_reducible exact protection_valid.mono _ _ _)
  | (with_reducible exact LeO.refl _)
  | (with_reducible exact LeO.none _)
  | (with_reducible refine LeO.ite ?_ ?_)
  | (with_reducible refine LeO.bind ?_ (fun _ => ?_))
  | exact ih0 _ _ _ _ _ _
  | exact ih1 _ _ _ _ _ _
  | exact protection_inside.mono _ _ _
  | exact protection_valid.mono _ _ _
  | exact LeO.none _
  | refine LeO.ite ?_ ?_
  | refine LeO.bind ?_ (fun _ => ?_)
set_option maxHeartbeats 8000000 in
set_option maxRecDepth 100000 in
theorem protection_Guarded.calls (k : Nat) (A0 : Option Addr) (c0 : Nat) (l0 : List (S30)) (A1 : Option Addr) (c1 : Nat) (l1 : List Int) (a2 : Int) (a3 : Int) (a4 : Bool) (r : Bool) (w : World) (hr0 : Kd.C k30 w A0 l0.length l0) (hc0 : l0.length≤c0) (hr1 : Kd.C (Kd.int .i64) w A1 l1.length l1) (hc1 : l1.length≤c1) (h : protection_Guarded.f k l0 l1 a2 a3 a4 = some r) :
 Calls Try.prog 74 #[.slice A0 l0.length c0,.slice A1 l1.length c1,.int .i64 a2,.int .i64 a3,.bool a4] w fun e w' => e = .returned (.bool r)∧Below w.heap.size w w':=by
 have HR0:=Aside0.mk hr0;have HC0:=Aside0.mk hc0;clear hr0 hc0;have HR1:=Aside0.mk hr1;have HC1:=Aside0.mk hc1;clear hr1 hc1;have HB:=Aside0.mk (Below.refl w.heap.size w)
 have H : ((protection_valid.f k l0 l1).bind fun t148 => (if t148 = true then (if a2 < 0 then (protection_Guarded.j0 k l0 l1 a2 a3 a4 true) else (if a2≥(l0.length : Int) then (protection_Guarded.j0 k l0 l1 a2 a3 a4 true) else (if a3 < (-1) then (protection_Guarded.j0 k l0 l1 a2 a3 a4 true) else (protection_Guarded.j0 k l0 l1 a2 a3 a4 (decide (a3≥(l0.length : Int))))))) else (protection_Guarded.j0 k l0 l1 a2 a3 a4 true))) = some r:=h
 clear h;have HC6:=Aside0.mk H;clear H
 go_enter Try.func74,Try.ntmps74
 go_upto_region 1 with (fail)
 repeat (go_quiet (fail);go_upto_region 1 with (fail))
 go_cut [39] (fun v39 wc => ∃ (kq : Nat) (x39_5 : Bool),v39 = .bool x39_5∧Aside0 (protection_Guarded.j0 kq l0 l1 a2 a3 a4 x39_5 = some r)∧Aside0 (kq≤k)∧Aside0 (Below w.heap.size w wc))
 case first =>
  have H:=HC6.out;clear HC6;replace H:=Option.bind_eq_some_iff.mp H;obtain ⟨t148,A70,H⟩:=H
  replace H : (if t148 = true then (if a2 < 0 then (protection_Guarded.j0 k l0 l1 a2 a3 a4 true) else (if a2≥(l0.length : Int) then (protection_Guarded.j0 k l0 l1 a2 a3 a4 true) else (if a3 < (-1) then (protection_Guarded.j0 k l0 l1 a2 a3 a4 true) else (protection_Guarded.j0 k l0 l1 a2 a3 a4 (decide (a3≥(l0.length : Int))))))) else (protection_Guarded.j0 k l0 l1 a2 a3 a4 true)) = some r:=H
  have A7:=Aside0.mk A70;clear A70;by_cases c8 : t148 = true
  rotate_left
  ·
   replace c8:=Bool.eq_false_iff.mpr c8;subst c8
   have H1 : (protection_Guarded.j0 k l0 l1 a2 a3 a4 true) = some r:=by rw [if_neg (show ¬ (false = true) by decide)] at H;exact H
   clear H;have H:=H1;clear H1;have H':=Aside0.mk H;clear H
   go_wp2_with (first | (go_at_call 72;(with_reducible refine (protection_valid.calls k _ _ l0 _ _ l1 false _ ?side1 ?side2 ?side3 ?side4 A7.out).mono ?_);(case side1 => repeat (first | exact (Kd.C_below HR0.out HB.out) | (with_reducible refine Kd.C_alloc ?_ _) | (with_reducible refine Kd.C_drewN ?_ _) | (with_reducible refine Kd.C_drew ?_)));(case side2 => exact HC0.out);(case side3 => repeat (first | exact (Kd.C_below HR1.out HB.out) | (with_reducible refine Kd.C_alloc ?_ _) | (with_reducible refine Kd.C_drewN ?_ _) | (with_reducible refine Kd.C_drew ?_)));(case side4 => exact HC1.out);rintro e w16 ⟨rfl,hb⟩;have n0_:=Aside0.mk (below_step (by repeat (first | (with_reducible first | exact HB.out | apply b0_ | apply b1_ | apply b2_) | exact HB.out)) hb);clear HB;have HB:=n0_;clear n0_))
   repeat (go_quiet (first | (go_at_call 72;(with_reducible refine (protection_valid.calls k _ _ l0 _ _ l1 false _ ?side1 ?side2 ?side3 ?side4 A7.out).mono ?_);(case side1 => repeat (first | exact (Kd.C_below HR0.out HB.out) | (with_reducible refine Kd.C_alloc ?_ _) | (with_reducible refine Kd.C_drewN ?_ _) | (with_reducible refine Kd.C_drew ?_)));(case side2 => exact HC0.out);(case side3 => repeat (first | exact (Kd.C_below HR1.out HB.out) | (with_reducible refine Kd.C_alloc ?_ _) | (with_reducible refine Kd.C_drewN ?_ _) | (with_reducible refine Kd.C_drew ?_)));(case side4 => exact HC1.out);rintro e w16 ⟨rfl,hb⟩;have n0_:=Aside0.mk (below_step (by repeat (first | (with_reducible first | exact HB.out | apply b0_ | apply b1_ | apply b2_) | exact HB.out)) hb);clear HB;have HB:=n0_;clear n0_));try go_wp2_with (first | (go_at_call 72;(with_reducible refine (protection_valid.calls k _ _ l0 _ _ l1 false _ ?side1 ?side2 ?side3 ?side4 A7.out).mono ?_);(case side1 => repeat (first | exact (Kd.C_below HR0.out HB.out) | (with_reducible refine Kd.C_alloc ?_ _) | (with_reducible refine Kd.C_drewN ?_ _) | (with_reducible refine Kd.C_drew ?_)));(case side2 => exact HC0.out);(case side3 => repeat (first | exact (Kd.C_below HR1.out HB.out) | (with_reducible refine Kd.C_alloc ?_ _) | (with_reducible refine Kd.C_drewN ?_ _) | (with_reducible refine Kd.C_drew ?_)));(case side4 => exact HC1.out);rintro e w16 ⟨rfl,hb⟩;have n0_:=Aside0.mk (below_step (by repeat (first | (with_reducible first | exact HB.out | apply b0_ | apply b1_ | apply b2_) | exact HB.out)) hb);clear HB;have HB:=n0_;clear n0_)))
   go_meet
   case rel => exact ⟨_,(true),(by first | rfl | (simp;done) | (simp [*];done)),H',⟨by first | omega | exact Nat.le_refl _⟩,⟨by repeat (first | (with_reducible first | exact HB.out | apply b0_ | apply b1_ | apply b2_) | exact HB.out)⟩⟩
  subst c8
  have H1 : (if a2 < 0 then (protection_Guarded.j0 k l0 l1 a2 a3 a4 true) else (if a2≥(l0.length : Int) then (protection_Guarded.j0 k l0 l1 a2 a3 a4 true) else (if a3 < (-1) then (protection_Guarded.j0 k l0 l1 a2 a3 a4 true) else (protection_Guarded.j0 k l0 l1 a2 a3 a4 (decide (a3≥(l0.length : Int))))))) = some r:=by rw [if_pos rfl] at H;exact H
  clear H;have H:=H1;clear H1;by_cases c9 : a2 < 0
  rotate_left
  ·
   rw [if_neg c9] at H;have c9b0 : decide (a2 < 0) = false:=decide_eq_false c9;clear c9
   (first | rw [c9b0] | (simp only [i64_w,i32_w];rw [c9b0]) | skip)
   by_cases c11 : a2≥(l0.length : Int)
   rotate_left
   ·
    rw [if_neg c11] at H;have c11b0 : decide ((l0.length : Int)≤a2) = false:=decide_eq_false c11;clear c11;by_cases c13 : a3 < (-1)
    rotate_left
    ·
     rw [if_neg c13] at H;have c13b0 : decide (a3 < (-1)) = false:=decide_eq_false c13;clear c13;have H':=Aside0.mk H;clear H
     go_wp2_with (first | (go_at_call 72;(with_reducible refine (protection_valid.calls k _ _ l0 _ _ l1 true _ ?side1 ?side2 ?side3 ?side4 A7.out).mono ?_);(case side1 => repeat (first | exact (Kd.C_below HR0.out HB.out) | (with_reducible refine Kd.C_alloc ?_ _) | (with_reducible refine Kd.C_drewN ?_ _) | (with_reducible refine Kd.C_drew ?_)));(case side2 => exact HC0.out);(case side3 => repeat (first | exact (Kd.C_below HR1.out HB.out) | (with_reducible refine Kd.C_alloc ?_ _) | (with_reducible refine Kd.C_drewN ?_ _) | (with_reducible refine Kd.C_drew ?_)));(case side4 => exact HC1.out);rintro e w15 ⟨rfl,hb⟩;have n0_:=Aside0.mk (below_step (by repeat (first | (with_reducible first | exact HB.out | apply b0_ | apply b1_ | apply b2_) | exact HB.out)) hb);clear HB;have HB:=n0_;clear n0_))
     repeat (go_quiet (first | (go_at_call 72;(with_reducible refine (protection_valid.calls k _ _ l0 _ _ l1 true _ ?side1 ?side2 ?side3 ?side4 A7.out).mono ?_);(case side1 => repeat (first | exact (Kd.C_below HR0.out HB.out) | (with_reducible refine Kd.C_alloc ?_ _) | (with_reducible refine Kd.C_drewN ?_ _) | (with_reducible refine Kd.C_drew ?_)));(case side2 => exact HC0.out);(case side3 => repeat (first | exact (Kd.C_below HR1.out HB.out) | (with_reducible refine Kd.C_alloc ?_ _) | (with_reducible refine Kd.C_drewN ?_ _) | (with_reducible refine Kd.C_drew ?_)));(case side4 => exact HC1.out);rintro e w15 ⟨rfl,hb⟩;have n0_:=Aside0.mk (below_step (by repeat (first | (with_reducible first | exact HB.out | apply b0_ | apply b1_ | apply b2_) | exact HB.out)) hb);clear HB;have HB:=n0_;clear n0_));try go_wp2_with (first | (go_at_call 72;(with_reducible refine (protection_valid.calls k _ _ l0 _ _ l1 true _ ?side1 ?side2 ?side3 ?side4 A7.out).mono ?_);(case side1 => repeat (first | exact (Kd.C_below HR0.out HB.out) | (with_reducible refine Kd.C_alloc ?_ _) | (with_reducible refine Kd.C_drewN ?_ _) | (with_reducible refine Kd.C_drew ?_)));(case side2 => exact HC0.out);(case side3 => repeat (first | exact (Kd.C_below HR1.out HB.out) | (with_reducible refine Kd.C_alloc ?_ _) | (with_reducible refine Kd.C_drewN ?_ _) | (with_reducible refine Kd.C_drew ?_)));(case side4 => exact HC1.out);rintro e w15 ⟨rfl,hb⟩;have n0_:=Aside0.mk (below_step (by repeat (first | (with_reducible first | exact HB.out | apply b0_ | apply b1_ | apply b2_) | exact HB.out)) hb);clear HB;have HB:=n0_;clear n0_)))
     go_meet
     case rel => exact ⟨_,(decide (a3≥(l0.length : Int))),(by first | rfl | (simp;done) | (simp [*];done)),H',⟨by first | omega | exact Nat.le_refl _⟩,⟨by repeat (first | (with_reducible first | exact HB.out | apply b0_ | apply b1_ | apply b2_) | exact HB.out)⟩⟩
    rw [if_pos c13] at H;have c13b0 : decide (a3 < (-1)) = true:=decide_eq_true c13;clear c13;have H':=Aside0.mk H;clear H
    go_wp2_with (first | (go_at_call 72;(with_reducible refine (protection_valid.calls k _ _ l0 _ _ l1 true _ ?side1 ?side2 ?side3 ?side4 A7.out).mono ?_);(case side1 => repeat (first | exact (Kd.C_below HR0.out HB.out) | (with_reducible refine Kd.C_alloc ?_ _) | (with_reducible refine Kd.C_drewN ?_ _) | (with_reducible refine Kd.C_drew ?_)));(case side2 => exact HC0.out);(case side3 => repeat (first | exact (Kd.C_below HR1.out HB.out) | (with_reducible refine Kd.C_alloc ?_ _) | (with_reducible refine Kd.C_drewN ?_ _) | (with_reducible refine Kd.C_drew ?_)));(case side4 => exact HC1.out);rintro e w14 ⟨rfl,hb⟩;have n0_:=Aside0.mk (below_step (by repeat (first | (with_reducible first | exact HB.out | apply b0_ | apply b1_ | apply b2_) | exact HB.out)) hb);clear HB;have HB:=n0_;clear n0_))
    repeat (go_quiet (first | (go_at_call 72;(with_reducible refine (protection_valid.calls k _ _ l0 _ _ l1 true _ ?side1 ?side2 ?side3 ?side4 A7.out).mono ?_);(case side1 => repeat (first | exact (Kd.C_below HR0.out HB.out) | (with_reducible refine Kd.C_alloc ?_ _) | (with_reducible refine Kd.C_drewN ?_ _) | (with_reducible refine Kd.C_drew ?_)));(case side2 => exact HC0.out);(case side3 => repeat (first | exact (Kd.C_below HR1.out HB.out) | (with_reducible refine Kd.C_alloc ?_ _) | (with_reducible refine Kd.C_drewN ?_ _) | (with_reducible refine Kd.C_drew ?_)));(case side4 => exact HC1.out);rintro e w14 ⟨rfl,hb⟩;have n0_:=Aside0.mk (below_step (by repeat (first | (with_reducible first | exact HB.out | apply b0_ | apply b1_ | apply b2_) | exact HB.out)) hb);clear HB;have HB:=n0_;clear n0_));try go_wp2_with (first | (go_at_call 72;(with_reducible refine (protection_valid.calls k _ _ l0 _ _ l1 true _ ?side1 ?side2 ?side3 ?side4 A7.out).mono ?_);(case side1 => repeat (first | exact (Kd.C_below HR0.out HB.out) | (with_reducible refine Kd.C_alloc ?_ _) | (with_reducible refine Kd.C_drewN ?_ _) | (with_reducible refine Kd.C_drew ?_)));(case side2 => exact HC0.out);(case side3 => repeat (first | exact (Kd.C_below HR1.out HB.out) | (with_reducible refine Kd.C_alloc ?_ _) | (with_reducible refine Kd.C_drewN ?_ _) | (with_reducible refine Kd.C_drew ?_)));(case side4 => exact HC1.out);rintro e w14 ⟨rfl,hb⟩;have n0_:=Aside0.mk (below_step (by repeat (first | (with_reducible first | exact HB.out | apply b0_ | apply b1_ | apply b2_) | exact HB.out)) hb);clear HB;have HB:=n0_;clear n0_)))
    go_meet
    case rel => exact ⟨_,(true),(by first | rfl | (simp;done) | (simp [*];done)),H',⟨by first | omega | exact Nat.le_refl _⟩,⟨by repeat (first | (with_reducible first | exact HB.out | apply b0_ | apply b1_ | apply b2_) | exact HB.out)⟩⟩
   rw [if_pos c11] at H;have c11b0 : decide ((l0.length : Int)≤a2) = true:=decide_eq_true c11;clear c11;have H':=Aside0.mk H;clear H
   go_wp2_with (first | (go_at_call 72;(with_reducible refine (protection_valid.calls k _ _ l0 _ _ l1 true _ ?side1 ?side2 ?side3 ?side4 A7.out).mono ?_);(case side1 => repeat (first | exact (Kd.C_below HR0.out HB.out) | (with_reducible refine Kd.C_alloc ?_ _) | (with_reducible refine Kd.C_drewN ?_ _) | (with_reducible refine Kd.C_drew ?_)));(case side2 => exact HC0.out);(case side3 => repeat (first | exact (Kd.C_below HR1.out HB.out) | (with_reducible refine Kd.C_alloc ?_ _) | (with_reducible refine Kd.C_drewN ?_ _) | (with_reducible refine Kd.C_drew ?_)));(case side4 => exact HC1.out);rintro e w12 ⟨rfl,hb⟩;have n0_:=Aside0.mk (below_step (by repeat (first | (with_reducible first | exact HB.out | apply b0_ | apply b1_ | apply b2_) | exact HB.out)) hb);clear HB;have HB:=n0_;clear n0_))
   repeat (go_quiet (first | (go_at_call 72;(with_reducible refine (protection_valid.calls k _ _ l0 _ _ l1 true _ ?side1 ?side2 ?side3 ?side4 A7.out).mono ?_);(case side1 => repeat (first | exact (Kd.C_below HR0.out HB.out) | (with_reducible refine Kd.C_alloc ?_ _) | (with_reducible refine Kd.C_drewN ?_ _) | (with_reducible refine Kd.C_drew ?_)));(case side2 => exact HC0.out);(case side3 => repeat (first | exact (Kd.C_below HR1.out HB.out) | (with_reducible refine Kd.C_alloc ?_ _) | (with_reducible refine Kd.C_drewN ?_ _) | (with_reducible refine Kd.C_drew ?_)));(case side4 => exact HC1.out);rintro e w12 ⟨rfl,hb⟩;have n0_:=Aside0.mk (below_step (by repeat (first | (with_reducible first | exact HB.out | apply b0_ | apply b1_ | apply b2_) | exact HB.out)) hb);clear HB;have HB:=n0_;clear n0_));try go_wp2_with (first | (go_at_call 72;(with_reducible refine (protection_valid.calls k _ _ l0 _ _ l1 true _ ?side1 ?side2 ?side3 ?side4 A7.out).mono ?_);(case side1 => repeat (first | exact (Kd.C_below HR0.out HB.out) | (with_reducible refine Kd.C_alloc ?_ _) | (with_reducible refine Kd.C_drewN ?_ _) | (with_reducible refine Kd.C_drew ?_)));(case side2 => exact HC0.out);(case side3 => repeat (first | exact (Kd.C_below HR1.out HB.out) | (with_reducible refine Kd.C_alloc ?_ _) | (with_reducible refine Kd.C_drewN ?_ _) | (with_reducible refine Kd.C_drew ?_)));(case side4 => exact HC1.out);rintro e w12 ⟨rfl,hb⟩;have n0_:=Aside0.mk (below_step (by repeat (first | (with_reducible first | exact HB.out | apply b0_ | apply b1_ | apply b2_) | exact HB.out)) hb);clear HB;have HB:=n0_;clear n0_)))
   go_meet
   case rel => exact ⟨_,(true),(by first | rfl | (simp;done) | (simp [*];done)),H',⟨by first | omega | exact Nat.le_refl _⟩,⟨by repeat (first | (with_reducible first | exact HB.out | apply b0_ | apply b1_ | apply b2_) | exact HB.out)⟩⟩
  rw [if_pos c9] at H;have c9b0 : decide (a2 < 0) = true:=decide_eq_true c9;clear c9
  (first | rw [c9b0] | (simp only [i64_w,i32_w];rw [c9b0]) | skip)
  have H':=Aside0.mk H;clear H
  go_wp2_with (first | (go_at_call 72;(with_reducible refine (protection_valid.calls k _ _ l0 _ _ l1 true _ ?side1 ?side2 ?side3 ?side4 A7.out).mono ?_);(case side1 => repeat (first | exact (Kd.C_below HR0.out HB.out) | (with_reducible refine Kd.C_alloc ?_ _) | (with_reducible refine Kd.C_drewN ?_ _) | (with_reducible refine Kd.C_drew ?_)));(case side2 => exact HC0.out);(case side3 => repeat (first | exact (Kd.C_below HR1.out HB.out) | (with_reducible refine Kd.C_alloc ?_ _) | (with_reducible refine Kd.C_drewN ?_ _) | (with_reducible refine Kd.C_drew ?_)));(case side4 => exact HC1.out);rintro e w10 ⟨rfl,hb⟩;have n0_:=Aside0.mk (below_step (by repeat (first | (with_reducible first | exact HB.out | apply b0_ | apply b1_ | apply b2_) | exact HB.out)) hb);clear HB;have HB:=n0_;clear n0_))
  repeat (go_quiet (first | (go_at_call 72;(with_reducible refine (protection_valid.calls k _ _ l0 _ _ l1 true _ ?side1 ?side2 ?side3 ?side4 A7.out).mono ?_);(case side1 => repeat (first | exact (Kd.C_below HR0.out HB.out) | (with_reducible refine Kd.C_alloc ?_ _) | (with_reducible refine Kd.C_drewN ?_ _) | (with_reducible refine Kd.C_drew ?_)));(case side2 => exact HC0.out);(case side3 => repeat (first | exact (Kd.C_below HR1.out HB.out) | (with_reducible refine Kd.C_alloc ?_ _) | (with_reducible refine Kd.C_drewN ?_ _) | (with_reducible refine Kd.C_drew ?_)));(case side4 => exact HC1.out);rintro e w10 ⟨rfl,hb⟩;have n0_:=Aside0.mk (below_step (by repeat (first | (with_reducible first | exact HB.out | apply b0_ | apply b1_ | apply b2_) | exact HB.out)) hb);clear HB;have HB:=n0_;clear n0_));try go_wp2_with (first | (go_at_call 72;(with_reducible refine (protection_valid.calls k _ _ l0 _ _ l1 true _ ?side1 ?side2 ?side3 ?side4 A7.out).mono ?_);(case side1 => repeat (first | exact (Kd.C_below HR0.out HB.out) | (with_reducible refine Kd.C_alloc ?_ _) | (with_reducible refine Kd.C_drewN ?_ _) | (with_reducible refine Kd.C_drew ?_)));(case side2 => exact HC0.out);(case side3 => repeat (first | exact (Kd.C_below HR1.out HB.out) | (with_reducible refine Kd.C_alloc ?_ _) | (with_reducible refine Kd.C_drewN ?_ _) | (with_reducible refine Kd.C_drew ?_)));(case side4 => exact HC1.out);rintro e w10 ⟨rfl,hb⟩;have n0_:=Aside0.mk (below_step (by repeat (first | (with_reducible first | exact HB.out | apply b0_ | apply b1_ | apply b2_) | exact HB.out)) hb);clear HB;have HB:=n0_;clear n0_)))
  go_meet
  case rel => exact ⟨_,(true),(by first | rfl | (simp;done) | (simp [*];done)),H',⟨by first | omega | exact Nat.le_refl _⟩,⟨by repeat (first | (with_reducible first | exact HB.out | apply b0_ | apply b1_ | apply b2_) | exact HB.out)⟩⟩
 case rest =>
  clear HC6;obtain ⟨kq,x39_5,rfl,HA,HJ5,HB⟩:=hcut
  cases kq with
   | zero => exact absurd HA.out (by simp [protection_Guarded.j0])
   | succ kj5 =>
    have H:=HA.out;clear HA;simp only [protection_Guarded.j0] at H;by_cases c17 : x39_5 = true
    rotate_left
    ·
     replace c17:=Bool.eq_false_iff.mpr c17;subst c17
     have H1 : ((protection_inside.f kj5 l0 l1).bind fun t149 => (protection_Guarded.l0 kj5 l0 a4 t149 (mx a3 0) false a2)) = some r:=by rw [if_neg (show ¬ (false = true) by decide)] at H;exact H
     clear H;have H:=H1;clear H1;replace H:=Option.bind_eq_some_iff.mp H;obtain ⟨t149,A180,H⟩:=H;replace H : (protection_Guarded.l0 kj5 l0 a4 t149 (mx a3 0) false a2) = some r:=H;have A18:=Aside0.mk A180;clear A180;obtain ⟨ji19,hji19⟩ : ∃ j_ : Int,(mx a3 0) = j_:=⟨_,rfl⟩
     replace H : (protection_Guarded.l0 kj5 l0 a4 t149 ji19 false a2) = some r:=by first | (rw [hji19] at H;exact H) | (simp only [hji19] at H ⊢;exact H)
     (try rw [hji19] at A18)
     have hji19_ : (if a3 < 0 then 0 else a3) = ji19:=hji19;have H':=Aside0.mk H;clear H
     go_wp2_with (first | (go_at_call 90;(with_reducible refine (protection_inside.calls kj5 _ _ l0 _ _ l1 t149 _ ?side1 ?side2 ?side3 ?side4 A18.out).mono ?_);(case side1 => repeat (first | exact (Kd.C_below HR0.out HB.out) | (with_reducible refine Kd.C_alloc ?_ _) | (with_reducible refine Kd.C_drewN ?_ _) | (with_reducible refine Kd.C_drew ?_)));(case side2 => exact HC0.out);(case side3 => repeat (first | exact (Kd.C_below HR1.out HB.out) | (with_reducible refine Kd.C_alloc ?_ _) | (with_reducible refine Kd.C_drewN ?_ _) | (with_reducible refine Kd.C_drew ?_)));(case side4 => exact HC1.out);rintro e w20 ⟨v150,rfl,ho0,hb⟩;have n0_:=Aside0.mk (Kd.R_lower ho0 (below_size (by repeat (first | (with_reducible first | exact HB.out | apply b0_ | apply b1_ | apply b2_) | exact HB.out))));have n1_:=Aside0.mk (below_step (by repeat (first | (with_reducible first | exact HB.out | apply b0_ | apply b1_ | apply b2_) | exact HB.out)) hb);clear HB;have HO151:=n0_;have HB:=n1_;clear n0_ n1_;(try clear ho0)))
     repeat (go_quiet (first | (go_at_call 90;(with_reducible refine (protection_inside.calls kj5 _ _ l0 _ _ l1 t149 _ ?side1 ?side2 ?side3 ?side4 A18.out).mono ?_);(case side1 => repeat (first | exact (Kd.C_below HR0.out HB.out) | (with_reducible refine Kd.C_alloc ?_ _) | (with_reducible refine Kd.C_drewN ?_ _) | (with_reducible refine Kd.C_drew ?_)));(case side2 => exact HC0.out);(case side3 => repeat (first | exact (Kd.C_below HR1.out HB.out) | (with_reducible refine Kd.C_alloc ?_ _) | (with_reducible refine Kd.C_drewN ?_ _) | (with_reducible refine Kd.C_drew ?_)));(case side4 => exact HC1.out);rintro e w20 ⟨v150,rfl,ho0,hb⟩;have n0_:=Aside0.mk (Kd.R_lower ho0 (below_size (by repeat (first | (with_reducible first | exact HB.out | apply b0_ | apply b1_ | apply b2_) | exact HB.out))));have n1_:=Aside0.mk (below_step (by repeat (first | (with_reducible first | exact HB.out | apply b0_ | apply b1_ | apply b2_) | exact HB.out)) hb);clear HB;have HO151:=n0_;have HB:=n1_;clear n0_ n1_;(try clear ho0)));try go_wp2_with (first | (go_at_call 90;(with_reducible refine (protection_inside.calls kj5 _ _ l0 _ _ l1 t149 _ ?side1 ?side2 ?side3 ?side4 A18.out).mono ?_);(case side1 => repeat (first | exact (Kd.C_below HR0.out HB.out) | (with_reducible refine Kd.C_alloc ?_ _) | (with_reducible refine Kd.C_drewN ?_ _) | (with_reducible refine Kd.C_drew ?_)));(case side2 => exact HC0.out);(case side3 => repeat (first | exact (Kd.C_below HR1.out HB.out) | (with_reducible refine Kd.C_alloc ?_ _) | (with_reducible refine Kd.C_drewN ?_ _) | (with_reducible refine Kd.C_drew ?_)));(case side4 => exact HC1.out);rintro e w20 ⟨v150,rfl,ho0,hb⟩;have n0_:=Aside0.mk (Kd.R_lower ho0 (below_size (by repeat (first | (with_reducible first | exact HB.out | apply b0_ | apply b1_ | apply b2_) | exact HB.out))));have n1_:=Aside0.mk (below_step (by repeat (first | (with_reducible first | exact HB.out | apply b0_ | apply b1_ | apply b2_) | exact HB.out)) hb);clear HB;have HO151:=n0_;have HB:=n1_;clear n0_ n1_;(try clear ho0))))
     go_loopg [13,14] kj5 (fun kq v13 v14 w' => ∃ (x13_2 : Bool) (x14_2 : Int),v13 = .bool x13_2∧v14 = .int .i64 x14_2∧Aside0 (protection_Guarded.l0 kq l0 a4 t149 ji19 x13_2 x14_2 = some r)∧Aside0 (kq≤kj5)∧Aside0 (Kd.R (Kd.int .i64) 3 w' w.heap.size (fun _ => True) v150 t149)∧Aside0 (Below w.heap.size w w'))
     case atStart => exact ⟨(false),(a2),(by first | rfl | (simp;done) | (simp [*];done)),(by first | rfl | (simp;done) | (simp [*];done)),H',⟨Nat.le_refl _⟩,⟨by (with_reducible repeat (first | apply Kd.R_alloc | apply Kd.R_drewN | apply Kd.R_drew));exact HO151.out⟩,⟨by repeat (first | (with_reducible first | exact HB.out | apply b0_ | apply b1_ | apply b2_) | exact HB.out)⟩⟩
     case round =>
      clear H';obtain ⟨x13_2,x14_2,rfl,rfl,HA,HK2,HO_11,HB⟩:=hrel
      cases gk with
       | zero => exact absurd HA.out (by simp [protection_Guarded.l0])
       | succ k2 =>
        have H:=HA.out;clear HA;simp only [protection_Guarded.l0] at H;by_cases c21 : x14_2 > ji19
        rotate_left
        ·
         rw [if_neg c21] at H;have c21b0 : decide (ji19 < x14_2) = false:=decide_eq_false c21;clear c21;by_cases c31 : x13_2 = true
         rotate_left
         ·
          replace c31:=Bool.eq_false_iff.mpr c31;subst c31
          have H1 : (some (x14_2 != ji19)) = some r:=by rw [if_neg (show ¬ (false = true) by decide)] at H;exact H
          clear H;have H:=H1;clear H1;obtain rfl:=Option.some.inj H;go_wp2
          repeat (go_quiet (fail);try go_wp2)
          go_ret;exact ⟨by first | rfl | (simp [errW_none,errW_some] <;> rfl) | (simp only [← hji19];first | rfl | (simp [errW_none,errW_some] <;> rfl)) | (simp [*,errW_none,errW_some] <;> rfl),by repeat (first | (with_reducible first | exact HB.out | apply b0_ | apply b1_ | apply b2_) | exact HB.out)⟩
         subst c31
         have H1 : (some true) = some r:=by rw [if_pos rfl] at H;exact H
         clear H;have H:=H1;clear H1;obtain rfl:=Option.some.inj H;go_wp2
         repeat (go_quiet (fail);try go_wp2)
         go_ret;exact ⟨by first | rfl | (simp [errW_none,errW_some] <;> rfl) | (simp only [← hji19];first | rfl | (simp [errW_none,errW_some] <;> rfl)) | (simp [*,errW_none,errW_some] <;> rfl),by repeat (first | (with_reducible first | exact HB.out | apply b0_ | apply b1_ | apply b2_) | exact HB.out)⟩
        rw [if_pos c21] at H;have c21b0 : decide (ji19 < x14_2) = true:=decide_eq_true c21;clear c21;by_cases c22 : 0≤x14_2
        rotate_left
        · rw [if_neg c22] at H;exact absurd H (by simp)
        rw [if_pos c22] at H;have c22b0 : decide (0≤x14_2) = true:=decide_eq_true c22;clear c22;by_cases c23 : x14_2 < (l0.length : Int)
        rotate_left
        · rw [if_neg c23] at H;exact absurd H (by simp)
        rw [if_pos c23] at H;have c23b0 : decide (x14_2 < (l0.length : Int)) = true:=decide_eq_true c23;clear c23;by_cases c24 : a4 = true
        rotate_left
        ·
         replace c24:=Bool.eq_false_iff.mpr c24;subst c24
         have H1 : (if x13_2 = true then (protection_Guarded.l0 k2 l0 false t149 ji19 true ((rd_T30 l0 x14_2).f0)) else (if x14_2 < (t149.length : Int) then (protection_Guarded.l0 k2 l0 false t149 ji19 (decide ((wrap64 (((rd_T30 l0 x14_2).f1) - (rd t149 x14_2)))≤((rd_T30 l0 x14_2).f2))) ((rd_T30 l0 x14_2).f0)) else (none))) = some r:=by rw [if_neg (show ¬ (false = true) by decide)] at H;exact H
         clear H;have H:=H1;clear H1;by_cases c28 : x13_2 = true
         rotate_left
         ·
          replace c28:=Bool.eq_false_iff.mpr c28;subst c28
          have H1 : (if x14_2 < (t149.length : Int) then (protection_Guarded.l0 k2 l0 false t149 ji19 (decide ((wrap64 (((rd_T30 l0 x14_2).f1) - (rd t149 x14_2)))≤((rd_T30 l0 x14_2).f2))) ((rd_T30 l0 x14_2).f0)) else (none)) = some r:=by rw [if_neg (show ¬ (false = true) by decide)] at H;exact H
          clear H;have H:=H1;clear H1;by_cases c29 : x14_2 < (t149.length : Int)
          rotate_left
          · rw [if_neg c29] at H;exact absurd H (by simp)
          rw [if_pos c29] at H;have c29b0 : decide (x14_2 < (t149.length : Int)) = true:=decide_eq_true c29;clear c29;have H':=Aside0.mk H;clear H;have p152 : 0≤(x14_2 : Int):=of_decide_eq_true (by first | (with_reducible assumption) | assumption);have q152 : x14_2 < (l0.length : Int):=of_decide_eq_true (by first | (with_reducible assumption) | assumption)
          obtain ⟨ad152,e152,hx152_0,hx152_1,hx152_2,hx152_3,hx152_4⟩:=at_T30 HR0.out x14_2 p152 q152;cases e152;replace hx152_0:=(HB.out.cell (World.block_lt_of_cell? w _ hx152_0)).trans hx152_0;replace hx152_1:=(HB.out.cell (World.block_lt_of_cell? w _ hx152_1)).trans hx152_1;replace hx152_2:=(HB.out.cell (World.block_lt_of_cell? w _ hx152_2)).trans hx152_2
          replace hx152_3:=(HB.out.cell (World.block_lt_of_cell? w _ hx152_3)).trans hx152_3;replace hx152_4:=(HB.out.cell (World.block_lt_of_cell? w _ hx152_4)).trans hx152_4;replace p152:=eq_true p152;replace q152:=eq_true q152;have p159 : 0≤(x14_2 : Int):=of_decide_eq_true (by first | (with_reducible assumption) | assumption)
          have q159 : x14_2 < (l0.length : Int):=of_decide_eq_true (by first | (with_reducible assumption) | assumption);obtain ⟨ad159,e159,hx159_0,hx159_1,hx159_2,hx159_3,hx159_4⟩:=at_T30 HR0.out x14_2 p159 q159;obtain rfl : ad152 = ad159:=(by injection e159);replace hx159_0:=(HB.out.cell (World.block_lt_of_cell? w _ hx159_0)).trans hx159_0
          replace hx159_1:=(HB.out.cell (World.block_lt_of_cell? w _ hx159_1)).trans hx159_1;replace hx159_2:=(HB.out.cell (World.block_lt_of_cell? w _ hx159_2)).trans hx159_2;replace hx159_3:=(HB.out.cell (World.block_lt_of_cell? w _ hx159_3)).trans hx159_3;replace hx159_4:=(HB.out.cell (World.block_lt_of_cell? w _ hx159_4)).trans hx159_4;replace p159:=eq_true p159
          replace q159:=eq_true q159;obtain ⟨Ao30,co30,eo30⟩:=Kd.R_slice HO_11.out;subst eo30;have p160 : 0≤(x14_2 : Int):=of_decide_eq_true (by first | (with_reducible assumption) | assumption);have q160 : x14_2 < (t149.length : Int):=of_decide_eq_true (by first | (with_reducible assumption) | assumption);obtain ⟨ad160,e160,hx160_0⟩:=Kd.at_int (Kd.R_reads' HO_11.out).2.2 x14_2 p160 q160
          cases e160;replace p160:=eq_true p160;replace q160:=eq_true q160;have p161 : 0≤(x14_2 : Int):=of_decide_eq_true (by first | (with_reducible assumption) | assumption);have q161 : x14_2 < (l0.length : Int):=of_decide_eq_true (by first | (with_reducible assumption) | assumption);obtain ⟨ad161,e161,hx161_0,hx161_1,hx161_2,hx161_3,hx161_4⟩:=at_T30 HR0.out x14_2 p161 q161
          obtain rfl : ad152 = ad161:=(by injection e161);replace hx161_0:=(HB.out.cell (World.block_lt_of_cell? w _ hx161_0)).trans hx161_0;replace hx161_1:=(HB.out.cell (World.block_lt_of_cell? w _ hx161_1)).trans hx161_1;replace hx161_2:=(HB.out.cell (World.block_lt_of_cell? w _ hx161_2)).trans hx161_2;replace hx161_3:=(HB.out.cell (World.block_lt_of_cell? w _ hx161_3)).trans hx161_3
          replace hx161_4:=(HB.out.cell (World.block_lt_of_cell? w _ hx161_4)).trans hx161_4;replace p161:=eq_true p161;replace q161:=eq_true q161;go_wp2
          repeat (go_quiet (fail);try go_wp2)
          go_roundg k2
          case measure => have:=HJ5.out;have:=HK2.out;omega
          case rel => exact ⟨(decide ((wrap64 (((rd_T30 l0 x14_2).f1) - (rd t149 x14_2)))≤((rd_T30 l0 x14_2).f2))),((rd_T30 l0 x14_2).f0),(by first | rfl | (simp;done) | (simp [*];done)),(by first | rfl | (simp;done) | (simp [*];done)),H',⟨by have:=HJ5.out;have:=HK2.out;omega⟩,⟨by (with_reducible repeat (first | apply Kd.R_alloc | apply Kd.R_drewN | apply Kd.R_drew));exact HO_11.out⟩,⟨by repeat (first | (with_reducible first | exact HB.out | apply b0_ | apply b1_ | apply b2_) | exact HB.out)⟩⟩
         subst c28
         have H1 : (protection_Guarded.l0 k2 l0 false t149 ji19 true ((rd_T30 l0 x14_2).f0)) = some r:=by rw [if_pos rfl] at H;exact H
         clear H;have H:=H1;clear H1;have H':=Aside0.mk H;clear H;have p152 : 0≤(x14_2 : Int):=of_decide_eq_true (by first | (with_reducible assumption) | assumption);have q152 : x14_2 < (l0.length : Int):=of_decide_eq_true (by first | (with_reducible assumption) | assumption);obtain ⟨ad152,e152,hx152_0,hx152_1,hx152_2,hx152_3,hx152_4⟩:=at_T30 HR0.out x14_2 p152 q152;cases e152
         replace hx152_0:=(HB.out.cell (World.block_lt_of_cell? w _ hx152_0)).trans hx152_0;replace hx152_1:=(HB.out.cell (World.block_lt_of_cell? w _ hx152_1)).trans hx152_1;replace hx152_2:=(HB.out.cell (World.block_lt_of_cell? w _ hx152_2)).trans hx152_2;replace hx152_3:=(HB.out.cell (World.block_lt_of_cell? w _ hx152_3)).trans hx152_3
         replace hx152_4:=(HB.out.cell (World.block_lt_of_cell? w _ hx152_4)).trans hx152_4;replace p152:=eq_true p152;replace q152:=eq_true q152;have p158 : 0≤(x14_2 : Int):=of_decide_eq_true (by first | (with_reducible assumption) | assumption);have q158 : x14_2 < (l0.length : Int):=of_decide_eq_true (by first | (with_reducible assumption) | assumption)
         obtain ⟨ad158,e158,hx158_0,hx158_1,hx158_2,hx158_3,hx158_4⟩:=at_T30 HR0.out x14_2 p158 q158;obtain rfl : ad152 = ad158:=(by injection e158);replace hx158_0:=(HB.out.cell (World.block_lt_of_cell? w _ hx158_0)).trans hx158_0;replace hx158_1:=(HB.out.cell (World.block_lt_of_cell? w _ hx158_1)).trans hx158_1
         replace hx158_2:=(HB.out.cell (World.block_lt_of_cell? w _ hx158_2)).trans hx158_2;replace hx158_3:=(HB.out.cell (World.block_lt_of_cell? w _ hx158_3)).trans hx158_3;replace hx158_4:=(HB.out.cell (World.block_lt_of_cell? w _ hx158_4)).trans hx158_4;replace p158:=eq_true p158;replace q158:=eq_true q158;go_wp2
         repeat (go_quiet (fail);try go_wp2)
         go_roundg k2
         case measure => have:=HJ5.out;have:=HK2.out;omega
         case rel => exact ⟨(true),((rd_T30 l0 x14_2).f0),(by first | rfl | (simp;done) | (simp [*];done)),(by first | rfl | (simp;done) | (simp [*];done)),H',⟨by have:=HJ5.out;have:=HK2.out;omega⟩,⟨by (with_reducible repeat (first | apply Kd.R_alloc | apply Kd.R_drewN | apply Kd.R_drew));exact HO_11.out⟩,⟨by repeat (first | (with_reducible first | exact HB.out | apply b0_ | apply b1_ | apply b2_) | exact HB.out)⟩⟩
        subst c24
        have H1 : (if x13_2 = true then (protection_Guarded.l0 k2 l0 true t149 ji19 true ((rd_T30 l0 x14_2).f0)) else (if x14_2 < (t149.length : Int) then (protection_Guarded.l0 k2 l0 true t149 ji19 (decide ((wrap64 (((rd_T30 l0 x14_2).f1) - (rd t149 x14_2)))≤((rd_T30 l0 x14_2).f3))) ((rd_T30 l0 x14_2).f0)) else (none))) = some r:=by rw [if_pos rfl] at H;exact H
        clear H;have H:=H1;clear H1;by_cases c25 : x13_2 = true
        rotate_left
        ·
         replace c25:=Bool.eq_false_iff.mpr c25;subst c25
         have H1 : (if x14_2 < (t149.length : Int) then (protection_Guarded.l0 k2 l0 true t149 ji19 (decide ((wrap64 (((rd_T30 l0 x14_2).f1) - (rd t149 x14_2)))≤((rd_T30 l0 x14_2).f3))) ((rd_T30 l0 x14_2).f0)) else (none)) = some r:=by rw [if_neg (show ¬ (false = true) by decide)] at H;exact H
         clear H;have H:=H1;clear H1;by_cases c26 : x14_2 < (t149.length : Int)
         rotate_left
         · rw [if_neg c26] at H;exact absurd H (by simp)
         rw [if_pos c26] at H;have c26b0 : decide (x14_2 < (t149.length : Int)) = true:=decide_eq_true c26;clear c26;have H':=Aside0.mk H;clear H;have p152 : 0≤(x14_2 : Int):=of_decide_eq_true (by first | (with_reducible assumption) | assumption);have q152 : x14_2 < (l0.length : Int):=of_decide_eq_true (by first | (with_reducible assumption) | assumption)
         obtain ⟨ad152,e152,hx152_0,hx152_1,hx152_2,hx152_3,hx152_4⟩:=at_T30 HR0.out x14_2 p152 q152;cases e152;replace hx152_0:=(HB.out.cell (World.block_lt_of_cell? w _ hx152_0)).trans hx152_0;replace hx152_1:=(HB.out.cell (World.block_lt_of_cell? w _ hx152_1)).trans hx152_1;replace hx152_2:=(HB.out.cell (World.block_lt_of_cell? w _ hx152_2)).trans hx152_2
         replace hx152_3:=(HB.out.cell (World.block_lt_of_cell? w _ hx152_3)).trans hx152_3;replace hx152_4:=(HB.out.cell (World.block_lt_of_cell? w _ hx152_4)).trans hx152_4;replace p152:=eq_true p152;replace q152:=eq_true q152;have p153 : 0≤(x14_2 : Int):=of_decide_eq_true (by first | (with_reducible assumption) | assumption)
         have q153 : x14_2 < (l0.length : Int):=of_decide_eq_true (by first | (with_reducible assumption) | assumption);obtain ⟨ad153,e153,hx153_0,hx153_1,hx153_2,hx153_3,hx153_4⟩:=at_T30 HR0.out x14_2 p153 q153;obtain rfl : ad152 = ad153:=(by injection e153);replace hx153_0:=(HB.out.cell (World.block_lt_of_cell? w _ hx153_0)).trans hx153_0
         replace hx153_1:=(HB.out.cell (World.block_lt_of_cell? w _ hx153_1)).trans hx153_1;replace hx153_2:=(HB.out.cell (World.block_lt_of_cell? w _ hx153_2)).trans hx153_2;replace hx153_3:=(HB.out.cell (World.block_lt_of_cell? w _ hx153_3)).trans hx153_3;replace hx153_4:=(HB.out.cell (World.block_lt_of_cell? w _ hx153_4)).trans hx153_4;replace p153:=eq_true p153
         replace q153:=eq_true q153;have p155 : 0≤(x14_2 : Int):=of_decide_eq_true (by first | (with_reducible assumption) | assumption);have q155 : x14_2 < (l0.length : Int):=of_decide_eq_true (by first | (with_reducible assumption) | assumption);obtain ⟨ad155,e155,hx155_0,hx155_1,hx155_2,hx155_3,hx155_4⟩:=at_T30 HR0.out x14_2 p155 q155;obtain rfl : ad152 = ad155:=(by injection e155)
         replace hx155_0:=(HB.out.cell (World.block_lt_of_cell? w _ hx155_0)).trans hx155_0;replace hx155_1:=(HB.out.cell (World.block_lt_of_cell? w _ hx155_1)).trans hx155_1;replace hx155_2:=(HB.out.cell (World.block_lt_of_cell? w _ hx155_2)).trans hx155_2;replace hx155_3:=(HB.out.cell (World.block_lt_of_cell? w _ hx155_3)).trans hx155_3
         replace hx155_4:=(HB.out.cell (World.block_lt_of_cell? w _ hx155_4)).trans hx155_4;replace p155:=eq_true p155;replace q155:=eq_true q155;obtain ⟨Ao27,co27,eo27⟩:=Kd.R_slice HO_11.out;subst eo27;have p156 : 0≤(x14_2 : Int):=of_decide_eq_true (by first | (with_reducible assumption) | assumption)
         have q156 : x14_2 < (t149.length : Int):=of_decide_eq_true (by first | (with_reducible assumption) | assumption);obtain ⟨ad156,e156,hx156_0⟩:=Kd.at_int (Kd.R_reads' HO_11.out).2.2 x14_2 p156 q156;cases e156;replace p156:=eq_true p156;replace q156:=eq_true q156;have p157 : 0≤(x14_2 : Int):=of_decide_eq_true (by first | (with_reducible assumption) | assumption)
         have q157 : x14_2 < (l0.length : Int):=of_decide_eq_true (by first | (with_reducible assumption) | assumption);obtain ⟨ad157,e157,hx157_0,hx157_1,hx157_2,hx157_3,hx157_4⟩:=at_T30 HR0.out x14_2 p157 q157;obtain rfl : ad152 = ad157:=(by injection e157);replace hx157_0:=(HB.out.cell (World.block_lt_of_cell? w _ hx157_0)).trans hx157_0
         replace hx157_1:=(HB.out.cell (World.block_lt_of_cell? w _ hx157_1)).trans hx157_1;replace hx157_2:=(HB.out.cell (World.block_lt_of_cell? w _ hx157_2)).trans hx157_2;replace hx157_3:=(HB.out.cell (World.block_lt_of_cell? w _ hx157_3)).trans hx157_3;replace hx157_4:=(HB.out.cell (World.block_lt_of_cell? w _ hx157_4)).trans hx157_4;replace p157:=eq_true p157
         replace q157:=eq_true q157;go_wp2
         repeat (go_quiet (fail);try go_wp2)
         go_roundg k2
         case measure => have:=HJ5.out;have:=HK2.out;omega
         case rel => exact ⟨(decide ((wrap64 (((rd_T30 l0 x14_2).f1) - (rd t149 x14_2)))≤((rd_T30 l0 x14_2).f3))),((rd_T30 l0 x14_2).f0),(by first | rfl | (simp;done) | (simp [*];done)),(by first | rfl | (simp;done) | (simp [*];done)),H',⟨by have:=HJ5.out;have:=HK2.out;omega⟩,⟨by (with_reducible repeat (first | apply Kd.R_alloc | apply Kd.R_drewN | apply Kd.R_drew));exact HO_11.out⟩,⟨by repeat (first | (with_reducible first | exact HB.out | apply b0_ | apply b1_ | apply b2_) | exact HB.out)⟩⟩
        subst c25
        have H1 : (protection_Guarded.l0 k2 l0 true t149 ji19 true ((rd_T30 l0 x14_2).f0)) = some r:=by rw [if_pos rfl] at H;exact H
        clear H;have H:=H1;clear H1;have H':=Aside0.mk H;clear H;have p152 : 0≤(x14_2 : Int):=of_decide_eq_true (by first | (with_reducible assumption) | assumption);have q152 : x14_2 < (l0.length : Int):=of_decide_eq_true (by first | (with_reducible assumption) | assumption);obtain ⟨ad152,e152,hx152_0,hx152_1,hx152_2,hx152_3,hx152_4⟩:=at_T30 HR0.out x14_2 p152 q152;cases e152
        replace hx152_0:=(HB.out.cell (World.block_lt_of_cell? w _ hx152_0)).trans hx152_0;replace hx152_1:=(HB.out.cell (World.block_lt_of_cell? w _ hx152_1)).trans hx152_1;replace hx152_2:=(HB.out.cell (World.block_lt_of_cell? w _ hx152_2)).trans hx152_2;replace hx152_3:=(HB.out.cell (World.block_lt_of_cell? w _ hx152_3)).trans hx152_3
        replace hx152_4:=(HB.out.cell (World.block_lt_of_cell? w _ hx152_4)).trans hx152_4;replace p152:=eq_true p152;replace q152:=eq_true q152;have p153 : 0≤(x14_2 : Int):=of_decide_eq_true (by first | (with_reducible assumption) | assumption);have q153 : x14_2 < (l0.length : Int):=of_decide_eq_true (by first | (with_reducible assumption) | assumption)
        obtain ⟨ad153,e153,hx153_0,hx153_1,hx153_2,hx153_3,hx153_4⟩:=at_T30 HR0.out x14_2 p153 q153;obtain rfl : ad152 = ad153:=(by injection e153);replace hx153_0:=(HB.out.cell (World.block_lt_of_cell? w _ hx153_0)).trans hx153_0;replace hx153_1:=(HB.out.cell (World.block_lt_of_cell? w _ hx153_1)).trans hx153_1
        replace hx153_2:=(HB.out.cell (World.block_lt_of_cell? w _ hx153_2)).trans hx153_2;replace hx153_3:=(HB.out.cell (World.block_lt_of_cell? w _ hx153_3)).trans hx153_3;replace hx153_4:=(HB.out.cell (World.block_lt_of_cell? w _ hx153_4)).trans hx153_4;replace p153:=eq_true p153;replace q153:=eq_true q153
        have p154 : 0≤(x14_2 : Int):=of_decide_eq_true (by first | (with_reducible assumption) | assumption);have q154 : x14_2 < (l0.length : Int):=of_decide_eq_true (by first | (with_reducible assumption) | assumption);obtain ⟨ad154,e154,hx154_0,hx154_1,hx154_2,hx154_3,hx154_4⟩:=at_T30 HR0.out x14_2 p154 q154;obtain rfl : ad152 = ad154:=(by injection e154)
        replace hx154_0:=(HB.out.cell (World.block_lt_of_cell? w _ hx154_0)).trans hx154_0;replace hx154_1:=(HB.out.cell (World.block_lt_of_cell? w _ hx154_1)).trans hx154_1;replace hx154_2:=(HB.out.cell (World.block_lt_of_cell? w _ hx154_2)).trans hx154_2;replace hx154_3:=(HB.out.cell (World.block_lt_of_cell? w _ hx154_3)).trans hx154_3
        replace hx154_4:=(HB.out.cell (World.block_lt_of_cell? w _ hx154_4)).trans hx154_4;replace p154:=eq_true p154;replace q154:=eq_true q154;go_wp2
        repeat (go_quiet (fail);try go_wp2)
        go_roundg k2
        case measure => have:=HJ5.out;have:=HK2.out;omega
        case rel => exact ⟨(true),((rd_T30 l0 x14_2).f0),(by first | rfl | (simp;done) | (simp [*];done)),(by first | rfl | (simp;done) | (simp [*];done)),H',⟨by have:=HJ5.out;have:=HK2.out;omega⟩,⟨by (with_reducible repeat (first | apply Kd.R_alloc | apply Kd.R_drewN | apply Kd.R_drew));exact HO_11.out⟩,⟨by repeat (first | (with_reducible first | exact HB.out | apply b0_ | apply b1_ | apply b2_) | exact HB.out)⟩⟩
    subst c17
    have H1 : (some true) = some r:=by rw [if_pos rfl] at H;exact H
    clear H;have H:=H1;clear H1;obtain rfl:=Option.some.inj H;go_wp2
    repeat (go_quiet (fail);try go_wp2)
    go_ret;exact ⟨by first | rfl | (simp [errW_none,errW_some] <;> rfl) | (simp [*,errW_none,errW_some] <;> rfl),by repeat (first | (with_reducible first | exact HB.out | apply b0_ | apply b1_ | apply b2_) | exact HB.out)⟩
def accounts_is.f (k : Nat) (l0 : List (S30)) (a1 : Int) : Option (Bool):=(accounts_Check.f k l0).bind fun t162 => (if t162 = 0 then (if a1≥0 then (some (decide (a1 < (l0.length : Int)))) else (some false)) else (some false))
theorem accounts_is.mono : ∀ a0 a1 k,LeO (accounts_is.f k a0 a1) (accounts_is.f (k + 1) a0 a1):=by
 intro a0 a1 k
 unfold accounts_is.f
 repeat' first
  | (with_reducible exact accounts_Check.mono _ _)
  | (with_reducible exact LeO.refl _)
  | (with_reducible exact LeO.none _)
  | (with_reducible refine LeO.ite ?_ ?_)
  | (with_reducible refine LeO.bind ?_ (fun _ => ?_))
  | exact accounts_Check.mono _ _
  | exact LeO.none _
  | refine LeO.ite ?_ ?_
  | refine LeO.bind ?_ (fun _ => ?_)
set_option maxHeartbeats 8000000 in
set_option maxRecDepth 100000 in
theorem accounts_is.calls (k : Nat) (A0 : Option Addr) (c0 : Nat) (l0 : List (S30)) (a1 : Int) (r : Bool) (w : World) (hr0 : Kd.C k30 w A0 l0.length l0) (hc0 : l0.length≤c0) (h : accounts_is.f k l0 a1 = some r) :
 Calls Try.prog 89 #[.slice A0 l0.length c0,.int .i64 a1] w fun e w' => e = .returned (.bool r)∧Below w.heap.size w w':=by
 have HR0:=Aside0.mk hr0;have HC0:=Aside0.mk hc0;clear hr0 hc0;have HB:=Aside0.mk (Below.refl w.heap.size w);have H : ((accounts_Check.f k l0).bind fun t162 => (if t162 = 0 then (if a1≥0 then (some (decide (a1 < (l0.length : Int)))) else (some false)) else (some false))) = some r:=h;clear h;replace H:=Option.bind_eq_some_iff.mp H;obtain ⟨t162,A30,H⟩:=H
 replace H : (if t162 = 0 then (if a1≥0 then (some (decide (a1 < (l0.length : Int)))) else (some false)) else (some false)) = some r:=H;have A3:=Aside0.mk A30;clear A30;by_cases c4 : t162 = 0
 rotate_left
 ·
  rw [if_neg c4] at H;have c4b0 : (t162 == 0) = false:=beq_eq_false_iff_ne.mpr c4;have c4b1 : (t162 != 0) = true:=bne_iff_ne.mpr c4;obtain rfl:=Option.some.inj H
  go_enter Try.func89,Try.ntmps89
  go_wp2_with (first | ((with_reducible refine gate_callee (f:=48) rfl ?_);refine goesL_ (some 6) rfl rfl Try.func48 (by kernel_rfl) rfl #[.slice A0 l0.length c0] rfl (by (try simp only [z3_,z4_,z5_]);first | done | rfl | (simp only [z6_,z7_];rfl)) ?_;(with_reducible refine (accounts_Check.calls k _ _ l0 t162 _ ?side1 ?side2 A3.out).mono ?_);(case side1 => repeat (first | exact HR0.out | (with_reducible refine Kd.C_alloc ?_ _) | (with_reducible refine Kd.C_drewN ?_ _) | (with_reducible refine Kd.C_drew ?_)));(case side2 => exact HC0.out);rintro e w8 ⟨rfl,hb⟩;refine ⟨_,rfl,?_⟩;have n0_:=Aside0.mk (below_step (by repeat (first | (with_reducible first | exact HB.out | apply b0_ | apply b1_ | apply b2_) | exact HB.out)) hb);clear HB;have HB:=n0_;clear n0_))
  go_ret;exact ⟨by first | rfl | (simp [errW_none,errW_some] <;> rfl) | (simp [*,errW_none,errW_some] <;> rfl),by repeat (first | (with_reducible first | exact HB.out | apply b0_ | apply b1_ | apply b2_) | exact HB.out)⟩
 rw [if_pos c4] at H;have c4b0 : (t162 == 0) = true:=beq_iff_eq.mpr c4;have c4b1 : (t162 != 0) = false:=bne_eq_false_iff_eq.mpr c4;clear c4;by_cases c5 : a1≥0
 rotate_left
 ·
  rw [if_neg c5] at H;have c5b0 : decide (0≤a1) = false:=decide_eq_false c5;clear c5;obtain rfl:=Option.some.inj H
  go_enter Try.func89,Try.ntmps89
  go_wp2_with (first | ((with_reducible refine gate_callee (f:=48) rfl ?_);refine goesL_ (some 6) rfl rfl Try.func48 (by kernel_rfl) rfl #[.slice A0 l0.length c0] rfl (by (try simp only [z3_,z4_,z5_]);first | done | rfl | (simp only [z6_,z7_];rfl)) ?_;(with_reducible refine (accounts_Check.calls k _ _ l0 t162 _ ?side1 ?side2 A3.out).mono ?_);(case side1 => repeat (first | exact HR0.out | (with_reducible refine Kd.C_alloc ?_ _) | (with_reducible refine Kd.C_drewN ?_ _) | (with_reducible refine Kd.C_drew ?_)));(case side2 => exact HC0.out);rintro e w7 ⟨rfl,hb⟩;refine ⟨_,rfl,?_⟩;have n0_:=Aside0.mk (below_step (by repeat (first | (with_reducible first | exact HB.out | apply b0_ | apply b1_ | apply b2_) | exact HB.out)) hb);clear HB;have HB:=n0_;clear n0_))
  go_ret;exact ⟨by first | rfl | (simp [errW_none,errW_some] <;> rfl) | (simp [*,errW_none,errW_some] <;> rfl),by repeat (first | (with_reducible first | exact HB.out | apply b0_ | apply b1_ | apply b2_) | exact HB.out)⟩
 rw [if_pos c5] at H;have c5b0 : decide (0≤a1) = true:=decide_eq_true c5;clear c5;obtain rfl:=Option.some.inj H
 go_enter Try.func89,Try.ntmps89
 go_wp2_with (first | ((with_reducible refine gate_callee (f:=48) rfl ?_);refine goesL_ (some 6) rfl rfl Try.func48 (by kernel_rfl) rfl #[.slice A0 l0.length c0] rfl (by (try simp only [z3_,z4_,z5_]);first | done | rfl | (simp only [z6_,z7_];rfl)) ?_;(with_reducible refine (accounts_Check.calls k _ _ l0 t162 _ ?side1 ?side2 A3.out).mono ?_);(case side1 => repeat (first | exact HR0.out | (with_reducible refine Kd.C_alloc ?_ _) | (with_reducible refine Kd.C_drewN ?_ _) | (with_reducible refine Kd.C_drew ?_)));(case side2 => exact HC0.out);rintro e w6 ⟨rfl,hb⟩;refine ⟨_,rfl,?_⟩;have n0_:=Aside0.mk (below_step (by repeat (first | (with_reducible first | exact HB.out | apply b0_ | apply b1_ | apply b2_) | exact HB.out)) hb);clear HB;have HB:=n0_;clear n0_))
 go_ret;exact ⟨by first | rfl | (simp [errW_none,errW_some] <;> rfl) | (simp [*,errW_none,errW_some] <;> rfl),by repeat (first | (with_reducible first | exact HB.out | apply b0_ | apply b1_ | apply b2_) | exact HB.out)⟩
def slices_Index_int_int.l0 : Nat→List Int→Int→Int→Int→Option (Int)
 | 0,_,_,_,_ => none
 | k + 1,x0,x1,x7,x8 => if x8 < x7 then (if 0≤x8 then (if x8 < (x0.length : Int) then (if x1 = (rd x0 x8) then (some x8) else (slices_Index_int_int.l0 k x0 x1 x7 (wrap64 (x8 + 1)))) else (none)) else (none)) else (some (-1))
def slices_Index_int_int.f (k : Nat) (l0 : List Int) (a1 : Int) : Option (Int):=slices_Index_int_int.l0 k l0 a1 (l0.length : Int) 0
theorem slices_Index_int_int.mono_l : ∀ k,(∀ y0 y1 y2 y3,LeO (slices_Index_int_int.l0 k y0 y1 y2 y3) (slices_Index_int_int.l0 (k + 1) y0 y1 y2 y3))
 | 0 => fun _ _ _ _ r h => by simp [slices_Index_int_int.l0] at h
 | k + 1 => by
  have ih0:=slices_Index_int_int.mono_l k
  ·
   intro y0 y1 y2 y3
   unfold slices_Index_int_int.l0
   repeat' first
    | (with_reducible exact ih0 _ _ _ _)
    | (with_reducible exact LeO.refl _)
    | (with_reducible exact LeO.none _)
    | (with_reducible refine LeO.ite ?_ ?_)
    | (with_reducible refine LeO.bind ?_ (fun _ => ?_))
    | exact ih0 _ _ _ _
    | exact LeO.none _
    | refine LeO.ite ?_ ?_
    | refine LeO.bind ?_ (fun _ => ?_)
theorem slices_Index_int_int.mono : ∀ a0 a1 k,LeO (slices_Index_int_int.f k a0 a1) (slices_Index_int_int.f (k + 1) a0 a1):=by
 intro a0 a1 k;have ih0:=slices_Index_int_int.mono_l k
 unfold slices_Index_int_int.f
 repeat' first
  | (with_reducible exact ih0 _ _ _ _)
  | (with_reducible exact LeO.refl _)
  | (with_reducible exact LeO.none _)
  | (with_reducible refine LeO.ite ?_ ?_)
  | (with_reducible refine LeO.bind ?_ (fun _ => ?_))
  | exact ih0 _ _ _ _
  | exact LeO.none _
  | refine LeO.ite ?_ ?_
  | refine LeO.bind ?_ (fun _ => ?_)
set_option maxHeartbeats 8000000 in
set_option maxRecDepth 100000 in
theorem slices_Index_int_int.calls (k : Nat) (A0 : Option Addr) (c0 : Nat) (l0 : List Int) (a1 : Int) (r : Int) (w : World) (hr0 : Kd.C (Kd.int .i64) w A0 l0.length l0) (hc0 : l0.length≤c0) (h : slices_Index_int_int.f k l0 a1 = some r) :
 Calls Try.prog 97 #[.slice A0 l0.length c0,.int .i64 a1] w fun e w' => e = .returned (.int .i64 r)∧Drawn0 w w':=by
 have HR0:=Aside0.mk hr0;have HC0:=Aside0.mk hc0;clear hr0 hc0;have H : (slices_Index_int_int.l0 k l0 a1 (l0.length : Int) 0) = some r:=h;clear h;have H':=Aside0.mk H;clear H
 go_enter Try.func97,Try.ntmps97
 go_wp2
 go_loopg [8] k (fun kq v8 w' => ∃ (x8_1 : Int),v8 = .int .i64 x8_1∧Aside0 (slices_Index_int_int.l0 kq l0 a1 (l0.length : Int) x8_1 = some r)∧Aside0 (kq≤k)∧Drawn0 w w')
 case atStart => exact ⟨(0),(by first | rfl | (simp;done) | (simp [*];done)),H',⟨Nat.le_refl _⟩,by repeat (first | exact Drawn0.refl _ | apply Drawn0.step)⟩
 case round =>
  clear H';obtain ⟨x8_1,rfl,HA,HK1,⟨m1,rfl⟩⟩:=hrel
  cases gk with
   | zero => exact absurd HA.out (by simp [slices_Index_int_int.l0])
   | succ k1 =>
    have H:=HA.out;clear HA;simp only [slices_Index_int_int.l0] at H;by_cases c3 : x8_1 < (l0.length : Int)
    rotate_left
    · rw [if_neg c3] at H;have c3b0 : decide (x8_1 < (l0.length : Int)) = false:=decide_eq_false c3;clear c3;obtain rfl:=Option.some.inj H;go_wp2;go_ret;exact ⟨by first | rfl | (simp;done) | (simp [*];done),by repeat (first | exact Drawn0.refl _ | apply Drawn0.step)⟩
    rw [if_pos c3] at H;have c3b0 : decide (x8_1 < (l0.length : Int)) = true:=decide_eq_true c3;clear c3;by_cases c4 : 0≤x8_1
    rotate_left
    · rw [if_neg c4] at H;exact absurd H (by simp)
    rw [if_pos c4] at H;have c4b0 : decide (0≤x8_1) = true:=decide_eq_true c4;clear c4;by_cases c5 : x8_1 < (l0.length : Int)
    rotate_left
    · rw [if_neg c5] at H;exact absurd H (by simp)
    rw [if_pos c5] at H;have c5b0 : decide (x8_1 < (l0.length : Int)) = true:=decide_eq_true c5;clear c5;by_cases c6 : a1 = (rd l0 x8_1)
    rotate_left
    ·
     rw [if_neg c6] at H;have c6b0 : (a1 == (rd l0 x8_1)) = false:=beq_eq_false_iff_ne.mpr c6;have c6b1 : (a1 != (rd l0 x8_1)) = true:=bne_iff_ne.mpr c6;have H':=Aside0.mk H;clear H;have p163 : 0≤(x8_1 : Int):=of_decide_eq_true (by first | (with_reducible assumption) | assumption)
     have q163 : x8_1 < (l0.length : Int):=of_decide_eq_true (by first | (with_reducible assumption) | assumption);obtain ⟨ad163,e163,hx163_0⟩:=Kd.at_int HR0.out x8_1 p163 q163;cases e163;replace p163:=eq_true p163;replace q163:=eq_true q163;go_wp2
     go_roundg k1
     case measure => have:=HK1.out;omega
     case rel => exact ⟨(wrap64 (x8_1 + 1)),(by first | rfl | (simp;done) | (simp [*];done)),H',⟨by have:=HK1.out;omega⟩,by repeat (first | exact Drawn0.refl _ | apply Drawn0.step)⟩
    rw [if_pos c6] at H;have c6b0 : (a1 == (rd l0 x8_1)) = true:=beq_iff_eq.mpr c6;have c6b1 : (a1 != (rd l0 x8_1)) = false:=bne_eq_false_iff_eq.mpr c6;clear c6;obtain rfl:=Option.some.inj H;have p163 : 0≤(x8_1 : Int):=of_decide_eq_true (by first | (with_reducible assumption) | assumption)
    have q163 : x8_1 < (l0.length : Int):=of_decide_eq_true (by first | (with_reducible assumption) | assumption);obtain ⟨ad163,e163,hx163_0⟩:=Kd.at_int HR0.out x8_1 p163 q163;cases e163;replace p163:=eq_true p163;replace q163:=eq_true q163;go_wp2;go_ret;exact ⟨by first | rfl | (simp;done) | (simp [*];done),by repeat (first | exact Drawn0.refl _ | apply Drawn0.step)⟩
def slices_Contains_int_int.f (k : Nat) (l0 : List Int) (a1 : Int) : Option (Bool):=(slices_Index_int_int.f k l0 a1).bind fun t164 => (some (decide (t164≥0)))
theorem slices_Contains_int_int.mono : ∀ a0 a1 k,LeO (slices_Contains_int_int.f k a0 a1) (slices_Contains_int_int.f (k + 1) a0 a1):=by
 intro a0 a1 k
 unfold slices_Contains_int_int.f
 repeat' first
  | (with_reducible exact slices_Index_int_int.mono _ _ _)
  | (with_reducible exact LeO.refl _)
  | (with_reducible exact LeO.none _)
  | (with_reducible refine LeO.ite ?_ ?_)
  | (with_reducible refine LeO.bind ?_ (fun _ => ?_))
  | exact slices_Index_int_int.mono _ _ _
  | exact LeO.none _
  | refine LeO.ite ?_ ?_
  | refine LeO.bind ?_ (fun _ => ?_)
set_option maxHeartbeats 8000000 in
set_option maxRecDepth 100000 in
theorem slices_Contains_int_int.calls (k : Nat) (A0 : Option Addr) (c0 : Nat) (l0 : List Int) (a1 : Int) (r : Bool) (w : World) (hr0 : Kd.C (Kd.int .i64) w A0 l0.length l0) (hc0 : l0.length≤c0) (h : slices_Contains_int_int.f k l0 a1 = some r) :
 Calls Try.prog 93 #[.slice A0 l0.length c0,.int .i64 a1] w fun e w' => e = .returned (.bool r)∧Drawn0 w w':=by
 have HR0:=Aside0.mk hr0;have HC0:=Aside0.mk hc0;clear hr0 hc0;have H : ((slices_Index_int_int.f k l0 a1).bind fun t164 => (some (decide (t164≥0)))) = some r:=h;clear h;replace H:=Option.bind_eq_some_iff.mp H;obtain ⟨t164,A30,H⟩:=H;replace H : (some (decide (t164≥0))) = some r:=H;have A3:=Aside0.mk A30;clear A30;obtain rfl:=Option.some.inj H
 go_enter Try.func93,Try.ntmps93
 go_wp2_with (first | ((with_reducible refine gate_callee (f:=97) rfl ?_);refine goesL_ (some 7) rfl rfl Try.func97 (by kernel_rfl) rfl #[.slice A0 l0.length c0,.int .i64 a1] rfl (by (try simp only [z3_,z4_,z5_]);first | done | rfl | (simp only [z6_,z7_];rfl)) ?_;(with_reducible refine (slices_Index_int_int.calls k _ _ l0 a1 t164 _ ?side1 ?side2 A3.out).mono ?_);(case side1 => repeat (first | exact HR0.out | (with_reducible refine Kd.C_alloc ?_ _) | (with_reducible refine Kd.C_drewN ?_ _) | (with_reducible refine Kd.C_drew ?_)));(case side2 => exact HC0.out);rintro e w' ⟨rfl,⟨nd,rfl⟩⟩;refine ⟨_,rfl,?_⟩))
 go_ret;exact ⟨by first | rfl | (simp;done) | (simp [*];done),by repeat (first | exact Drawn0.refl _ | apply Drawn0.step)⟩
def accounts_Path.l0 : Nat→List (S30)→List Int→Int→Option (List Int)
 | 0,_,_,_ => none
 | k + 1,x0,x5,x6 => if x6≥0 then (if x5.length < 17592186044416 then (if 0≤x6 then (if x6 < (x0.length : Int) then (accounts_Path.l0 k x0 (x5 ++ [x6]) ((rd_T30 x0 x6).f0)) else (none)) else (none)) else (none)) else (some x5)
def accounts_Path.f (k : Nat) (l0 : List (S30)) (a1 : Int) : Option (List Int):=(accounts_is.f k l0 a1).bind fun t165 => (if t165 = true then (accounts_Path.l0 k l0 ([] : List Int) a1) else (some ([] : List Int)))
theorem accounts_Path.mono_l : ∀ k,(∀ y0 y1 y2,LeO (accounts_Path.l0 k y0 y1 y2) (accounts_Path.l0 (k + 1) y0 y1 y2))
 | 0 => fun _ _ _ r h => by simp [accounts_Path.l0] at h
 | k + 1 => by
  have ih0:=accounts_Path.mono_l k
  ·
   intro y0 y1 y2
   unfold accounts_Path.l0
   repeat' first
    | (with_reducible exact ih0 _ _ _)
    | (with_reducible exact accounts_is.mono _ _ _)
    | (with_reducible exact LeO.refl _)
    | (with_reducible exact LeO.none _)
    | (with_reducible refine LeO.ite ?_ ?_)
    | (with_reducible refine LeO.bind ?_ (fun _ => ?_))
    | exact ih0 _ _ _
    | exact accounts_is.mono _ _ _
    | exact LeO.none _
    | refine LeO.ite ?_ ?_
    | refine LeO.bind ?_ (fun _ => ?_)
theorem accounts_Path.mono : ∀ a0 a1 k,LeO (accounts_Path.f k a0 a1) (accounts_Path.f (k + 1) a0 a1):=by
 intro a0 a1 k;have ih0:=accounts_Path.mono_l k
 unfold accounts_Path.f
 repeat' first
  | (with_reducible exact ih0 _ _ _)
  | (with_reducible exact accounts_is.mono _ _ _)
  | (with_reducible exact LeO.refl _)
  | (with_reducible exact LeO.none _)
  | (with_reducible refine LeO.ite ?_ ?_)
  | (with_reducible refine LeO.bind ?_ (fun _ => ?_))
  | exact ih0 _ _ _
  | exact accounts_is.mono _ _ _
  | exact LeO.none _
  | refine LeO.ite ?_ ?_
  | refine LeO.bind ?_ (fun _ => ?_)
set_option maxHeartbeats 8000000 in
set_option maxRecDepth 100000 in
theorem accounts_Path.calls (k : Nat) (A0 : Option Addr) (c0 : Nat) (l0 : List (S30)) (a1 : Int) (r : List Int) (w : World) (hr0 : Kd.C k30 w A0 l0.length l0) (hc0 : l0.length≤c0) (h : accounts_Path.f k l0 a1 = some r) :
 Calls Try.prog 94 #[.slice A0 l0.length c0,.int .i64 a1] w fun e w' => ∃ v0_ : Value,e = .returned (v0_)∧Kd.R (Kd.int .i64) 3 w' w.heap.size (fun _ => True) v0_ r∧Below w.heap.size w w':=by
 have HR0:=Aside0.mk hr0;have HC0:=Aside0.mk hc0;clear hr0 hc0;have HB:=Aside0.mk (Below.refl w.heap.size w);have H : ((accounts_is.f k l0 a1).bind fun t165 => (if t165 = true then (accounts_Path.l0 k l0 ([] : List Int) a1) else (some ([] : List Int)))) = some r:=h;clear h;replace H:=Option.bind_eq_some_iff.mp H;obtain ⟨t165,A30,H⟩:=H
 replace H : (if t165 = true then (accounts_Path.l0 k l0 ([] : List Int) a1) else (some ([] : List Int))) = some r:=H;have A3:=Aside0.mk A30;clear A30;by_cases c4 : t165 = true
 rotate_left
 ·
  replace c4:=Bool.eq_false_iff.mpr c4;subst c4
  have H1 : (some ([] : List Int)) = some r:=by rw [if_neg (show ¬ (false = true) by decide)] at H;exact H
  clear H;have H:=H1;clear H1;obtain rfl:=Option.some.inj H
  go_enter Try.func94,Try.ntmps94
  go_wp2_with (first | ((with_reducible refine gate_callee (f:=89) rfl ?_);refine goesL_ (some 9) rfl rfl Try.func89 (by kernel_rfl) rfl #[.slice A0 l0.length c0,.int .i64 a1] rfl (by (try simp only [z3_,z4_,z5_]);first | done | rfl | (simp only [z6_,z7_];rfl)) ?_;(with_reducible refine (accounts_is.calls k _ _ l0 a1 false _ ?side1 ?side2 A3.out).mono ?_);(case side1 => repeat (first | exact HR0.out | (with_reducible refine Kd.C_alloc ?_ _) | (with_reducible refine Kd.C_drewN ?_ _) | (with_reducible refine Kd.C_drew ?_)));(case side2 => exact HC0.out);rintro e w11 ⟨rfl,hb⟩;refine ⟨_,rfl,?_⟩;have n0_:=Aside0.mk (below_step (by repeat (first | (with_reducible first | exact HB.out | apply b0_ | apply b1_ | apply b2_) | exact HB.out)) hb);clear HB;have HB:=n0_;clear n0_))
  go_ret;exact ⟨_,by first | rfl | (simp [errW_none,errW_some] <;> rfl) | (simp [*,errW_none,errW_some] <;> rfl),by first | exact Kd.R_nil _ _ _ _ _ | exact Kd.N_nil _ _ _ _ _ | exact Kd.V_nil _ _ _ _ _ | exact Kd.Q_nil _ _ _ _ _ | exact Kd.S_nil _ _ _ _ _,by repeat (first | (with_reducible first | exact HB.out | apply b0_ | apply b1_ | apply b2_) | exact HB.out)⟩
 subst c4
 have H1 : (accounts_Path.l0 k l0 ([] : List Int) a1) = some r:=by rw [if_pos rfl] at H;exact H
 clear H;have H:=H1;clear H1;have H':=Aside0.mk H;clear H
 go_enter Try.func94,Try.ntmps94
 go_wp2_with (first | ((with_reducible refine gate_callee (f:=89) rfl ?_);refine goesL_ (some 9) rfl rfl Try.func89 (by kernel_rfl) rfl #[.slice A0 l0.length c0,.int .i64 a1] rfl (by (try simp only [z3_,z4_,z5_]);first | done | rfl | (simp only [z6_,z7_];rfl)) ?_;(with_reducible refine (accounts_is.calls k _ _ l0 a1 true _ ?side1 ?side2 A3.out).mono ?_);(case side1 => repeat (first | exact HR0.out | (with_reducible refine Kd.C_alloc ?_ _) | (with_reducible refine Kd.C_drewN ?_ _) | (with_reducible refine Kd.C_drew ?_)));(case side2 => exact HC0.out);rintro e w5 ⟨rfl,hb⟩;refine ⟨_,rfl,?_⟩;have n0_:=Aside0.mk (below_step (by repeat (first | (with_reducible first | exact HB.out | apply b0_ | apply b1_ | apply b2_) | exact HB.out)) hb);clear HB;have HB:=n0_;clear n0_))
 go_loopg [5,6] k (fun kq v5 v6 w' => ∃ (x5_1 : List Int) (x6_1 : Int),v6 = .int .i64 x6_1∧Aside0 (accounts_Path.l0 kq l0 x5_1 x6_1 = some r)∧Aside0 (kq≤k)∧Aside0 (Kd.R (Kd.int .i64) 3 w' w.heap.size (fun _ => True) v5 x5_1)∧Aside0 (Below w.heap.size w w'))
 case atStart => exact ⟨(([] : List Int)),(a1),(by first | rfl | (simp;done) | (simp [*];done)),H',⟨Nat.le_refl _⟩,⟨by first | exact Kd.R_nil _ _ _ _ _ | exact Kd.N_nil _ _ _ _ _ | exact Kd.V_nil _ _ _ _ _ | exact Kd.Q_nil _ _ _ _ _ | exact Kd.S_nil _ _ _ _ _⟩,⟨by repeat (first | (with_reducible first | exact HB.out | apply b0_ | apply b1_ | apply b2_) | exact HB.out)⟩⟩
 case round =>
  clear H';obtain ⟨x5_1,x6_1,rfl,HA,HK1,HO_5,HB⟩:=hrel
  cases gk with
   | zero => exact absurd HA.out (by simp [accounts_Path.l0])
   | succ k1 =>
    have H:=HA.out;clear HA;simp only [accounts_Path.l0] at H;by_cases c6 : x6_1≥0
    rotate_left
    ·
     rw [if_neg c6] at H;have c6b0 : decide (0≤x6_1) = false:=decide_eq_false c6;clear c6;obtain rfl:=Option.some.inj H;go_wp2;go_ret
     exact ⟨_,by first | rfl | (simp [errW_none,errW_some] <;> rfl) | (simp [*,errW_none,errW_some] <;> rfl),by (with_reducible repeat (first | apply Kd.R_alloc | apply Kd.R_drewN | apply Kd.R_drew));exact HO_5.out,by repeat (first | (with_reducible first | exact HB.out | apply b0_ | apply b1_ | apply b2_) | exact HB.out)⟩
    rw [if_pos c6] at H;have c6b0 : decide (0≤x6_1) = true:=decide_eq_true c6;clear c6;by_cases c7 : x5_1.length < 17592186044416
    rotate_left
    · rw [if_neg c7] at H;exact absurd H (by simp)
    rw [if_pos c7] at H;have LMc7:=Aside0.mk c7;clear c7;obtain ⟨y166,hy166⟩ : ∃ y_ : List Int,y_ = (x5_1 ++ [x6_1]):=⟨_,rfl⟩
    replace H : (if 0≤x6_1 then (if x6_1 < (l0.length : Int) then (accounts_Path.l0 k1 l0 y166 ((rd_T30 l0 x6_1).f0)) else (none)) else (none)) = some r:=by first | (rw [hy166];with_reducible exact H) | (have H2_:=(Option.bind_some _ _).symm.trans H;rw [hy166];with_reducible exact H2_) | (have H2_:=(Option.bind_some _ _).symm.trans H;with_reducible exact H2_) | with_reducible exact H | (rw [hy166];exact H) | exact H
    have Ny166:=Aside0.mk hy166;clear hy166;by_cases c8 : 0≤x6_1
    rotate_left
    · rw [if_neg c8] at H;exact absurd H (by simp)
    rw [if_pos c8] at H;have c8b0 : decide (0≤x6_1) = true:=decide_eq_true c8;clear c8;by_cases c9 : x6_1 < (l0.length : Int)
    rotate_left
    · rw [if_neg c9] at H;exact absurd H (by simp)
    rw [if_pos c9] at H;have c9b0 : decide (x6_1 < (l0.length : Int)) = true:=decide_eq_true c9;clear c9;have H':=Aside0.mk H;clear H
    go_wp2_with (first | ((with_reducible refine gate_builtin (b:=.append) (xs:=#[.tmp 19,.tmp 21]) rfl ?_);at_builtin;refine Kd.R_append (Kd.int .i64) (w0:=w) w.heap.size rfl (.tmp 19) (.tmp 21) 50 3 (.int .i64 0) 8 rfl Try.underlying50 info3 rfl (by decide) (by omega) u5 x5_1 x6_1 [.int .i64 x6_1] (fun _ => True) (fun _ => False) rfl rfl ?aP (fun _ hk => hk.elim) ?aF ?aO ?aB ?aS ?aL ?_;(case aP => exact rfl);(case aB => exact (by repeat (first | (with_reducible first | exact HB.out | apply b0_ | apply b1_ | apply b2_) | exact HB.out)));(case aF => exact (fun _ _ => trivial));(case aO => exact (by (with_reducible repeat (first | apply Kd.R_alloc | apply Kd.R_drewN | apply Kd.R_drew));exact HO_5.out));(case aS => exact (below_size (by repeat (first | (with_reducible first | exact HB.out | apply b0_ | apply b1_ | apply b2_) | exact HB.out))));(case aL => have:=LMc7.out;omega);intro v167 w10 ho hb hg hat;rw [← Ny166.out] at ho;have n0_:=Aside0.mk (hb);have n1_:=Aside0.mk (ho);clear HB;clear HO_5;have HB:=n0_;have HO168:=n1_;clear n0_ n1_;clear ho hb hg hat;have p169 : 0≤(x6_1 : Int):=of_decide_eq_true (by first | (with_reducible assumption) | assumption);have q169 : x6_1 < (l0.length : Int):=of_decide_eq_true (by first | (with_reducible assumption) | assumption);obtain ⟨ad169,e169,hx169_0,hx169_1,hx169_2,hx169_3,hx169_4⟩:=at_T30 HR0.out x6_1 p169 q169;cases e169;replace hx169_0:=(HB.out.cell (World.block_lt_of_cell? w _ hx169_0)).trans hx169_0;replace hx169_1:=(HB.out.cell (World.block_lt_of_cell? w _ hx169_1)).trans hx169_1;replace hx169_2:=(HB.out.cell (World.block_lt_of_cell? w _ hx169_2)).trans hx169_2;replace hx169_3:=(HB.out.cell (World.block_lt_of_cell? w _ hx169_3)).trans hx169_3;replace hx169_4:=(HB.out.cell (World.block_lt_of_cell? w _ hx169_4)).trans hx169_4;replace p169:=eq_true p169;replace q169:=eq_true q169))
    go_roundg k1
    case measure => have:=HK1.out;omega
    case rel => exact ⟨(y166),((rd_T30 l0 x6_1).f0),(by first | rfl | (simp;done) | (simp [*];done)),H',⟨by have:=HK1.out;omega⟩,⟨by (with_reducible repeat (first | apply Kd.R_alloc | apply Kd.R_drewN | apply Kd.R_drew));exact HO168.out⟩,⟨by repeat (first | (with_reducible first | exact HB.out | apply b0_ | apply b1_ | apply b2_) | exact HB.out)⟩⟩
def accounts_Inside.f (k : Nat) (l0 : List (S30)) (a1 : Int) (a2 : Int) : Option (Bool):=(accounts_is.f k l0 a1).bind fun t170 => (if t170 = true then (if a2 = (-1) then (some true) else ((accounts_Path.f k l0 a1).bind fun t171 => ((slices_Contains_int_int.f k t171 a2).bind fun t174 => (some t174)))) else (some false))
theorem accounts_Inside.mono : ∀ a0 a1 a2 k,LeO (accounts_Inside.f k a0 a1 a2) (accounts_Inside.f (k + 1) a0 a1 a2):=by
 intro a0 a1 a2 k
 unfold accounts_Inside.f
 repeat' first
  | (with_reducible exact accounts_Path.mono _ _ _)
  | (with_reducible exact accounts_is.mono _ _ _)
  | (with_reducible exact slices_Contains_int_int.mono _ _ _)
  | (with_reducible exact LeO.refl _)
  | (with_reducible exact LeO.none _)
  | (with_reducible refine LeO.ite ?_ ?_)
  | (with_reducible refine LeO.bind ?_ (fun _ => ?_))
  | exact accounts_Path.mono _ _ _
  | exact accounts_is.mono _ _ _
  | exact slices_Contains_int_int.mono _ _ _
  | exact LeO.none _
  | refine LeO.ite ?_ ?_
  | refine LeO.bind ?_ (fun _ => ?_)
set_option maxHeartbeats 8000000 in
set_option maxRecDepth 100000 in
theorem accounts_Inside.calls (k : Nat) (A0 : Option Addr) (c0 : Nat) (l0 : List (S30)) (a1 : Int) (a2 : Int) (r : Bool) (w : World) (hr0 : Kd.C k30 w A0 l0.length l0) (hc0 : l0.length≤c0) (h : accounts_Inside.f k l0 a1 a2 = some r) :
 Calls Try.prog 81 #[.slice A0 l0.length c0,.int .i64 a1,.int .i64 a2] w fun e w' => e = .returned (.bool r)∧Below w.heap.size w w':=by
 have HR0:=Aside0.mk hr0;have HC0:=Aside0.mk hc0;clear hr0 hc0;have HB:=Aside0.mk (Below.refl w.heap.size w);have H : ((accounts_is.f k l0 a1).bind fun t170 => (if t170 = true then (if a2 = (-1) then (some true) else ((accounts_Path.f k l0 a1).bind fun t171 => ((slices_Contains_int_int.f k t171 a2).bind fun t174 => (some t174)))) else (some false))) = some r:=h;clear h
 replace H:=Option.bind_eq_some_iff.mp H;obtain ⟨t170,A40,H⟩:=H;replace H : (if t170 = true then (if a2 = (-1) then (some true) else ((accounts_Path.f k l0 a1).bind fun t171 => ((slices_Contains_int_int.f k t171 a2).bind fun t174 => (some t174)))) else (some false)) = some r:=H;have A4:=Aside0.mk A40;clear A40;by_cases c5 : t170 = true
 rotate_left
 ·
  replace c5:=Bool.eq_false_iff.mpr c5;subst c5
  have H1 : (some false) = some r:=by rw [if_neg (show ¬ (false = true) by decide)] at H;exact H
  clear H;have H:=H1;clear H1;obtain rfl:=Option.some.inj H
  go_enter Try.func81,Try.ntmps81
  go_wp2_with (first | ((with_reducible refine gate_callee (f:=89) rfl ?_);refine goesL_ (some 9) rfl rfl Try.func89 (by kernel_rfl) rfl #[.slice A0 l0.length c0,.int .i64 a1] rfl (by (try simp only [z3_,z4_,z5_]);first | done | rfl | (simp only [z6_,z7_];rfl)) ?_;(with_reducible refine (accounts_is.calls k _ _ l0 a1 false _ ?side1 ?side2 A4.out).mono ?_);(case side1 => repeat (first | exact HR0.out | (with_reducible refine Kd.C_alloc ?_ _) | (with_reducible refine Kd.C_drewN ?_ _) | (with_reducible refine Kd.C_drew ?_)));(case side2 => exact HC0.out);rintro e w13 ⟨rfl,hb⟩;refine ⟨_,rfl,?_⟩;have n0_:=Aside0.mk (below_step (by repeat (first | (with_reducible first | exact HB.out | apply b0_ | apply b1_ | apply b2_) | exact HB.out)) hb);clear HB;have HB:=n0_;clear n0_))
  go_ret;exact ⟨by first | rfl | (simp [errW_none,errW_some] <;> rfl) | (simp [*,errW_none,errW_some] <;> rfl),by repeat (first | (with_reducible first | exact HB.out | apply b0_ | apply b1_ | apply b2_) | exact HB.out)⟩
 subst c5
 have H1 : (if a2 = (-1) then (some true) else ((accounts_Path.f k l0 a1).bind fun t171 => ((slices_Contains_int_int.f k t171 a2).bind fun t174 => (some t174)))) = some r:=by rw [if_pos rfl] at H;exact H
 clear H;have H:=H1;clear H1;by_cases c6 : a2 = (-1)
 rotate_left
 ·
  rw [if_neg c6] at H;have c6b0 : (a2 == (-1)) = false:=beq_eq_false_iff_ne.mpr c6;have c6b1 : (a2 != (-1)) = true:=bne_iff_ne.mpr c6;replace H:=Option.bind_eq_some_iff.mp H;obtain ⟨t171,A80,H⟩:=H;replace H : ((slices_Contains_int_int.f k t171 a2).bind fun t174 => (some t174)) = some r:=H;have A8:=Aside0.mk A80;clear A80;replace H:=Option.bind_eq_some_iff.mp H
  obtain ⟨t174,A90,H⟩:=H;replace H : (some t174) = some r:=H;have A9:=Aside0.mk A90;clear A90;obtain rfl:=Option.some.inj H
  go_enter Try.func81,Try.ntmps81
  go_wp2_with (first | ((with_reducible refine gate_callee (f:=89) rfl ?_);refine goesL_ (some 9) rfl rfl Try.func89 (by kernel_rfl) rfl #[.slice A0 l0.length c0,.int .i64 a1] rfl (by (try simp only [z3_,z4_,z5_]);first | done | rfl | (simp only [z6_,z7_];rfl)) ?_;(with_reducible refine (accounts_is.calls k _ _ l0 a1 true _ ?side1 ?side2 A4.out).mono ?_);(case side1 => repeat (first | exact HR0.out | (with_reducible refine Kd.C_alloc ?_ _) | (with_reducible refine Kd.C_drewN ?_ _) | (with_reducible refine Kd.C_drew ?_)));(case side2 => exact HC0.out);rintro e w10 ⟨rfl,hb⟩;refine ⟨_,rfl,?_⟩;have n0_:=Aside0.mk (below_step (by repeat (first | (with_reducible first | exact HB.out | apply b0_ | apply b1_ | apply b2_) | exact HB.out)) hb);clear HB;have HB:=n0_;clear n0_) | (go_at_call 94;(with_reducible refine (accounts_Path.calls k _ _ l0 a1 t171 _ ?side1 ?side2 A8.out).mono ?_);(case side1 => repeat (first | exact (Kd.C_below HR0.out HB.out) | (with_reducible refine Kd.C_alloc ?_ _) | (with_reducible refine Kd.C_drewN ?_ _) | (with_reducible refine Kd.C_drew ?_)));(case side2 => exact HC0.out);rintro e w11 ⟨v172,rfl,ho0,hb⟩;have n0_:=Aside0.mk (Kd.R_lower ho0 (below_size (by repeat (first | (with_reducible first | exact HB.out | apply b0_ | apply b1_ | apply b2_) | exact HB.out))));have n1_:=Aside0.mk (below_step (by repeat (first | (with_reducible first | exact HB.out | apply b0_ | apply b1_ | apply b2_) | exact HB.out)) hb);clear HB;have HO173:=n0_;have HB:=n1_;clear n0_ n1_;(try clear ho0);obtain ⟨Ao12,co12,eo12⟩:=Kd.R_slice HO173.out;subst eo12) | (go_at_call 93;(with_reducible refine (slices_Contains_int_int.calls k _ _ t171 a2 t174 _ ?side1 ?side2 A9.out).mono ?_);(case side1 => repeat (first | exact (Kd.R_reads' HO173.out).2.2 | (with_reducible refine Kd.C_alloc ?_ _) | (with_reducible refine Kd.C_drewN ?_ _) | (with_reducible refine Kd.C_drew ?_)));(case side2 => exact (Kd.R_reads' HO173.out).2.1);rintro e w' ⟨rfl,⟨nd,rfl⟩⟩))
  go_ret;exact ⟨by first | rfl | (simp [errW_none,errW_some] <;> rfl) | (simp [*,errW_none,errW_some] <;> rfl),by repeat (first | (with_reducible first | exact HB.out | apply b0_ | apply b1_ | apply b2_) | exact HB.out)⟩
 rw [if_pos c6] at H;have c6b0 : (a2 == (-1)) = true:=beq_iff_eq.mpr c6;have c6b1 : (a2 != (-1)) = false:=bne_eq_false_iff_eq.mpr c6;clear c6;obtain rfl:=Option.some.inj H
 go_enter Try.func81,Try.ntmps81
 go_wp2_with (first | ((with_reducible refine gate_callee (f:=89) rfl ?_);refine goesL_ (some 9) rfl rfl Try.func89 (by kernel_rfl) rfl #[.slice A0 l0.length c0,.int .i64 a1] rfl (by (try simp only [z3_,z4_,z5_]);first | done | rfl | (simp only [z6_,z7_];rfl)) ?_;(with_reducible refine (accounts_is.calls k _ _ l0 a1 true _ ?side1 ?side2 A4.out).mono ?_);(case side1 => repeat (first | exact HR0.out | (with_reducible refine Kd.C_alloc ?_ _) | (with_reducible refine Kd.C_drewN ?_ _) | (with_reducible refine Kd.C_drew ?_)));(case side2 => exact HC0.out);rintro e w7 ⟨rfl,hb⟩;refine ⟨_,rfl,?_⟩;have n0_:=Aside0.mk (below_step (by repeat (first | (with_reducible first | exact HB.out | apply b0_ | apply b1_ | apply b2_) | exact HB.out)) hb);clear HB;have HB:=n0_;clear n0_))
 go_ret;exact ⟨by first | rfl | (simp [errW_none,errW_some] <;> rfl) | (simp [*,errW_none,errW_some] <;> rfl),by repeat (first | (with_reducible first | exact HB.out | apply b0_ | apply b1_ | apply b2_) | exact HB.out)⟩
theorem wr64 {i : Int} (h0 : -9000000000000000000≤i) (h1 : i≤9000000000000000000) : wrap64 i = i:=by unfold wrap64;omega
def treeAt (l : List S30) (j : Int) : Prop:=(j = 0→(rd_T30 l j).f0 = -1)∧(0 < j→0≤(rd_T30 l j).f0∧(rd_T30 l j).f0 < j)
def amt (n : Int) : Prop:=0≤n∧n≤1048576
def amtAt (l : List S30) (j : Int) : Prop:=amt (rd_T30 l j).f1∧amt (rd_T30 l j).f2∧amt (rd_T30 l j).f3∧amt (rd_T30 l j).f4
def IsQ (W : World) (g : Nat) (s : Int) (kn : Bool) (ins hard soft : List Bool) : Prop :=
 ∃ (A0 : Option Addr) (n0 c0 : Nat) (A3 : Option Addr) (c3 : Nat) (A4 : Option Addr) (c4 : Nat) (A5 : Option Addr) (c5 : Nat),
  W.heap[g]? = some (.cells #[.slice A0 n0 c0,.int .i64 s,.bool kn,.slice A3 ins.length c3,.slice A4 hard.length c4,.slice A5 soft.length c5] 73 (0,0)) ∧
   Kd.C Kd.bool W A3 ins.length ins∧Kd.C Kd.bool W A4 hard.length hard∧Kd.C Kd.bool W A5 soft.length soft
theorem IsQ.below {W W1 : World} {g : Nat} {s : Int} {kn : Bool} {ins hard soft : List Bool} (h : IsQ W g s kn ins hard soft) (hb : Below W.heap.size W W1) : IsQ W1 g s kn ins hard soft:=by
 obtain ⟨A0,n0,c0,A3,c3,A4,c4,A5,c5,h1,h2,h3,h4⟩:=h;exact ⟨A0,n0,c0,A3,c3,A4,c4,A5,c5,(hb.block g (blk_lt h1)).trans h1,Kd.C_below h2 hb,Kd.C_below h3 hb,Kd.C_below h4 hb⟩
theorem IsQ.drewN {W : World} {g : Nat} {s : Int} {kn : Bool} {ins hard soft : List Bool} (h : IsQ W g s kn ins hard soft) (n : Nat) : IsQ (W.drewN n) g s kn ins hard soft:=h.below (b1_ (Below.refl _ _) n)
theorem IsQ.fields {W : World} {g : Nat} {s : Int} {kn : Bool} {ins hard soft : List Bool} (h : IsQ W g s kn ins hard soft) : ∃ (A3 : Option Addr) (c3 : Nat) (A4 : Option Addr) (c4 : Nat) (A5 : Option Addr) (c5 : Nat),
 W.cell? ⟨g,1,none⟩ = some (.int .i64 s)∧W.cell? ⟨g,2,none⟩ = some (.bool kn)∧W.cell? ⟨g,3,none⟩ = some (.slice A3 ins.length c3)∧W.cell? ⟨g,4,none⟩ = some (.slice A4 hard.length c4)∧W.cell? ⟨g,5,none⟩ = some (.slice A5 soft.length c5)∧Kd.C Kd.bool W A3 ins.length ins∧Kd.C Kd.bool W A4 hard.length hard∧Kd.C Kd.bool W A5 soft.length soft:=by
 obtain ⟨A0,n0,c0,A3,c3,A4,c4,A5,c5,h1,h2,h3,h4⟩:=h;exact ⟨A3,c3,A4,c4,A5,c5,(blk_cell h1 1).trans rfl,(blk_cell h1 2).trans rfl,(blk_cell h1 3).trans rfl,(blk_cell h1 4).trans rfl,(blk_cell h1 5).trans rfl,h2,h3,h4⟩
def pageV (p : S34) : Value:=.agg #[.int .i64 p.f0,.int .i64 p.f1,.int .i64 p.f2,.int .i64 p.f3,.int .i64 p.f4,.bool p.f5,.bool p.f6]
def qOut (s : Int) (ins : List Bool) (p : S34) : Bool:=decide (0≤s) && (decide (p.f1 < 0) || !(rdOf false ins p.f1))
def qGua (hard : List Bool) (p : S34) : Bool:=decide (0≤p.f1) && rdOf false hard p.f1
set_option maxRecDepth 100000 in
set_option maxHeartbeats 2000000 in
theorem q_outside.calls (g : Nat) (s : Int) (kn : Bool) (ins hard soft : List Bool) (p : S34) (w : World) (hq : IsQ w g s kn ins hard soft) (hp : p.f1 < (ins.length : Int)) :
 Calls Try.prog 82 #[.pointer (some ⟨g,0,none⟩),pageV p] w fun e w' => e = .returned (.bool (qOut s ins p))∧Below w.heap.size w w':=by
 have hu34:=Try.underlying34;have HQ:=Aside0.mk hq;have HB:=Aside0.mk (Below.refl w.heap.size w);clear hq
 unfold pageV
 go_enter Try.func82,Try.ntmps82
 go_upto_region 1 with (first | ((with_reducible refine gate_dst (N:=3) rfl ?_);refine box_event rfl (N:=3) rfl (cs:=#[.int .i64 p.f0,.int .i64 p.f1,.int .i64 p.f2,.int .i64 p.f3,.int .i64 p.f4,.bool p.f5,.bool p.f6]) (t:=34) (by first | (go_simp;done) | (go_simp;rfl)) ?_;intro b hg w1 hbox hbl;have HBX:=Aside0.mk hbox;have hz1 : w1.cell? ⟨b,1,none⟩ = some (.int .i64 p.f1):=(blk_cell hbox 1).trans rfl;have HQ1:=Aside0.mk (HQ.out.below hbl);have HB1:=Aside0.mk (below_step HB.out hbl);clear hg hbox hbl HB HQ))
 obtain ⟨A3,c3,A4,c4,A5,c5,hg1,hg2,hg3,hg4,hg5,hC3,hC4,hC5⟩:=HQ1.out.fields;have HC3:=Aside0.mk hC3;clear hC3 hC4 hC5 hg2 hg4 hg5;by_cases c1 : 0≤s
 rotate_left
 · have d1 : decide (0≤s) = false:=decide_eq_false c1;go_quiet (fail);go_wp2;go_ret;exact ⟨by unfold qOut;rw [d1];rfl,b1_ HB1.out _⟩
 have d1 : decide (0≤s) = true:=decide_eq_true c1;by_cases c2 : p.f1 < 0
 rotate_left
 · have d2 : decide (p.f1 < 0) = false:=decide_eq_false c2;have d3 : decide (0≤p.f1) = true:=decide_eq_true (by omega);have d4 : decide (p.f1 < (ins.length : Int)) = true:=decide_eq_true hp;obtain ⟨ad,e0,hx⟩:=Kd.at_bool HC3.out p.f1 (by omega) hp;subst e0;go_quiet (fail);go_wp2;go_ret;exact ⟨by unfold qOut;rw [d1,d2];rfl,b1_ HB1.out _⟩
 have d2 : decide (p.f1 < 0) = true:=decide_eq_true c2;go_quiet (fail);go_wp2;go_ret;exact ⟨by unfold qOut;rw [d1,d2];rfl,b1_ HB1.out _⟩
set_option maxRecDepth 100000 in
set_option maxHeartbeats 2000000 in
theorem q_guarded.calls (g : Nat) (s : Int) (kn : Bool) (ins hard soft : List Bool) (p : S34) (w : World) (hq : IsQ w g s kn ins hard soft) (hp : p.f1 < (hard.length : Int)) :
 Calls Try.prog 83 #[.pointer (some ⟨g,0,none⟩),pageV p] w fun e w' => e = .returned (.bool (qGua hard p))∧Below w.heap.size w w':=by
 have hu34:=Try.underlying34;have HQ:=Aside0.mk hq;have HB:=Aside0.mk (Below.refl w.heap.size w);clear hq
 unfold pageV
 go_enter Try.func83,Try.ntmps83
 go_upto_region 1 with (first | ((with_reducible refine gate_dst (N:=3) rfl ?_);refine box_event rfl (N:=3) rfl (cs:=#[.int .i64 p.f0,.int .i64 p.f1,.int .i64 p.f2,.int .i64 p.f3,.int .i64 p.f4,.bool p.f5,.bool p.f6]) (t:=34) (by first | (go_simp;done) | (go_simp;rfl)) ?_;intro b hg w1 hbox hbl;have HBX:=Aside0.mk hbox;have hz1 : w1.cell? ⟨b,1,none⟩ = some (.int .i64 p.f1):=(blk_cell hbox 1).trans rfl;have HQ1:=Aside0.mk (HQ.out.below hbl);have HB1:=Aside0.mk (below_step HB.out hbl);clear hg hbox hbl HB HQ))
 obtain ⟨A3,c3,A4,c4,A5,c5,hg1,hg2,hg3,hg4,hg5,hC3,hC4,hC5⟩:=HQ1.out.fields;have HC4:=Aside0.mk hC4;clear hC3 hC4 hC5 hg1 hg2 hg3 hg5;by_cases c2 : 0≤p.f1
 rotate_left
 · have d1 : decide (0≤p.f1) = false:=decide_eq_false c2;go_quiet (fail);go_wp2;go_ret;exact ⟨by unfold qGua;rw [d1];rfl,b1_ HB1.out _⟩
 have d3 : decide (0≤p.f1) = true:=decide_eq_true c2;have d4 : decide (p.f1 < (hard.length : Int)) = true:=decide_eq_true hp;obtain ⟨ad,e0,hx⟩:=Kd.at_bool HC4.out p.f1 (by omega) hp;subst e0;go_quiet (fail);go_wp2;go_ret;exact ⟨by unfold qGua;rw [d3];rfl,b1_ HB1.out _⟩
def qReason (s : Int) (kn : Bool) (ins hard : List Bool) (p : S34) : Int :=
 if qOut s ins p = true then 13 else if (kn && !p.f5) = true then 12 else if p.f6 = true then 8 else if ¬ p.f3 = 0∧¬ p.f3 = 8 then p.f3 else if qGua hard p = true then 11 else p.f3
set_option maxRecDepth 100000 in
set_option maxHeartbeats 4000000 in
theorem q_reason.calls (g : Nat) (s : Int) (kn : Bool) (ins hard soft : List Bool) (p : S34) (w : World) (hq : IsQ w g s kn ins hard soft) (hp : p.f1 < (ins.length : Int)) (hl : hard.length = ins.length) :
 Calls Try.prog 51 #[.pointer (some ⟨g,0,none⟩),pageV p] w fun e w' => e = .returned (.int .i64 (qReason s kn ins hard p))∧Below w.heap.size w w':=by
 have hu34:=Try.underlying34;have HQ:=Aside0.mk hq;have HP:=Aside0.mk hp;have HL:=Aside0.mk hl;have HB:=Aside0.mk (Below.refl w.heap.size w);clear hq hp hl
 unfold pageV
 go_enter Try.func51,Try.ntmps51
 go_wp2_with (first | ((with_reducible refine gate_dst (N:=3) rfl ?_);refine box_event rfl (N:=3) rfl (cs:=#[.int .i64 p.f0,.int .i64 p.f1,.int .i64 p.f2,.int .i64 p.f3,.int .i64 p.f4,.bool p.f5,.bool p.f6]) (t:=34) (by first | (go_simp;done) | (go_simp;rfl)) ?_;intro b hg w1 hbox hbl;have HBX:=Aside0.mk hbox;have hz0 : w1.cell? ⟨b,0,none⟩ = some (.int .i64 p.f0):=(blk_cell hbox 0).trans rfl;have hz1 : w1.cell? ⟨b,1,none⟩ = some (.int .i64 p.f1):=(blk_cell hbox 1).trans rfl;have hz2 : w1.cell? ⟨b,2,none⟩ = some (.int .i64 p.f2):=(blk_cell hbox 2).trans rfl;have hz3 : w1.cell? ⟨b,3,none⟩ = some (.int .i64 p.f3):=(blk_cell hbox 3).trans rfl;have hz4 : w1.cell? ⟨b,4,none⟩ = some (.int .i64 p.f4):=(blk_cell hbox 4).trans rfl;have hz5 : w1.cell? ⟨b,5,none⟩ = some (.bool p.f5):=(blk_cell hbox 5).trans rfl;have hz6 : w1.cell? ⟨b,6,none⟩ = some (.bool p.f6):=(blk_cell hbox 6).trans rfl;have HQ1:=Aside0.mk (HQ.out.below hbl);have HB1:=Aside0.mk (below_step HB.out hbl);clear hg hbox hbl HB HQ) | (go_at_call 82;(refine calls_of_args (args':=#[.pointer (some ⟨g,0,none⟩),pageV p]) (by first | rfl | simp [pageV, *]) ?_);(refine (q_outside.calls g s kn ins hard soft p _ HQ1.out HP.out).mono ?_);rintro e w2 ⟨rfl,hbl⟩;have HB2:=Aside0.mk (below_step HB1.out hbl);have HQ2:=Aside0.mk (HQ1.out.below hbl);have HBX2:=Aside0.mk ((hbl.block b (blk_lt HBX.out)).trans HBX.out);clear hz0 hz1 hz2 hz3 hz4 hz5 hz6 hbl HB1 HQ1 HBX;have hg2:=HQ2.out.fields;obtain ⟨_,_,_,_,_,_,_,hg2,_⟩:=hg2;have hz0 : w2.cell? ⟨b,0,none⟩ = some (.int .i64 p.f0):=(blk_cell HBX2.out 0).trans rfl;have hz1 : w2.cell? ⟨b,1,none⟩ = some (.int .i64 p.f1):=(blk_cell HBX2.out 1).trans rfl;have hz2 : w2.cell? ⟨b,2,none⟩ = some (.int .i64 p.f2):=(blk_cell HBX2.out 2).trans rfl;have hz3 : w2.cell? ⟨b,3,none⟩ = some (.int .i64 p.f3):=(blk_cell HBX2.out 3).trans rfl;have hz4 : w2.cell? ⟨b,4,none⟩ = some (.int .i64 p.f4):=(blk_cell HBX2.out 4).trans rfl;have hz5 : w2.cell? ⟨b,5,none⟩ = some (.bool p.f5):=(blk_cell HBX2.out 5).trans rfl;have hz6 : w2.cell? ⟨b,6,none⟩ = some (.bool p.f6):=(blk_cell HBX2.out 6).trans rfl) | (go_at_call 83;(refine calls_of_args (args':=#[.pointer (some ⟨g,0,none⟩),pageV p]) (by first | rfl | simp [pageV, *]) ?_);(refine (q_guarded.calls g s kn ins hard soft p _ HQ2.out (by have:=HP.out;have:=HL.out;omega)).mono ?_);rintro e w3 ⟨rfl,hbl⟩;have HB3:=Aside0.mk (below_step HB2.out hbl);have HBX3:=Aside0.mk ((hbl.block b (blk_lt HBX2.out)).trans HBX2.out);clear hz0 hz1 hz2 hz3 hz4 hz5 hz6 hg2 hbl HB2 HQ2 HBX2;have hz3 : w3.cell? ⟨b,3,none⟩ = some (.int .i64 p.f3):=(blk_cell HBX3.out 3).trans rfl))
 all_goals
  go_ret;exact ⟨by congr 2;unfold qReason;simp_all,by first | exact HB2.out | exact HB3.out⟩
set_option maxRecDepth 100000 in
set_option maxHeartbeats 2000000 in
theorem q_transit.calls (g : Nat) (s : Int) (kn : Bool) (ins hard soft : List Bool) (p : S34) (w : World) (hq : IsQ w g s kn ins hard soft) (hp : p.f1 < (ins.length : Int)) (hl : hard.length = ins.length) :
 Calls Try.prog 55 #[.pointer (some ⟨g,0,none⟩),pageV p] w fun e w' => e = .returned (.bool (qReason s kn ins hard p == 8))∧Below w.heap.size w w':=by
 have hu34:=Try.underlying34;have HQ:=Aside0.mk hq;have HP:=Aside0.mk hp;have HL:=Aside0.mk hl;have HB:=Aside0.mk (Below.refl w.heap.size w);clear hq hp hl
 unfold pageV
 go_enter Try.func55,Try.ntmps55
 go_wp2_with (first | ((with_reducible refine gate_dst (N:=3) rfl ?_);refine box_event rfl (N:=3) rfl (cs:=#[.int .i64 p.f0,.int .i64 p.f1,.int .i64 p.f2,.int .i64 p.f3,.int .i64 p.f4,.bool p.f5,.bool p.f6]) (t:=34) (by first | (go_simp;done) | (go_simp;rfl)) ?_;intro b hg w1 hbox hbl;have HBX:=Aside0.mk hbox;have hz0 : w1.cell? ⟨b,0,none⟩ = some (.int .i64 p.f0):=(blk_cell hbox 0).trans rfl;have hz1 : w1.cell? ⟨b,1,none⟩ = some (.int .i64 p.f1):=(blk_cell hbox 1).trans rfl;have hz2 : w1.cell? ⟨b,2,none⟩ = some (.int .i64 p.f2):=(blk_cell hbox 2).trans rfl;have hz3 : w1.cell? ⟨b,3,none⟩ = some (.int .i64 p.f3):=(blk_cell hbox 3).trans rfl;have hz4 : w1.cell? ⟨b,4,none⟩ = some (.int .i64 p.f4):=(blk_cell hbox 4).trans rfl;have hz5 : w1.cell? ⟨b,5,none⟩ = some (.bool p.f5):=(blk_cell hbox 5).trans rfl;have hz6 : w1.cell? ⟨b,6,none⟩ = some (.bool p.f6):=(blk_cell hbox 6).trans rfl;have HQ1:=Aside0.mk (HQ.out.below hbl);have HB1:=Aside0.mk (below_step HB.out hbl);clear hg hbox hbl HB HQ) | (go_at_call 51;(refine (q_reason.calls g s kn ins hard soft p _ HQ1.out HP.out HL.out).mono ?_);rintro e w2 ⟨rfl,hbl⟩;have HB2:=Aside0.mk (below_step HB1.out hbl);clear hz0 hz1 hz2 hz3 hz4 hz5 hz6 hbl HB1 HQ1))
 go_ret;exact ⟨rfl,HB2.out⟩
def qHolds (s : Int) (kn : Bool) (ins hard : List Bool) (p : S34) (r : Int) : Bool :=
 if r = 13 then qOut s ins p else if r = 12 then (kn && !p.f5) else if r = 11 then (!p.f6 && qGua hard p) else if r = 0∨r = 8 then false else (!p.f6 && p.f3 == r)
set_option maxRecDepth 100000 in
set_option maxHeartbeats 4000000 in
theorem q_holds.calls (g : Nat) (s : Int) (kn : Bool) (ins hard soft : List Bool) (p : S34) (r : Int) (w : World) (hq : IsQ w g s kn ins hard soft) (hp : p.f1 < (ins.length : Int)) (hl : hard.length = ins.length) :
 Calls Try.prog 53 #[.pointer (some ⟨g,0,none⟩),pageV p,.int .i64 r] w fun e w' => e = .returned (.bool (qHolds s kn ins hard p r))∧Below w.heap.size w w':=by
 have hu34:=Try.underlying34;have HQ:=Aside0.mk hq;have HP:=Aside0.mk hp;have HL:=Aside0.mk hl;have HB:=Aside0.mk (Below.refl w.heap.size w);clear hq hp hl
 unfold pageV
 by_cases r13 : r = 13
 rotate_left
 ·
  have e13 : (r == 13) = false:=beq_eq_false_iff_ne.mpr r13;by_cases r12 : r = 12
  rotate_left
  ·
   have e12 : (r == 12) = false:=beq_eq_false_iff_ne.mpr r12;by_cases r11 : r = 11
   rotate_left
   ·
    have e11 : (r == 11) = false:=beq_eq_false_iff_ne.mpr r11;by_cases r0 : r = 0
    rotate_left
    ·
     have e0 : (r == 0) = false:=beq_eq_false_iff_ne.mpr r0;by_cases r8 : r = 8
     rotate_left
     ·
      have e8 : (r == 8) = false:=beq_eq_false_iff_ne.mpr r8
      go_enter Try.func53,Try.ntmps53
      go_wp2_with (first | ((with_reducible refine gate_dst (N:=4) rfl ?_);refine box_event rfl (N:=4) rfl (cs:=#[.int .i64 p.f0,.int .i64 p.f1,.int .i64 p.f2,.int .i64 p.f3,.int .i64 p.f4,.bool p.f5,.bool p.f6]) (t:=34) (by first | (go_simp;done) | (go_simp;rfl)) ?_;intro b hg w1 hbox hbl;have HBX:=Aside0.mk hbox;have hz0 : w1.cell? ⟨b,0,none⟩ = some (.int .i64 p.f0):=(blk_cell hbox 0).trans rfl;have hz1 : w1.cell? ⟨b,1,none⟩ = some (.int .i64 p.f1):=(blk_cell hbox 1).trans rfl;have hz2 : w1.cell? ⟨b,2,none⟩ = some (.int .i64 p.f2):=(blk_cell hbox 2).trans rfl;have hz3 : w1.cell? ⟨b,3,none⟩ = some (.int .i64 p.f3):=(blk_cell hbox 3).trans rfl;have hz4 : w1.cell? ⟨b,4,none⟩ = some (.int .i64 p.f4):=(blk_cell hbox 4).trans rfl;have hz5 : w1.cell? ⟨b,5,none⟩ = some (.bool p.f5):=(blk_cell hbox 5).trans rfl;have hz6 : w1.cell? ⟨b,6,none⟩ = some (.bool p.f6):=(blk_cell hbox 6).trans rfl;have HQ1:=Aside0.mk (HQ.out.below hbl);have HB1:=Aside0.mk (below_step HB.out hbl);clear hg hbox hbl HB HQ))
      all_goals
       go_ret;exact ⟨by congr 2;unfold qHolds;simp_all,HB1.out⟩
     subst r8
     go_enter Try.func53,Try.ntmps53
     go_wp2_with (first | ((with_reducible refine gate_dst (N:=4) rfl ?_);refine box_event rfl (N:=4) rfl (cs:=#[.int .i64 p.f0,.int .i64 p.f1,.int .i64 p.f2,.int .i64 p.f3,.int .i64 p.f4,.bool p.f5,.bool p.f6]) (t:=34) (by first | (go_simp;done) | (go_simp;rfl)) ?_;intro b hg w1 hbox hbl;have HBX:=Aside0.mk hbox;have hz0 : w1.cell? ⟨b,0,none⟩ = some (.int .i64 p.f0):=(blk_cell hbox 0).trans rfl;have hz1 : w1.cell? ⟨b,1,none⟩ = some (.int .i64 p.f1):=(blk_cell hbox 1).trans rfl;have hz2 : w1.cell? ⟨b,2,none⟩ = some (.int .i64 p.f2):=(blk_cell hbox 2).trans rfl;have hz3 : w1.cell? ⟨b,3,none⟩ = some (.int .i64 p.f3):=(blk_cell hbox 3).trans rfl;have hz4 : w1.cell? ⟨b,4,none⟩ = some (.int .i64 p.f4):=(blk_cell hbox 4).trans rfl;have hz5 : w1.cell? ⟨b,5,none⟩ = some (.bool p.f5):=(blk_cell hbox 5).trans rfl;have hz6 : w1.cell? ⟨b,6,none⟩ = some (.bool p.f6):=(blk_cell hbox 6).trans rfl;have HQ1:=Aside0.mk (HQ.out.below hbl);have HB1:=Aside0.mk (below_step HB.out hbl);clear hg hbox hbl HB HQ))
     go_ret;exact ⟨rfl,HB1.out⟩
    subst r0
    go_enter Try.func53,Try.ntmps53
    go_wp2_with (first | ((with_reducible refine gate_dst (N:=4) rfl ?_);refine box_event rfl (N:=4) rfl (cs:=#[.int .i64 p.f0,.int .i64 p.f1,.int .i64 p.f2,.int .i64 p.f3,.int .i64 p.f4,.bool p.f5,.bool p.f6]) (t:=34) (by first | (go_simp;done) | (go_simp;rfl)) ?_;intro b hg w1 hbox hbl;have HBX:=Aside0.mk hbox;have hz0 : w1.cell? ⟨b,0,none⟩ = some (.int .i64 p.f0):=(blk_cell hbox 0).trans rfl;have hz1 : w1.cell? ⟨b,1,none⟩ = some (.int .i64 p.f1):=(blk_cell hbox 1).trans rfl;have hz2 : w1.cell? ⟨b,2,none⟩ = some (.int .i64 p.f2):=(blk_cell hbox 2).trans rfl;have hz3 : w1.cell? ⟨b,3,none⟩ = some (.int .i64 p.f3):=(blk_cell hbox 3).trans rfl;have hz4 : w1.cell? ⟨b,4,none⟩ = some (.int .i64 p.f4):=(blk_cell hbox 4).trans rfl;have hz5 : w1.cell? ⟨b,5,none⟩ = some (.bool p.f5):=(blk_cell hbox 5).trans rfl;have hz6 : w1.cell? ⟨b,6,none⟩ = some (.bool p.f6):=(blk_cell hbox 6).trans rfl;have HQ1:=Aside0.mk (HQ.out.below hbl);have HB1:=Aside0.mk (below_step HB.out hbl);clear hg hbox hbl HB HQ))
    go_ret;exact ⟨rfl,HB1.out⟩
   subst r11
   go_enter Try.func53,Try.ntmps53
   go_wp2_with (first | ((with_reducible refine gate_dst (N:=4) rfl ?_);refine box_event rfl (N:=4) rfl (cs:=#[.int .i64 p.f0,.int .i64 p.f1,.int .i64 p.f2,.int .i64 p.f3,.int .i64 p.f4,.bool p.f5,.bool p.f6]) (t:=34) (by first | (go_simp;done) | (go_simp;rfl)) ?_;intro b hg w1 hbox hbl;have HBX:=Aside0.mk hbox;have hz0 : w1.cell? ⟨b,0,none⟩ = some (.int .i64 p.f0):=(blk_cell hbox 0).trans rfl;have hz1 : w1.cell? ⟨b,1,none⟩ = some (.int .i64 p.f1):=(blk_cell hbox 1).trans rfl;have hz2 : w1.cell? ⟨b,2,none⟩ = some (.int .i64 p.f2):=(blk_cell hbox 2).trans rfl;have hz3 : w1.cell? ⟨b,3,none⟩ = some (.int .i64 p.f3):=(blk_cell hbox 3).trans rfl;have hz4 : w1.cell? ⟨b,4,none⟩ = some (.int .i64 p.f4):=(blk_cell hbox 4).trans rfl;have hz5 : w1.cell? ⟨b,5,none⟩ = some (.bool p.f5):=(blk_cell hbox 5).trans rfl;have hz6 : w1.cell? ⟨b,6,none⟩ = some (.bool p.f6):=(blk_cell hbox 6).trans rfl;have HQ1:=Aside0.mk (HQ.out.below hbl);have HB1:=Aside0.mk (below_step HB.out hbl);clear hg hbox hbl HB HQ) | (go_at_call 83;(refine calls_of_args (args':=#[.pointer (some ⟨g,0,none⟩),pageV p]) (by first | rfl | simp [pageV, *]) ?_);(refine (q_guarded.calls g s kn ins hard soft p _ HQ1.out (by have:=HP.out;have:=HL.out;omega)).mono ?_);rintro e w2 ⟨rfl,hbl⟩;have HB2:=Aside0.mk (below_step HB1.out hbl);clear hz0 hz1 hz2 hz3 hz4 hz5 hz6 hbl HB1 HQ1))
   all_goals
    go_ret;exact ⟨by congr 2;unfold qHolds;simp_all,by first | exact HB2.out | exact HB1.out⟩
  subst r12
  go_enter Try.func53,Try.ntmps53
  go_upto_region 5 with (first | ((with_reducible refine gate_dst (N:=4) rfl ?_);refine box_event rfl (N:=4) rfl (cs:=#[.int .i64 p.f0,.int .i64 p.f1,.int .i64 p.f2,.int .i64 p.f3,.int .i64 p.f4,.bool p.f5,.bool p.f6]) (t:=34) (by first | (go_simp;done) | (go_simp;rfl)) ?_;intro b hg w1 hbox hbl;have HBX:=Aside0.mk hbox;have hz0 : w1.cell? ⟨b,0,none⟩ = some (.int .i64 p.f0):=(blk_cell hbox 0).trans rfl;have hz1 : w1.cell? ⟨b,1,none⟩ = some (.int .i64 p.f1):=(blk_cell hbox 1).trans rfl;have hz2 : w1.cell? ⟨b,2,none⟩ = some (.int .i64 p.f2):=(blk_cell hbox 2).trans rfl;have hz3 : w1.cell? ⟨b,3,none⟩ = some (.int .i64 p.f3):=(blk_cell hbox 3).trans rfl;have hz4 : w1.cell? ⟨b,4,none⟩ = some (.int .i64 p.f4):=(blk_cell hbox 4).trans rfl;have hz5 : w1.cell? ⟨b,5,none⟩ = some (.bool p.f5):=(blk_cell hbox 5).trans rfl;have hz6 : w1.cell? ⟨b,6,none⟩ = some (.bool p.f6):=(blk_cell hbox 6).trans rfl;have HQ1:=Aside0.mk (HQ.out.below hbl);have HB1:=Aside0.mk (below_step HB.out hbl);clear hg hbox hbl HB HQ))
  obtain ⟨_,_,_,_,_,_,_,hg2,_⟩:=HQ1.out.fields;go_wp2
  all_goals
   go_ret;exact ⟨by congr 2;unfold qHolds;simp_all,HB1.out⟩
 subst r13
 go_enter Try.func53,Try.ntmps53
 go_wp2_with (first | ((with_reducible refine gate_dst (N:=4) rfl ?_);refine box_event rfl (N:=4) rfl (cs:=#[.int .i64 p.f0,.int .i64 p.f1,.int .i64 p.f2,.int .i64 p.f3,.int .i64 p.f4,.bool p.f5,.bool p.f6]) (t:=34) (by first | (go_simp;done) | (go_simp;rfl)) ?_;intro b hg w1 hbox hbl;have HBX:=Aside0.mk hbox;have hz0 : w1.cell? ⟨b,0,none⟩ = some (.int .i64 p.f0):=(blk_cell hbox 0).trans rfl;have hz1 : w1.cell? ⟨b,1,none⟩ = some (.int .i64 p.f1):=(blk_cell hbox 1).trans rfl;have hz2 : w1.cell? ⟨b,2,none⟩ = some (.int .i64 p.f2):=(blk_cell hbox 2).trans rfl;have hz3 : w1.cell? ⟨b,3,none⟩ = some (.int .i64 p.f3):=(blk_cell hbox 3).trans rfl;have hz4 : w1.cell? ⟨b,4,none⟩ = some (.int .i64 p.f4):=(blk_cell hbox 4).trans rfl;have hz5 : w1.cell? ⟨b,5,none⟩ = some (.bool p.f5):=(blk_cell hbox 5).trans rfl;have hz6 : w1.cell? ⟨b,6,none⟩ = some (.bool p.f6):=(blk_cell hbox 6).trans rfl;have HQ1:=Aside0.mk (HQ.out.below hbl);have HB1:=Aside0.mk (below_step HB.out hbl);clear hg hbox hbl HB HQ) | (go_at_call 82;(refine (q_outside.calls g s kn ins hard soft p _ HQ1.out HP.out).mono ?_);rintro e w2 ⟨rfl,hbl⟩;have HB2:=Aside0.mk (below_step HB1.out hbl);clear hz0 hz1 hz2 hz3 hz4 hz5 hz6 hbl HB1 HQ1))
 go_ret;exact ⟨rfl,HB2.out⟩
def lvStep (l : List Int) (p : S34) : List Int:=if p.f6 = true∧0≤p.f1 then l.set p.f1.toNat (wrap64 (rd l p.f1 + 1)) else l
theorem lvStep_length (l : List Int) (p : S34) : (lvStep l p).length = l.length:=by unfold lvStep;split <;> simp
theorem lvFold_length : ∀ (ps : List S34) (l : List Int),(ps.foldl lvStep l).length = l.length
 | [],_ => rfl
 | p :: ps,l => (lvFold_length ps (lvStep l p)).trans (lvStep_length l p)
def lvOf (n : Nat) (ps : List S34) : List Int:=ps.foldl lvStep (List.replicate n 0)
theorem drop_rd34 (l : List S34) (x : Int) (h0 : 0≤x) (h1 : x < (l.length : Int)) : l.drop x.toNat = rd_T34 l x :: l.drop (x + 1).toNat:=by
 have e : (x + 1).toNat = x.toNat + 1:=by omega
 have hl : x.toNat < l.length:=by omega
 rw [e,List.drop_eq_getElem_cons hl]
 unfold rd_T34
 rw [List.getD_eq_getElem?_getD,List.getElem?_eq_getElem hl];rfl
theorem rd34_mem (l : List S34) (x : Int) (h0 : 0≤x) (h1 : x < (l.length : Int)) : rd_T34 l x ∈ l:=by
 have hl : x.toNat < l.length:=by omega
 unfold rd_T34
 rw [List.getD_eq_getElem?_getD,List.getElem?_eq_getElem hl];exact List.getElem_mem hl
def askFold (k : Nat) (l1 : List S30) (lv : List Int) (s : Int) : Nat→Int→List Bool→List Bool→List Bool→Option (List Bool × List Bool × List Bool)
 | 0,_,a,b,c => some (a,b,c)
 | n + 1,i,a,b,c => (accounts_Inside.f k l1 i s).bind fun x => (protection_Guarded.f k l1 lv i s false).bind fun y => (protection_Guarded.f k l1 lv i s true).bind fun z => askFold k l1 lv s n (i + 1) (a ++ [x]) (b ++ [y]) (c ++ [z])
theorem askFold_mono (k : Nat) (l1 : List S30) (lv : List Int) (s : Int) : ∀ n i a b c,LeO (askFold k l1 lv s n i a b c) (askFold (k + 1) l1 lv s n i a b c)
 | 0,_,_,_,_ => LeO.refl _
 | n + 1,i,a,b,c => LeO.bind (accounts_Inside.mono _ _ _ _) (fun _ => LeO.bind (protection_Guarded.mono _ _ _ _ _ _) (fun _ => LeO.bind (protection_Guarded.mono _ _ _ _ _ _) (fun _ => askFold_mono k l1 lv s n _ _ _ _)))
theorem askFold_length (k : Nat) (l1 : List S30) (lv : List Int) (s : Int) : ∀ n i a b c r,askFold k l1 lv s n i a b c = some r→r.1.length = a.length + n∧r.2.1.length = b.length + n∧r.2.2.length = c.length + n
 | 0,_,a,b,c,r,h => by cases h;exact ⟨rfl,rfl,rfl⟩
 | n + 1,i,a,b,c,r,h => by
  simp only [askFold] at h;obtain ⟨x,_,h⟩:=Option.bind_eq_some_iff.mp h;obtain ⟨y,_,h⟩:=Option.bind_eq_some_iff.mp h;obtain ⟨z,_,h⟩:=Option.bind_eq_some_iff.mp h;have:=askFold_length k l1 lv s n _ _ _ _ r h
  simp at this
  omega
def askOk (l0 : List S34) (l1 : List S30) : Bool:=decide (l1.length < 1000000) && decide (l0.length < 1000000) && l0.all fun p => decide (p.f1 < (l1.length : Int))
def reclaimplan_ask.f (k : Nat) (l0 : List S34) (l1 : List S30) (a2 : Int) : Option (Int × List Bool × List Bool × List Bool) :=
 (reclaimplan_Check.f k l0 l1).bind fun e => if e = 0 then (if a2 < -1∨(l1.length : Int)≤a2 then some (2,[],[],[]) else if askOk l0 l1 = true then (askFold k l1 (lvOf l1.length l0) a2 l1.length 0 [] [] []).bind fun q => some (0,q) else none) else some (e,[],[],[])
theorem reclaimplan_ask.mono (a0 : List S34) (a1 : List S30) (a2 : Int) (k : Nat) : LeO (reclaimplan_ask.f k a0 a1 a2) (reclaimplan_ask.f (k + 1) a0 a1 a2):=by
 unfold reclaimplan_ask.f
 refine LeO.bind (reclaimplan_Check.mono _ _ _) (fun e => ?_);refine LeO.ite (LeO.ite (LeO.refl _) (LeO.ite (LeO.bind (askFold_mono _ _ _ _ _ _ _ _ _) (fun _ => LeO.refl _)) (LeO.refl _))) (LeO.refl _)
set_option maxRecDepth 100000 in
set_option maxHeartbeats 4000000 in
theorem ask_err.calls (k : Nat) (A0 : Option Addr) (c0 : Nat) (l0 : List (S34)) (A1 : Option Addr) (c1 : Nat) (l1 : List (S30)) (a2 : Int) (a3 : Bool) (r : Int) (w : World) (hr0 : Kd.C k34 w A0 l0.length l0) (hc0 : l0.length≤c0) (hr1 : Kd.C k30 w A1 l1.length l1) (hc1 : l1.length≤c1) (h : reclaimplan_Check.f k l0 l1 = some r) (hr : ¬ r = 0) :
 Calls Try.prog 50 #[.slice A0 l0.length c0,.slice A1 l1.length c1,.int .i64 a2,.bool a3] w fun e w' => e = .returned (.tuple #[.pointer none,.int .i64 r])∧Below w.heap.size w w':=by
 have hu34:=Try.underlying34;have HR0:=Aside0.mk hr0;have HC0:=Aside0.mk hc0;have HR1:=Aside0.mk hr1;have HC1:=Aside0.mk hc1;clear hr0 hc0 hr1 hc1;have HB:=Aside0.mk (Below.refl w.heap.size w);have H:=Aside0.mk h;have d1 : (r != 0) = true:=bne_iff_ne.mpr hr;clear h
 go_enter Try.func50,Try.ntmps50
 go_wp2_with (first | (go_at_call 31;(refine (reclaimplan_Check.calls k _ _ l0 _ _ l1 r _ HR0.out HC0.out HR1.out HC1.out H.out).mono ?_);rintro e w1 ⟨rfl,hb⟩;have HB1:=Aside0.mk (below_step HB.out hb);clear hb HB))
 go_ret2;exact ⟨rfl,HB1.out⟩
set_option maxRecDepth 100000 in
set_option maxHeartbeats 4000000 in
theorem ask_scope.calls (k : Nat) (A0 : Option Addr) (c0 : Nat) (l0 : List (S34)) (A1 : Option Addr) (c1 : Nat) (l1 : List (S30)) (a2 : Int) (a3 : Bool) (w : World) (hr0 : Kd.C k34 w A0 l0.length l0) (hc0 : l0.length≤c0) (hr1 : Kd.C k30 w A1 l1.length l1) (hc1 : l1.length≤c1) (h : reclaimplan_Check.f k l0 l1 = some 0) (hr : a2 < -1∨(l1.length : Int)≤a2) :
 Calls Try.prog 50 #[.slice A0 l0.length c0,.slice A1 l1.length c1,.int .i64 a2,.bool a3] w fun e w' => e = .returned (.tuple #[.pointer none,.int .i64 2])∧Below w.heap.size w w':=by
 have hu34:=Try.underlying34;have HR0:=Aside0.mk hr0;have HC0:=Aside0.mk hc0;have HR1:=Aside0.mk hr1;have HC1:=Aside0.mk hc1;clear hr0 hc0 hr1 hc1;have HB:=Aside0.mk (Below.refl w.heap.size w);have H:=Aside0.mk h;clear h;by_cases c1 : a2 < -1
 rotate_left
 ·
  have d1 : decide (a2 < -1) = false:=decide_eq_false c1;have d2 : decide ((l1.length : Int)≤a2) = true:=decide_eq_true (by omega)
  go_enter Try.func50,Try.ntmps50
  go_wp2_with (first | (go_at_call 31;(refine (reclaimplan_Check.calls k _ _ l0 _ _ l1 0 _ HR0.out HC0.out HR1.out HC1.out H.out).mono ?_);rintro e w1 ⟨rfl,hb⟩;have HB1:=Aside0.mk (below_step HB.out hb);clear hb HB))
  go_ret2;exact ⟨rfl,HB1.out⟩
 have d1 : decide (a2 < -1) = true:=decide_eq_true c1
 go_enter Try.func50,Try.ntmps50
 go_wp2_with (first | (go_at_call 31;(refine (reclaimplan_Check.calls k _ _ l0 _ _ l1 0 _ HR0.out HC0.out HR1.out HC1.out H.out).mono ?_);rintro e w1 ⟨rfl,hb⟩;have HB1:=Aside0.mk (below_step HB.out hb);clear hb HB))
 go_ret2;exact ⟨rfl,HB1.out⟩
theorem qinfo4 : (Try.prog.info? 4).map (fun i => (i.zero,i.size,i.bytes)) = some (some (.bool false),1,1):=by kernel_rfl
theorem wrx (x : Int) (h0 : 0≤x) (h1 : x < 1000000) : wrap64 (x + 1) = x + 1:=by unfold wrap64;omega
theorem size_put (W : World) (p : Addr) (u : Value) : (W.setCell p u).heap.size = W.heap.size:=by simp [World.setCell]
theorem wp_gen {P : Program} {c : Code} {Q : Exit→Act→World→Prop} {a : Act} {w : World} (h : ∀ wc,wc = w→c.wp P Q a wc) : c.wp P Q a w:=h w rfl
section
variable {α : Type} {d : Kd α} {e : Nat}
theorem R_other {w w1 : World} {base g : Nat} {v v' u t : Value} {xs : List α} (h : Kd.R d e w base (fun k => k≠g∧some k≠v.ownBlock∧some k≠t.ownBlock) u xs) (hg : w.grownBy w1 v.ownBlock) (hat : v'.ownBlock = v.ownBlock∨∃ b,v'.ownBlock = some b∧w.heap.size≤b) :
 Kd.R d e w1 base (fun k => k≠g∧some k≠v'.ownBlock∧some k≠t.ownBlock) u xs:=by
 refine Kd.R_mono (Kd.R_grown (Kd.R_bound h) hg (fun k hk => hk.1.2.1)) (fun k hk => ⟨hk.1.1,?_,hk.1.2.2⟩)
 rcases hat with hat | ⟨b,hb,hl⟩
 · rw [hat];exact hk.1.2.1
 ·
  rw [hb];have:=hk.2.2.1;intro h2
  injection h2 with h2
  omega
theorem R_swap {w : World} {base g : Nat} {v u t : Value} {xs : List α} (h : Kd.R d e w base (fun k => k≠g∧some k≠v.ownBlock∧some k≠t.ownBlock) u xs) : Kd.R d e w base (fun k => k≠g∧some k≠t.ownBlock∧some k≠v.ownBlock) u xs:=Kd.R_mono h (fun _ hk => ⟨hk.1,hk.2.2,hk.2.1⟩)
theorem R_lt {w : World} {base : Nat} {ok : Nat→Prop} {v : Value} {xs : List α} (h : Kd.R d e w base ok v xs) (k : Nat) (hk : v.ownBlock = some k) : k < w.heap.size:=((Kd.R_bound h).1 k hk).2.2.1
end
def Rows3 (W : World) (base g : Nat) (v3 v4 v5 : Value) (a b c : List Bool) : Prop :=
 Kd.R Kd.bool 4 W base (fun k => k≠g∧some k≠v4.ownBlock∧some k≠v5.ownBlock) v3 a ∧
 Kd.R Kd.bool 4 W base (fun k => k≠g∧some k≠v3.ownBlock∧some k≠v5.ownBlock) v4 b ∧
 Kd.R Kd.bool 4 W base (fun k => k≠g∧some k≠v3.ownBlock∧some k≠v4.ownBlock) v5 c
section
variable {W W1 : World} {base g : Nat} {v3 v4 v5 v' : Value} {a b c a' : List Bool}
theorem Rows3.below (h : Rows3 W base g v3 v4 v5 a b c) (hb : Below W.heap.size W W1) : Rows3 W1 base g v3 v4 v5 a b c:=⟨Kd.R_below h.1 hb,Kd.R_below h.2.1 hb,Kd.R_below h.2.2 hb⟩
theorem Rows3.put (h : Rows3 W base g v3 v4 v5 a b c) (j : Nat) (u : Value) : Rows3 (W.setCell ⟨g,j,none⟩ u) base g v3 v4 v5 a b c:=⟨Kd.R_far h.1 (fun _ hk => hk.1) u,Kd.R_far h.2.1 (fun _ hk => hk.1) u,Kd.R_far h.2.2 (fun _ hk => hk.1) u⟩
theorem Rows3.fresh3 (h : Rows3 W base g v3 v4 v5 a b c) (hg : g < W.heap.size) : ∀ k,W.heap.size≤k→(k≠g∧some k≠v4.ownBlock∧some k≠v5.ownBlock):=fun k hk =>
 ⟨by omega,fun e => by have:=R_lt h.2.1 k e.symm;omega,fun e => by have:=R_lt h.2.2 k e.symm;omega⟩
theorem Rows3.fresh4 (h : Rows3 W base g v3 v4 v5 a b c) (hg : g < W.heap.size) : ∀ k,W.heap.size≤k→(k≠g∧some k≠v3.ownBlock∧some k≠v5.ownBlock):=fun k hk =>
 ⟨by omega,fun e => by have:=R_lt h.1 k e.symm;omega,fun e => by have:=R_lt h.2.2 k e.symm;omega⟩
theorem Rows3.fresh5 (h : Rows3 W base g v3 v4 v5 a b c) (hg : g < W.heap.size) : ∀ k,W.heap.size≤k→(k≠g∧some k≠v3.ownBlock∧some k≠v4.ownBlock):=fun k hk =>
 ⟨by omega,fun e => by have:=R_lt h.1 k e.symm;omega,fun e => by have:=R_lt h.2.1 k e.symm;omega⟩
theorem Rows3.app3 (h : Rows3 W base g v3 v4 v5 a b c) (hg : W.grownBy W1 v3.ownBlock) (hat : v'.ownBlock = v3.ownBlock∨∃ b,v'.ownBlock = some b∧W.heap.size≤b) (hr : Kd.R Kd.bool 4 W1 base (fun k => k≠g∧some k≠v4.ownBlock∧some k≠v5.ownBlock) v' a') : Rows3 W1 base g v' v4 v5 a' b c :=
 ⟨hr,R_other h.2.1 hg hat,R_other h.2.2 hg hat⟩
theorem Rows3.app4 (h : Rows3 W base g v3 v4 v5 a b c) (hg : W.grownBy W1 v4.ownBlock) (hat : v'.ownBlock = v4.ownBlock∨∃ b,v'.ownBlock = some b∧W.heap.size≤b) (hr : Kd.R Kd.bool 4 W1 base (fun k => k≠g∧some k≠v3.ownBlock∧some k≠v5.ownBlock) v' a') : Rows3 W1 base g v3 v' v5 a a' c :=
 ⟨R_other h.1 hg hat,hr,R_swap (R_other (R_swap h.2.2) hg hat)⟩
theorem Rows3.app5 (h : Rows3 W base g v3 v4 v5 a b c) (hg : W.grownBy W1 v5.ownBlock) (hat : v'.ownBlock = v5.ownBlock∨∃ b,v'.ownBlock = some b∧W.heap.size≤b) (hr : Kd.R Kd.bool 4 W1 base (fun k => k≠g∧some k≠v3.ownBlock∧some k≠v4.ownBlock) v' a') : Rows3 W1 base g v3 v4 v' a b a' :=
 ⟨R_swap (R_other (R_swap h.1) hg hat),R_swap (R_other (R_swap h.2.1) hg hat),hr⟩
end
set_option maxRecDepth 100000 in
set_option maxHeartbeats 8000000 in
theorem ask_ok.calls (k : Nat) (A0 : Option Addr) (c0 : Nat) (l0 : List (S34)) (A1 : Option Addr) (c1 : Nat) (l1 : List (S30)) (a2 : Int) (a3 : Bool) (r : List Bool × List Bool × List Bool) (w : World) (hr0 : Kd.C k34 w A0 l0.length l0) (hc0 : l0.length≤c0) (hr1 : Kd.C k30 w A1 l1.length l1) (hc1 : l1.length≤c1) (h : reclaimplan_Check.f k l0 l1 = some 0) (hs : ¬ (a2 < -1∨(l1.length : Int)≤a2)) (hok : askOk l0 l1 = true) (hf : askFold k l1 (lvOf l1.length l0) a2 l1.length 0 [] [] [] = some r) :
 Calls Try.prog 50 #[.slice A0 l0.length c0,.slice A1 l1.length c1,.int .i64 a2,.bool a3] w fun e w' => (∃ g,e = .returned (.tuple #[.pointer (some ⟨g,0,none⟩),.int .i64 0])∧IsQ w' g a2 a3 r.1 r.2.1 r.2.2)∧Below w.heap.size w w':=by
 have hu34:=Try.underlying34;have HR0:=Aside0.mk hr0;have HC0:=Aside0.mk hc0;have HR1:=Aside0.mk hr1;have HC1:=Aside0.mk hc1;clear hr0 hc0 hr1 hc1;have HB:=Aside0.mk (Below.refl w.heap.size w);have H:=Aside0.mk h;have HF:=Aside0.mk hf;have d1 : decide (a2 < -1) = false:=decide_eq_false (by omega)
 have d2 : decide ((l1.length : Int)≤a2) = false:=decide_eq_false (by omega);simp only [askOk,Bool.and_eq_true,decide_eq_true_eq,List.all_eq_true] at hok;have HN:=Aside0.mk hok.1.1;have HM:=Aside0.mk hok.1.2;have HP:=Aside0.mk hok.2;clear h hf hs hok
 go_enter Try.func50,Try.ntmps50
 go_upto_region 7 with (first | (go_at_call 31;(refine (reclaimplan_Check.calls k _ _ l0 _ _ l1 0 _ HR0.out HC0.out HR1.out HC1.out H.out).mono ?_);rintro e w1 ⟨rfl,hb⟩;have HB1:=Aside0.mk (below_step HB.out hb);clear hb HB) | ((with_reducible refine gate_dst (N:=32) rfl ?_);refine Kd.R_make (Kd.int .i64) _ 3 rfl (N:=32) rfl 50 _ _ rfl (l1.length : Int) rfl rfl Try.underlying50 (.int .i64 0) 8 info3 rfl (by decide) (by omega) 0 (ok:=fun _ => True) (okp:=fun _ => True) rfl (fun _ hk => hk) trivial (by omega) (by have:=HN.out;omega) (Below.refl _ _) (Nat.le_refl _) ?_;intro v8 w4 ho hb hg_ hnew_;simp only [Int.toNat_natCast] at ho;(have HO4:=Aside0.mk (Kd.R_lower (base':=w.heap.size) ho (below_size HB1.out)));(have HB4:=Aside0.mk (below_step HB1.out hb));clear hg_ hnew_ ho hb HB1))
 obtain ⟨Alv,clv,rfl⟩:=Kd.R_slice HO4.out;have HCV:=Aside0.mk (Kd.R_reads' HO4.out).2.1;have HO5:=Aside0.mk (Kd.R_mono (ok':=fun k => k < w4.heap.size) (Kd.R_bound HO4.out) (fun k hk => hk.2.2.1));clear HO4;simp only [List.length_replicate] at HCV HO5 ⊢;go_wp2
 go_loopw [35] (fun v35 wr => ∃ (x : Int) (lv : List Int),0≤x∧x≤(l0.length : Int)∧v35 = .int .i64 x∧Aside0 (lv.length = l1.length)∧Aside0 ((l0.drop x.toNat).foldl lvStep lv = lvOf l1.length l0)∧Aside0 (Kd.R (Kd.int .i64) 3 wr w.heap.size (fun k => k < w4.heap.size) (.slice Alv l1.length clv) lv)∧Aside0 (Below w.heap.size w wr)∧Aside0 (w4.heap.size≤wr.heap.size)) (fun v35 _ => l0.length - (intOf v35).toNat)
 case atStart => exact ⟨0,List.replicate l1.length 0,by omega,by omega,rfl,⟨by simp⟩,⟨rfl⟩,⟨by first | exact HO5.out | exact Kd.R_drewN HO5.out _⟩,⟨by first | exact HB4.out | exact b1_ HB4.out _⟩,⟨Nat.le_refl _⟩⟩
 case round =>
  clear HO5 HB4;obtain ⟨x,lv,hx0,hx1,rfl,HLn,HLf,HLr,HBr,HSr⟩:=hrel;by_cases hx : x < (l0.length : Int)
  rotate_left
  ·
   obtain rfl : x = (l0.length : Int):=by omega
   have d4 : decide ((l0.length : Int) < (l0.length : Int)) = false:=decide_eq_false (by omega);rw [Int.toNat_natCast,List.drop_length] at HLf;have hlv : lv = lvOf l1.length l0:=HLf.out;subst hlv;have HLl:=HLn;have HLc : Aside0 ((lvOf l1.length l0).length≤clv):=⟨by rw [HLl.out];exact HCV.out⟩
   have HLv : Aside0 (Kd.C (Kd.int .i64) wr Alv (lvOf l1.length l0).length (lvOf l1.length l0)):=⟨(Kd.R_reads' HLr.out).2.2⟩;have HB2:=HBr;clear HLf HLr HBr HSr HCV;generalize wr = w2 at *
   go_upto_region 14 with (first | ((with_reducible refine gate_dst (N:=58) rfl ?_);refine box_event rfl (N:=58) rfl (cs:=#[.slice A0 l0.length c0,.int .i64 a2,.bool a3,.slice none 0 0,.slice none 0 0,.slice none 0 0]) (t:=73) (by first | (go_simp;done) | (go_simp;rfl)) ?_;intro g hg w6 hbox hbl;(have HGw:=Aside0.mk (show w2.heap.size≤g by rw [hg];exact Nat.le_refl _));have HQ:=Aside0.mk hbox;have HBg:=Aside0.mk (show Below w2.heap.size w2 w6 from hbl);clear hg hbox hbl))
   go_wp2
   go_loopw [61] (fun v61 wr => ∃ (x : Int) (v3 v4 v5 : Value) (a b c : List Bool),0≤x∧x≤(l1.length : Int)∧v61 = .int .i64 x∧Aside0 ((a.length : Int) = x∧(b.length : Int) = x∧(c.length : Int) = x)∧Aside0 (askFold k l1 (lvOf l1.length l0) a2 (l1.length - x.toNat) x a b c = some r)∧Aside0 (wr.heap[g]? = some (.cells #[.slice A0 l0.length c0,.int .i64 a2,.bool a3,v3,v4,v5] 73 (0,0)))∧Aside0 (Rows3 wr w2.heap.size g v3 v4 v5 a b c)∧Aside0 (Below w2.heap.size w2 wr)) (fun v61 _ => l1.length - (intOf v61).toNat)
   case atStart => exact ⟨0,.slice none 0 0,.slice none 0 0,.slice none 0 0,[],[],[],by omega,by omega,rfl,⟨rfl,rfl,rfl⟩,HF,HQ,⟨Kd.R_nil _ _ _ _ _,Kd.R_nil _ _ _ _ _,Kd.R_nil _ _ _ _ _⟩,HBg⟩
   case round =>
    clear HQ HBg HF;obtain ⟨x,v3,v4,v5,a,b,c,hx0,hx1,rfl,HLa,HA,HQ,HRr,HBr⟩:=hrel;by_cases hx : x < (l1.length : Int)
    rotate_left
    ·
     obtain rfl : x = (l1.length : Int):=by omega
     have d3 : decide ((l1.length : Int) < (l1.length : Int)) = false:=decide_eq_false (by omega);have hA:=HA.out;rw [Int.toNat_natCast,Nat.sub_self] at hA;simp only [askFold] at hA;obtain rfl:=Option.some.inj hA;clear HA hA;go_wp2;go_ret2;obtain ⟨A3,c3,rfl,hc3,hC3⟩:=Kd.R_reads HRr.out.1;obtain ⟨A4,c4,rfl,hc4,hC4⟩:=Kd.R_reads HRr.out.2.1
     obtain ⟨A5,c5,rfl,hc5,hC5⟩:=Kd.R_reads HRr.out.2.2;exact ⟨⟨g,rfl,A0,l0.length,c0,A3,c3,A4,c4,A5,c5,HQ.out,hC3,hC4,hC5⟩,below_step HB2.out HBr.out⟩
    have d3 : decide (x < (l1.length : Int)) = true:=decide_eq_true hx;have hw : wrap64 (x + 1) = x + 1:=wrx x hx0 (by have:=HN.out;omega);have hA:=HA.out;rw [show l1.length - x.toNat = (l1.length - (x + 1).toNat) + 1 by omega] at hA;simp only [askFold] at hA;obtain ⟨r1,hi,hA⟩:=Option.bind_eq_some_iff.mp hA;obtain ⟨r2,hg2,hA⟩:=Option.bind_eq_some_iff.mp hA
    obtain ⟨r3,hs3,hA⟩:=Option.bind_eq_some_iff.mp hA;have Hi:=Aside0.mk hi;have Hg:=Aside0.mk hg2;have Hs:=Aside0.mk hs3;have HA':=Aside0.mk hA;clear HA hA hi hg2 hs3;go_wp2
    refine start_ (n:=14) (S:=fun w' => w'.cell? ⟨g,3,none⟩ = some v3) (ds:=[10,13]) #[F0,F0,F0,F0,F0,F0,F0,F0,F0,F0,F0,F0,F0,F0] (by kernel_rfl) rfl rfl ((blk_cell (blk_drew HQ.out) 3).trans rfl) (fun hHeld => ?_);refine pure_ (i:=0) (N:=some 64) (v:=?_) (a':=?_) #[T0,F0,F0,F0,F0,F0,F0,F0,F0,F0,F0,F0,F0,F0] rfl rfl (by kernel_rfl) (fun _ _ _ h => h) (Or.inl ⟨by rfl,?_⟩) ?_ ?_
    rotate_left
    · intro w';go_simp;with_reducible rfl
    rotate_left
    · simp only [Act.put,z0_,z1_,z2_,i64_w,i32_w];rfl
    refine pure_ (i:=1) (N:=some 65) (v:=?_) (a':=?_) #[T0,T0,F0,F0,F0,F0,F0,F0,F0,F0,F0,F0,F0,F0] rfl rfl (by kernel_rfl) (fun _ _ _ h => h) (Or.inl ⟨by rfl,?_⟩) ?_ ?_
    rotate_left
    · intro w';go_simp;with_reducible rfl
    rotate_left
    · simp only [Act.put,z0_,z1_,z2_,i64_w,i32_w];rfl
    refine pure_ (i:=2) (N:=some 66) (v:=?_) (a':=?_) #[T0,T0,T0,F0,F0,F0,F0,F0,F0,F0,F0,F0,F0,F0] rfl rfl (by kernel_rfl) (fun _ _ _ h => h) (Or.inl ⟨by rfl,?_⟩) ?_ ?_
    rotate_left
    · intro w';go_simp;with_reducible rfl
    rotate_left
    · simp only [Act.put,z0_,z1_,z2_,i64_w,i32_w];rfl
    refine pure_ (i:=3) (N:=some 67) (v:=?_) (a':=?_) #[T0,T0,T0,T0,F0,F0,F0,F0,F0,F0,F0,F0,F0,F0] rfl rfl (by kernel_rfl) (fun _ _ _ h => h) (Or.inl ⟨by rfl,?_⟩) ?_ ?_
    rotate_left
    · intro w';go_simp;with_reducible rfl
    rotate_left
    · simp only [Act.put,z0_,z1_,z2_,i64_w,i32_w];rfl
    refine pure_ (i:=5) (N:=some 69) (v:=?_) (a':=?_) #[T0,T0,T0,T0,F0,T0,F0,F0,F0,F0,F0,F0,F0,F0] rfl rfl (by kernel_rfl) (fun _ _ _ h => h) (Or.inl ⟨by rfl,?_⟩) ?_ ?_
    rotate_left
    · intro w';go_simp;with_reducible rfl
    rotate_left
    · simp only [Act.put,z0_,z1_,z2_,i64_w,i32_w];rfl
    refine pure_ (i:=6) (N:=some 70) (v:=?_) (a':=?_) #[T0,T0,T0,T0,F0,T0,T0,F0,F0,F0,F0,F0,F0,F0] rfl rfl (by kernel_rfl) (fun _ _ _ h => h) (Or.inl ⟨by rfl,?_⟩) ?_ ?_
    rotate_left
    · intro w';go_simp;with_reducible rfl
    rotate_left
    · simp only [Act.put,z0_,z1_,z2_,i64_w,i32_w];rfl
    refine pure_ (i:=7) (N:=some 71) (v:=?_) (a':=?_) #[T0,T0,T0,T0,F0,T0,T0,T0,F0,F0,F0,F0,F0,F0] rfl rfl (by kernel_rfl) (fun _ _ _ h => h) (Or.inl ⟨by rfl,?_⟩) ?_ ?_
    rotate_left
    · intro w';go_simp;with_reducible rfl
    rotate_left
    · simp only [Act.put,z0_,z1_,z2_,i64_w,i32_w];rfl
    refine take_ (i:=4) (N:=some 68) (v:=?_) (a':=?_) #[T0,T0,T0,T0,T0,T0,T0,T0,F0,F0,F0,F0,F0,F0] rfl rfl (by kernel_rfl) (fun _ _ _ h => h) (Or.inl ⟨by rfl,?_⟩) hHeld ?_ ?_
    rotate_left
    ·
     rintro w' s0
     go_simp;with_reducible rfl
    rotate_left
    · simp only [Act.put,z0_,z1_,z2_,i64_w,i32_w];rfl
    refine one_ (i:=8) (N:=some 72) #[T0,T0,T0,T0,T0,T0,T0,T0,T0,F0,F0,F0,F0,F0] rfl rfl (by kernel_rfl) (by decide) (fun K hK => ?_);refine goes_ Try.func81 (by kernel_rfl) rfl #[.slice A1 l1.length c1,.int .i64 x,.int .i64 a2] (by rfl) rfl rfl (by (try simp only [List.map_toArray,List.map_cons,List.map_nil]);first | done | rfl) ?_
    refine (accounts_Inside.calls k _ _ l1 x a2 r1 _ (Kd.C_drew (Kd.C_below (Kd.C_below HR1.out HB2.out) HBr.out)) HC1.out Hi.out).mono ?_
    rintro e wc ⟨rfl,hbc⟩
    refine ⟨_,rfl,?_⟩;refine hK.out _ _ ((blk_cell (blk_below (blk_drew HQ.out) hbc) 3).trans rfl) (fun hHeld2 => ?_);clear hK K;refine norm_ (a':=?_) ?_ ?_
    rotate_left
    ·
     show Act.put _ (some 72) _ = _
     simp only [Act.put,z0_,z1_,z2_,i64_w,i32_w];rfl
    have HQc:=Aside0.mk (blk_below (blk_drew HQ.out) hbc);have HRc:=Aside0.mk (HRr.out.below (Below.trans (b2_ (Below.refl _ _)) hbc));have HBc:=Aside0.mk (below_step (b2_ HBr.out) hbc);clear hbc HQ HRr HBr hHeld hHeld2;refine one_ (i:=9) (N:=some 73) #[T0,T0,T0,T0,T0,T0,T0,T0,T0,T0,F0,F0,F0,F0] rfl rfl (by kernel_rfl) (by decide) (fun K hK => ?_)
    refine event_step (v:=.slice (some ⟨wc.heap.size,0,none⟩) 1 1) (w1:=wc.alloc (.cells #[.bool r1] 4)) (by rfl) (by first | (go_simp;done) | (go_simp;rfl)) ?_;refine hK.out _ _ ((blk_cell (blk_alloc HQc.out _) 3).trans rfl) (fun hHeld2 => ?_);clear hK K hHeld2;refine norm_ (a':=?_) ?_ ?_
    rotate_left
    ·
     show Act.put _ (some 73) _ = _
     simp only [Act.put,z0_,z1_,z2_,i64_w,i32_w];rfl
    refine last_ (i:=10) (N:=some 74) #[T0,T0,T0,T0,T0,T0,T0,T0,T0,T0,T0,F0,F0,F0] rfl rfl (by kernel_rfl) (by decide) (fun K hK => ?_)
    refine Kd.R_append_step Kd.bool (w0:=w2) w2.heap.size (by rfl) (.tmp 68) (.tmp 73) 38 4 (.bool false) 1 rfl Try.underlying38 qinfo4 rfl (by decide) (by decide) v3 a r1 [.bool r1] _ (fun _ => False) rfl rfl rfl (fun _ hk => hk.elim) (HRc.out.fresh3 (blk_lt HQc.out)) HRc.out.1 HBc.out (below_size HBc.out) (by have:=HLa.out;have:=HN.out;omega) ?_;intro vn wd hR hb hg hat
    obtain ⟨An3,cn3,rfl⟩:=Kd.R_slice hR;simp only [List.length_append,List.length_cons,List.length_nil,Nat.zero_add] at hR hat ⊢;refine hK.out _ _ ?_;clear hK K;refine norm_ (a':=?_) ?_ ?_
    rotate_left
    ·
     show Act.put _ (some 74) _ = _
     simp only [Act.put,z0_,z1_,z2_,i64_w,i32_w];rfl
    have HRd:=Aside0.mk (HRc.out.app3 hg hat hR);have HQd:=Aside0.mk (blk_grown HQc.out hg (Ne.symm (fun e => (HRc.out.1.1 g e).1 rfl)));have HBd:=Aside0.mk hb;clear hR hb hg hat HRc HQc HBc;refine pure_ (i:=11) (N:=some 75) (v:=?_) (a':=?_) #[T0,T0,T0,T0,T0,T0,T0,T0,T0,T0,T0,T0,F0,F0] rfl rfl (by kernel_rfl) (fun _ _ _ h => h) (Or.inl ⟨by rfl,?_⟩) ?_ ?_
    rotate_left
    · intro w';go_simp;with_reducible rfl
    rotate_left
    · simp only [Act.put,z0_,z1_,z2_,i64_w,i32_w];rfl
    refine pure_ (i:=12) (N:=some 76) (v:=?_) (a':=?_) #[T0,T0,T0,T0,T0,T0,T0,T0,T0,T0,T0,T0,T0,F0] rfl rfl (by kernel_rfl) (fun _ _ _ h => h) (Or.inl ⟨by rfl,?_⟩) ?_ ?_
    rotate_left
    · intro w';go_simp;with_reducible rfl
    rotate_left
    · simp only [Act.put,z0_,z1_,z2_,i64_w,i32_w];rfl
    have hcd : wd.cell? ⟨g,3,none⟩ = some v3:=(blk_cell HQd.out 3).trans rfl;have hfd:=blk_frozen HQd.out 3;refine last_ (i:=13) (N:=none) #[T0,T0,T0,T0,T0,T0,T0,T0,T0,T0,T0,T0,T0,T0] rfl rfl (by kernel_rfl) (by decide) (fun K hK => ?_);refine skip_ (w1:=wd.setCell ⟨g,3,none⟩ (.slice An3 (a.length + 1) cn3)) (by rfl) rfl ?_ ?_
    · go_simp
    refine hK.out _ _ ?_;clear hK K;refine done_ (by kernel_rfl) ?_;have HQ:=Aside0.mk (blk_put (cs':=#[.slice A0 l0.length c0,.int .i64 a2,.bool a3,(.slice An3 (a.length + 1) cn3),v4,v5]) HQd.out 3 (.slice An3 (a.length + 1) cn3) rfl);have HRr:=Aside0.mk (HRd.out.put 3 (.slice An3 (a.length + 1) cn3))
    have HBr:=Aside0.mk (below_set (j:=3) (v:=(.slice An3 (a.length + 1) cn3)) HBd.out HGw.out);clear HRd HQd HBd hcd hfd
    try go_wp2
    refine start_ (n:=15) (S:=fun w' => w'.cell? ⟨g,4,none⟩ = some v4) (ds:=[11,14]) #[F0,F0,F0,F0,F0,F0,F0,F0,F0,F0,F0,F0,F0,F0,F0] (by kernel_rfl) rfl rfl ((blk_cell (blk_drew HQ.out) 4).trans rfl) (fun hHeld => ?_);refine pure_ (i:=0) (N:=some 77) (v:=?_) (a':=?_) #[T0,F0,F0,F0,F0,F0,F0,F0,F0,F0,F0,F0,F0,F0,F0] rfl rfl (by kernel_rfl) (fun _ _ _ h => h) (Or.inl ⟨by rfl,?_⟩) ?_ ?_
    rotate_left
    · intro w';go_simp;with_reducible rfl
    rotate_left
    · simp only [Act.put,z0_,z1_,z2_,i64_w,i32_w];rfl
    refine pure_ (i:=1) (N:=some 78) (v:=?_) (a':=?_) #[T0,T0,F0,F0,F0,F0,F0,F0,F0,F0,F0,F0,F0,F0,F0] rfl rfl (by kernel_rfl) (fun _ _ _ h => h) (Or.inl ⟨by rfl,?_⟩) ?_ ?_
    rotate_left
    · intro w';go_simp;with_reducible rfl
    rotate_left
    · simp only [Act.put,z0_,z1_,z2_,i64_w,i32_w];rfl
    refine pure_ (i:=2) (N:=some 79) (v:=?_) (a':=?_) #[T0,T0,T0,F0,F0,F0,F0,F0,F0,F0,F0,F0,F0,F0,F0] rfl rfl (by kernel_rfl) (fun _ _ _ h => h) (Or.inl ⟨by rfl,?_⟩) ?_ ?_
    rotate_left
    · intro w';go_simp;with_reducible rfl
    rotate_left
    · simp only [Act.put,z0_,z1_,z2_,i64_w,i32_w];rfl
    refine pure_ (i:=3) (N:=some 80) (v:=?_) (a':=?_) #[T0,T0,T0,T0,F0,F0,F0,F0,F0,F0,F0,F0,F0,F0,F0] rfl rfl (by kernel_rfl) (fun _ _ _ h => h) (Or.inl ⟨by rfl,?_⟩) ?_ ?_
    rotate_left
    · intro w';go_simp;with_reducible rfl
    rotate_left
    · simp only [Act.put,z0_,z1_,z2_,i64_w,i32_w];rfl
    refine pure_ (i:=5) (N:=some 82) (v:=?_) (a':=?_) #[T0,T0,T0,T0,F0,T0,F0,F0,F0,F0,F0,F0,F0,F0,F0] rfl rfl (by kernel_rfl) (fun _ _ _ h => h) (Or.inl ⟨by rfl,?_⟩) ?_ ?_
    rotate_left
    · intro w';go_simp;with_reducible rfl
    rotate_left
    · simp only [Act.put,z0_,z1_,z2_,i64_w,i32_w];rfl
    refine pure_ (i:=6) (N:=some 83) (v:=?_) (a':=?_) #[T0,T0,T0,T0,F0,T0,T0,F0,F0,F0,F0,F0,F0,F0,F0] rfl rfl (by kernel_rfl) (fun _ _ _ h => h) (Or.inl ⟨by rfl,?_⟩) ?_ ?_
    rotate_left
    · intro w';go_simp;with_reducible rfl
    rotate_left
    · simp only [Act.put,z0_,z1_,z2_,i64_w,i32_w];rfl
    refine pure_ (i:=7) (N:=some 84) (v:=?_) (a':=?_) #[T0,T0,T0,T0,F0,T0,T0,T0,F0,F0,F0,F0,F0,F0,F0] rfl rfl (by kernel_rfl) (fun _ _ _ h => h) (Or.inl ⟨by rfl,?_⟩) ?_ ?_
    rotate_left
    · intro w';go_simp;with_reducible rfl
    rotate_left
    · simp only [Act.put,z0_,z1_,z2_,i64_w,i32_w];rfl
    refine pure_ (i:=8) (N:=some 85) (v:=?_) (a':=?_) #[T0,T0,T0,T0,F0,T0,T0,T0,T0,F0,F0,F0,F0,F0,F0] rfl rfl (by kernel_rfl) (fun _ _ _ h => h) (Or.inl ⟨by rfl,?_⟩) ?_ ?_
    rotate_left
    · intro w';go_simp;with_reducible rfl
    rotate_left
    · simp only [Act.put,z0_,z1_,z2_,i64_w,i32_w];rfl
    refine take_ (i:=4) (N:=some 81) (v:=?_) (a':=?_) #[T0,T0,T0,T0,T0,T0,T0,T0,T0,F0,F0,F0,F0,F0,F0] rfl rfl (by kernel_rfl) (fun _ _ _ h => h) (Or.inl ⟨by rfl,?_⟩) hHeld ?_ ?_
    rotate_left
    ·
     rintro w' s0
     go_simp;with_reducible rfl
    rotate_left
    · simp only [Act.put,z0_,z1_,z2_,i64_w,i32_w];rfl
    refine one_ (i:=9) (N:=some 86) #[T0,T0,T0,T0,T0,T0,T0,T0,T0,T0,F0,F0,F0,F0,F0] rfl rfl (by kernel_rfl) (by decide) (fun K hK => ?_);refine goes_ Try.func74 (by kernel_rfl) rfl #[.slice A1 l1.length c1,.slice Alv l1.length clv,.int .i64 x,.int .i64 a2,.bool false] (by rfl) rfl rfl (by (try simp only [List.map_toArray,List.map_cons,List.map_nil]);first | done | rfl) ?_
    refine calls_of_args (args':=#[.slice A1 l1.length c1,.slice Alv (lvOf l1.length l0).length clv,.int .i64 x,.int .i64 a2,.bool false]) (by rw [HLl.out]) ?_;refine (protection_Guarded.calls k _ _ l1 _ _ (lvOf l1.length l0) x a2 false r2 _ (Kd.C_drew (Kd.C_below (Kd.C_below HR1.out HB2.out) HBr.out)) HC1.out (Kd.C_drew (Kd.C_below HLv.out HBr.out)) HLc.out Hg.out).mono ?_
    rintro e wc ⟨rfl,hbc⟩
    refine ⟨_,rfl,?_⟩;refine hK.out _ _ ((blk_cell (blk_below (blk_drew HQ.out) hbc) 4).trans rfl) (fun hHeld2 => ?_);clear hK K;refine norm_ (a':=?_) ?_ ?_
    rotate_left
    ·
     show Act.put _ (some 86) _ = _
     simp only [Act.put,z0_,z1_,z2_,i64_w,i32_w];rfl
    have HQc:=Aside0.mk (blk_below (blk_drew HQ.out) hbc);have HRc:=Aside0.mk (HRr.out.below (Below.trans (b2_ (Below.refl _ _)) hbc));have HBc:=Aside0.mk (below_step (b2_ HBr.out) hbc);clear hbc HQ HRr HBr hHeld hHeld2;refine one_ (i:=10) (N:=some 87) #[T0,T0,T0,T0,T0,T0,T0,T0,T0,T0,T0,F0,F0,F0,F0] rfl rfl (by kernel_rfl) (by decide) (fun K hK => ?_)
    refine event_step (v:=.slice (some ⟨wc.heap.size,0,none⟩) 1 1) (w1:=wc.alloc (.cells #[.bool r2] 4)) (by rfl) (by first | (go_simp;done) | (go_simp;rfl)) ?_;refine hK.out _ _ ((blk_cell (blk_alloc HQc.out _) 4).trans rfl) (fun hHeld2 => ?_);clear hK K hHeld2;refine norm_ (a':=?_) ?_ ?_
    rotate_left
    ·
     show Act.put _ (some 87) _ = _
     simp only [Act.put,z0_,z1_,z2_,i64_w,i32_w];rfl
    refine last_ (i:=11) (N:=some 88) #[T0,T0,T0,T0,T0,T0,T0,T0,T0,T0,T0,T0,F0,F0,F0] rfl rfl (by kernel_rfl) (by decide) (fun K hK => ?_)
    refine Kd.R_append_step Kd.bool (w0:=w2) w2.heap.size (by rfl) (.tmp 81) (.tmp 87) 38 4 (.bool false) 1 rfl Try.underlying38 qinfo4 rfl (by decide) (by decide) v4 b r2 [.bool r2] _ (fun _ => False) rfl rfl rfl (fun _ hk => hk.elim) (HRc.out.fresh4 (blk_lt HQc.out)) HRc.out.2.1 HBc.out (below_size HBc.out) (by have:=HLa.out;have:=HN.out;omega) ?_;intro vn wd hR hb hg hat
    obtain ⟨An4,cn4,rfl⟩:=Kd.R_slice hR;simp only [List.length_append,List.length_cons,List.length_nil,Nat.zero_add] at hR hat ⊢;refine hK.out _ _ ?_;clear hK K;refine norm_ (a':=?_) ?_ ?_
    rotate_left
    ·
     show Act.put _ (some 88) _ = _
     simp only [Act.put,z0_,z1_,z2_,i64_w,i32_w];rfl
    have HRd:=Aside0.mk (HRc.out.app4 hg hat hR);have HQd:=Aside0.mk (blk_grown HQc.out hg (Ne.symm (fun e => (HRc.out.2.1.1 g e).1 rfl)));have HBd:=Aside0.mk hb;clear hR hb hg hat HRc HQc HBc;refine pure_ (i:=12) (N:=some 89) (v:=?_) (a':=?_) #[T0,T0,T0,T0,T0,T0,T0,T0,T0,T0,T0,T0,T0,F0,F0] rfl rfl (by kernel_rfl) (fun _ _ _ h => h) (Or.inl ⟨by rfl,?_⟩) ?_ ?_
    rotate_left
    · intro w';go_simp;with_reducible rfl
    rotate_left
    · simp only [Act.put,z0_,z1_,z2_,i64_w,i32_w];rfl
    refine pure_ (i:=13) (N:=some 90) (v:=?_) (a':=?_) #[T0,T0,T0,T0,T0,T0,T0,T0,T0,T0,T0,T0,T0,T0,F0] rfl rfl (by kernel_rfl) (fun _ _ _ h => h) (Or.inl ⟨by rfl,?_⟩) ?_ ?_
    rotate_left
    · intro w';go_simp;with_reducible rfl
    rotate_left
    · simp only [Act.put,z0_,z1_,z2_,i64_w,i32_w];rfl
    have hcd : wd.cell? ⟨g,4,none⟩ = some v4:=(blk_cell HQd.out 4).trans rfl;have hfd:=blk_frozen HQd.out 4;refine last_ (i:=14) (N:=none) #[T0,T0,T0,T0,T0,T0,T0,T0,T0,T0,T0,T0,T0,T0,T0] rfl rfl (by kernel_rfl) (by decide) (fun K hK => ?_);refine skip_ (w1:=wd.setCell ⟨g,4,none⟩ (.slice An4 (b.length + 1) cn4)) (by rfl) rfl ?_ ?_
    · go_simp
    refine hK.out _ _ ?_;clear hK K;refine done_ (by kernel_rfl) ?_;have HQ:=Aside0.mk (blk_put (cs':=#[.slice A0 l0.length c0,.int .i64 a2,.bool a3,(.slice An3 (a.length + 1) cn3),(.slice An4 (b.length + 1) cn4),v5]) HQd.out 4 (.slice An4 (b.length + 1) cn4) rfl);have HRr:=Aside0.mk (HRd.out.put 4 (.slice An4 (b.length + 1) cn4))
    have HBr:=Aside0.mk (below_set (j:=4) (v:=(.slice An4 (b.length + 1) cn4)) HBd.out HGw.out);clear HRd HQd HBd hcd hfd
    try go_wp2
    refine start_ (n:=15) (S:=fun w' => w'.cell? ⟨g,5,none⟩ = some v5) (ds:=[11,14]) #[F0,F0,F0,F0,F0,F0,F0,F0,F0,F0,F0,F0,F0,F0,F0] (by kernel_rfl) rfl rfl ((blk_cell (blk_drew HQ.out) 5).trans rfl) (fun hHeld => ?_);refine pure_ (i:=0) (N:=some 91) (v:=?_) (a':=?_) #[T0,F0,F0,F0,F0,F0,F0,F0,F0,F0,F0,F0,F0,F0,F0] rfl rfl (by kernel_rfl) (fun _ _ _ h => h) (Or.inl ⟨by rfl,?_⟩) ?_ ?_
    rotate_left
    · intro w';go_simp;with_reducible rfl
    rotate_left
    · simp only [Act.put,z0_,z1_,z2_,i64_w,i32_w];rfl
    refine pure_ (i:=1) (N:=some 92) (v:=?_) (a':=?_) #[T0,T0,F0,F0,F0,F0,F0,F0,F0,F0,F0,F0,F0,F0,F0] rfl rfl (by kernel_rfl) (fun _ _ _ h => h) (Or.inl ⟨by rfl,?_⟩) ?_ ?_
    rotate_left
    · intro w';go_simp;with_reducible rfl
    rotate_left
    · simp only [Act.put,z0_,z1_,z2_,i64_w,i32_w];rfl
    refine pure_ (i:=2) (N:=some 93) (v:=?_) (a':=?_) #[T0,T0,T0,F0,F0,F0,F0,F0,F0,F0,F0,F0,F0,F0,F0] rfl rfl (by kernel_rfl) (fun _ _ _ h => h) (Or.inl ⟨by rfl,?_⟩) ?_ ?_
    rotate_left
    · intro w';go_simp;with_reducible rfl
    rotate_left
    · simp only [Act.put,z0_,z1_,z2_,i64_w,i32_w];rfl
    refine pure_ (i:=3) (N:=some 94) (v:=?_) (a':=?_) #[T0,T0,T0,T0,F0,F0,F0,F0,F0,F0,F0,F0,F0,F0,F0] rfl rfl (by kernel_rfl) (fun _ _ _ h => h) (Or.inl ⟨by rfl,?_⟩) ?_ ?_
    rotate_left
    · intro w';go_simp;with_reducible rfl
    rotate_left
    · simp only [Act.put,z0_,z1_,z2_,i64_w,i32_w];rfl
    refine pure_ (i:=5) (N:=some 96) (v:=?_) (a':=?_) #[T0,T0,T0,T0,F0,T0,F0,F0,F0,F0,F0,F0,F0,F0,F0] rfl rfl (by kernel_rfl) (fun _ _ _ h => h) (Or.inl ⟨by rfl,?_⟩) ?_ ?_
    rotate_left
    · intro w';go_simp;with_reducible rfl
    rotate_left
    · simp only [Act.put,z0_,z1_,z2_,i64_w,i32_w];rfl
    refine pure_ (i:=6) (N:=some 97) (v:=?_) (a':=?_) #[T0,T0,T0,T0,F0,T0,T0,F0,F0,F0,F0,F0,F0,F0,F0] rfl rfl (by kernel_rfl) (fun _ _ _ h => h) (Or.inl ⟨by rfl,?_⟩) ?_ ?_
    rotate_left
    · intro w';go_simp;with_reducible rfl
    rotate_left
    · simp only [Act.put,z0_,z1_,z2_,i64_w,i32_w];rfl
    refine pure_ (i:=7) (N:=some 98) (v:=?_) (a':=?_) #[T0,T0,T0,T0,F0,T0,T0,T0,F0,F0,F0,F0,F0,F0,F0] rfl rfl (by kernel_rfl) (fun _ _ _ h => h) (Or.inl ⟨by rfl,?_⟩) ?_ ?_
    rotate_left
    · intro w';go_simp;with_reducible rfl
    rotate_left
    · simp only [Act.put,z0_,z1_,z2_,i64_w,i32_w];rfl
    refine pure_ (i:=8) (N:=some 99) (v:=?_) (a':=?_) #[T0,T0,T0,T0,F0,T0,T0,T0,T0,F0,F0,F0,F0,F0,F0] rfl rfl (by kernel_rfl) (fun _ _ _ h => h) (Or.inl ⟨by rfl,?_⟩) ?_ ?_
    rotate_left
    · intro w';go_simp;with_reducible rfl
    rotate_left
    · simp only [Act.put,z0_,z1_,z2_,i64_w,i32_w];rfl
    refine take_ (i:=4) (N:=some 95) (v:=?_) (a':=?_) #[T0,T0,T0,T0,T0,T0,T0,T0,T0,F0,F0,F0,F0,F0,F0] rfl rfl (by kernel_rfl) (fun _ _ _ h => h) (Or.inl ⟨by rfl,?_⟩) hHeld ?_ ?_
    rotate_left
    ·
     rintro w' s0
     go_simp;with_reducible rfl
    rotate_left
    · simp only [Act.put,z0_,z1_,z2_,i64_w,i32_w];rfl
    refine one_ (i:=9) (N:=some 100) #[T0,T0,T0,T0,T0,T0,T0,T0,T0,T0,F0,F0,F0,F0,F0] rfl rfl (by kernel_rfl) (by decide) (fun K hK => ?_);refine goes_ Try.func74 (by kernel_rfl) rfl #[.slice A1 l1.length c1,.slice Alv l1.length clv,.int .i64 x,.int .i64 a2,.bool true] (by rfl) rfl rfl (by (try simp only [List.map_toArray,List.map_cons,List.map_nil]);first | done | rfl) ?_
    refine calls_of_args (args':=#[.slice A1 l1.length c1,.slice Alv (lvOf l1.length l0).length clv,.int .i64 x,.int .i64 a2,.bool true]) (by rw [HLl.out]) ?_;refine (protection_Guarded.calls k _ _ l1 _ _ (lvOf l1.length l0) x a2 true r3 _ (Kd.C_drew (Kd.C_below (Kd.C_below HR1.out HB2.out) HBr.out)) HC1.out (Kd.C_drew (Kd.C_below HLv.out HBr.out)) HLc.out Hs.out).mono ?_
    rintro e wc ⟨rfl,hbc⟩
    refine ⟨_,rfl,?_⟩;refine hK.out _ _ ((blk_cell (blk_below (blk_drew HQ.out) hbc) 5).trans rfl) (fun hHeld2 => ?_);clear hK K;refine norm_ (a':=?_) ?_ ?_
    rotate_left
    ·
     show Act.put _ (some 100) _ = _
     simp only [Act.put,z0_,z1_,z2_,i64_w,i32_w];rfl
    have HQc:=Aside0.mk (blk_below (blk_drew HQ.out) hbc);have HRc:=Aside0.mk (HRr.out.below (Below.trans (b2_ (Below.refl _ _)) hbc));have HBc:=Aside0.mk (below_step (b2_ HBr.out) hbc);clear hbc HQ HRr HBr hHeld hHeld2;refine one_ (i:=10) (N:=some 101) #[T0,T0,T0,T0,T0,T0,T0,T0,T0,T0,T0,F0,F0,F0,F0] rfl rfl (by kernel_rfl) (by decide) (fun K hK => ?_)
    refine event_step (v:=.slice (some ⟨wc.heap.size,0,none⟩) 1 1) (w1:=wc.alloc (.cells #[.bool r3] 4)) (by rfl) (by first | (go_simp;done) | (go_simp;rfl)) ?_;refine hK.out _ _ ((blk_cell (blk_alloc HQc.out _) 5).trans rfl) (fun hHeld2 => ?_);clear hK K hHeld2;refine norm_ (a':=?_) ?_ ?_
    rotate_left
    ·
     show Act.put _ (some 101) _ = _
     simp only [Act.put,z0_,z1_,z2_,i64_w,i32_w];rfl
    refine last_ (i:=11) (N:=some 102) #[T0,T0,T0,T0,T0,T0,T0,T0,T0,T0,T0,T0,F0,F0,F0] rfl rfl (by kernel_rfl) (by decide) (fun K hK => ?_)
    refine Kd.R_append_step Kd.bool (w0:=w2) w2.heap.size (by rfl) (.tmp 95) (.tmp 101) 38 4 (.bool false) 1 rfl Try.underlying38 qinfo4 rfl (by decide) (by decide) v5 c r3 [.bool r3] _ (fun _ => False) rfl rfl rfl (fun _ hk => hk.elim) (HRc.out.fresh5 (blk_lt HQc.out)) HRc.out.2.2 HBc.out (below_size HBc.out) (by have:=HLa.out;have:=HN.out;omega) ?_;intro vn wd hR hb hg hat
    obtain ⟨An5,cn5,rfl⟩:=Kd.R_slice hR;simp only [List.length_append,List.length_cons,List.length_nil,Nat.zero_add] at hR hat ⊢;refine hK.out _ _ ?_;clear hK K;refine norm_ (a':=?_) ?_ ?_
    rotate_left
    ·
     show Act.put _ (some 102) _ = _
     simp only [Act.put,z0_,z1_,z2_,i64_w,i32_w];rfl
    have HRd:=Aside0.mk (HRc.out.app5 hg hat hR);have HQd:=Aside0.mk (blk_grown HQc.out hg (Ne.symm (fun e => (HRc.out.2.2.1 g e).1 rfl)));have HBd:=Aside0.mk hb;clear hR hb hg hat HRc HQc HBc;refine pure_ (i:=12) (N:=some 103) (v:=?_) (a':=?_) #[T0,T0,T0,T0,T0,T0,T0,T0,T0,T0,T0,T0,T0,F0,F0] rfl rfl (by kernel_rfl) (fun _ _ _ h => h) (Or.inl ⟨by rfl,?_⟩) ?_ ?_
    rotate_left
    · intro w';go_simp;with_reducible rfl
    rotate_left
    · simp only [Act.put,z0_,z1_,z2_,i64_w,i32_w];rfl
    refine pure_ (i:=13) (N:=some 104) (v:=?_) (a':=?_) #[T0,T0,T0,T0,T0,T0,T0,T0,T0,T0,T0,T0,T0,T0,F0] rfl rfl (by kernel_rfl) (fun _ _ _ h => h) (Or.inl ⟨by rfl,?_⟩) ?_ ?_
    rotate_left
    · intro w';go_simp;with_reducible rfl
    rotate_left
    · simp only [Act.put,z0_,z1_,z2_,i64_w,i32_w];rfl
    have hcd : wd.cell? ⟨g,5,none⟩ = some v5:=(blk_cell HQd.out 5).trans rfl;have hfd:=blk_frozen HQd.out 5;refine last_ (i:=14) (N:=none) #[T0,T0,T0,T0,T0,T0,T0,T0,T0,T0,T0,T0,T0,T0,T0] rfl rfl (by kernel_rfl) (by decide) (fun K hK => ?_);refine skip_ (w1:=wd.setCell ⟨g,5,none⟩ (.slice An5 (c.length + 1) cn5)) (by rfl) rfl ?_ ?_
    · go_simp
    refine hK.out _ _ ?_;clear hK K;refine done_ (by kernel_rfl) ?_;have HQ:=Aside0.mk (blk_put (cs':=#[.slice A0 l0.length c0,.int .i64 a2,.bool a3,(.slice An3 (a.length + 1) cn3),(.slice An4 (b.length + 1) cn4),(.slice An5 (c.length + 1) cn5)]) HQd.out 5 (.slice An5 (c.length + 1) cn5) rfl);have HRr:=Aside0.mk (HRd.out.put 5 (.slice An5 (c.length + 1) cn5))
    have HBr:=Aside0.mk (below_set (j:=5) (v:=(.slice An5 (c.length + 1) cn5)) HBd.out HGw.out);clear HRd HQd HBd hcd hfd
    try go_wp2
    go_roundw
    case rel => exact ⟨x + 1,_,_,_,a ++ [r1],b ++ [r2],c ++ [r3],by omega,by omega,by rw [hw],⟨by have:=HLa.out;simp;omega⟩,HA',HQ,HRr,HBr⟩
    case measure => simp [intOf,hw];omega
  obtain ⟨ad,e0,hx0_,hx1_,hx2_,hx3_,hx4_,hx5_,hx6_⟩:=at_T34 (Kd.C_below HR0.out HBr.out) x hx0 hx;cases e0;have d3 : decide (0≤x) = true:=decide_eq_true hx0;have hw : wrap64 (x + 1) = x + 1:=wrx x hx0 (by have:=HM.out;omega);have d4 : decide (x < (l0.length : Int)) = true:=decide_eq_true hx
  go_upto_region 10 with (first | ((with_reducible refine gate_dst (N:=13) rfl ?_);refine box_event rfl (N:=13) rfl (cs:=#[.int .i64 0,.int .i64 0,.int .i64 0,.int .i64 0,.int .i64 0,.bool false,.bool false]) (t:=34) (by first | (go_simp;done) | (go_simp;rfl)) ?_;intro b hg w5 hbox hbl;(have HG5:=Aside0.mk (show w4.heap.size≤b by have:=HSr.out;rw [hg];exact this));have HW5:=Aside0.mk (show w.heap.size≤b by rw [hg];exact below_size HBr.out);have HB5:=Aside0.mk (below_step HBr.out hbl);have HL5:=Aside0.mk (Kd.R_below HLr.out hbl);have HBX:=Aside0.mk hbox;have HS5:=Aside0.mk (show w4.heap.size≤w5.heap.size from Nat.le_trans HSr.out (below_size hbl));have hcz0 : w5.cell? ⟨b,0,none⟩ = some (.int .i64 0):=(blk_cell HBX.out 0).trans rfl;have hfz0:=blk_frozen HBX.out 0;have hcz1 : w5.cell? ⟨b,1,none⟩ = some (.int .i64 0):=(blk_cell HBX.out 1).trans rfl;have hfz1:=blk_frozen HBX.out 1;have hcz2 : w5.cell? ⟨b,2,none⟩ = some (.int .i64 0):=(blk_cell HBX.out 2).trans rfl;have hfz2:=blk_frozen HBX.out 2;have hcz3 : w5.cell? ⟨b,3,none⟩ = some (.int .i64 0):=(blk_cell HBX.out 3).trans rfl;have hfz3:=blk_frozen HBX.out 3;have hcz4 : w5.cell? ⟨b,4,none⟩ = some (.int .i64 0):=(blk_cell HBX.out 4).trans rfl;have hfz4:=blk_frozen HBX.out 4;have hcz5 : w5.cell? ⟨b,5,none⟩ = some (.bool false):=(blk_cell HBX.out 5).trans rfl;have hfz5:=blk_frozen HBX.out 5;have hcz6 : w5.cell? ⟨b,6,none⟩ = some (.bool false):=(blk_cell HBX.out 6).trans rfl;have hfz6:=blk_frozen HBX.out 6;clear hg hbl hbox HBr HLr HSr))
  refine wp_gen (fun wc hwc => ?_)
  have HXc : Aside0 (wc.heap[b]? = some (.cells #[.int .i64 (rd_T34 l0 x).f0,.int .i64 (rd_T34 l0 x).f1,.int .i64 (rd_T34 l0 x).f2,.int .i64 (rd_T34 l0 x).f3,.int .i64 (rd_T34 l0 x).f4,.bool (rd_T34 l0 x).f5,.bool (rd_T34 l0 x).f6] 34 (0,0))):=⟨by rw [hwc];exact blk_put (cs':=#[.int .i64 (rd_T34 l0 x).f0,.int .i64 (rd_T34 l0 x).f1,.int .i64 (rd_T34 l0 x).f2,.int .i64 (rd_T34 l0 x).f3,.int .i64 (rd_T34 l0 x).f4,.bool (rd_T34 l0 x).f5,.bool (rd_T34 l0 x).f6]) (blk_put (cs':=#[.int .i64 (rd_T34 l0 x).f0,.int .i64 (rd_T34 l0 x).f1,.int .i64 (rd_T34 l0 x).f2,.int .i64 (rd_T34 l0 x).f3,.int .i64 (rd_T34 l0 x).f4,.bool (rd_T34 l0 x).f5,.bool false]) (blk_put (cs':=#[.int .i64 (rd_T34 l0 x).f0,.int .i64 (rd_T34 l0 x).f1,.int .i64 (rd_T34 l0 x).f2,.int .i64 (rd_T34 l0 x).f3,.int .i64 (rd_T34 l0 x).f4,.bool false,.bool false]) (blk_put (cs':=#[.int .i64 (rd_T34 l0 x).f0,.int .i64 (rd_T34 l0 x).f1,.int .i64 (rd_T34 l0 x).f2,.int .i64 (rd_T34 l0 x).f3,.int .i64 0,.bool false,.bool false]) (blk_put (cs':=#[.int .i64 (rd_T34 l0 x).f0,.int .i64 (rd_T34 l0 x).f1,.int .i64 (rd_T34 l0 x).f2,.int .i64 0,.int .i64 0,.bool false,.bool false]) (blk_put (cs':=#[.int .i64 (rd_T34 l0 x).f0,.int .i64 (rd_T34 l0 x).f1,.int .i64 0,.int .i64 0,.int .i64 0,.bool false,.bool false]) (blk_put (cs':=#[.int .i64 (rd_T34 l0 x).f0,.int .i64 0,.int .i64 0,.int .i64 0,.int .i64 0,.bool false,.bool false]) (HBX.out) 0 _ rfl) 1 _ rfl) 2 _ rfl) 3 _ rfl) 4 _ rfl) 5 _ rfl) 6 _ rfl⟩
  have HBc : Aside0 (Below w.heap.size w wc):=⟨by rw [hwc];with_reducible (repeat (first | exact HB5.out | refine below_set ?_ HW5.out))⟩
  have HLc : Aside0 (Kd.R (Kd.int .i64) 3 wc w.heap.size (fun k => k < w4.heap.size) (.slice Alv l1.length clv) lv):=⟨by rw [hwc];have hne : ∀ k,k < w4.heap.size→k≠b:=(fun k hk => by have:=HG5.out;omega);with_reducible (repeat (first | exact HL5.out | refine Kd.R_far ?_ hne _))⟩;have HSc : Aside0 (w4.heap.size≤wc.heap.size):=⟨by rw [hwc];simp only [size_put];exact HS5.out⟩
  clear hwc HB5 HL5 HS5 HBX hcz0 hcz1 hcz2 hcz3 hcz4 hcz5 hcz6 hfz0 hfz1 hfz2 hfz3 hfz4 hfz5 hfz6 hx0_ hx1_ hx2_ hx3_ hx4_ hx5_ hx6_;have hz1 : wc.cell? ⟨b,1,none⟩ = some (.int .i64 (rd_T34 l0 x).f1):=(blk_cell HXc.out 1).trans rfl;have hz6 : wc.cell? ⟨b,6,none⟩ = some (.bool (rd_T34 l0 x).f6):=(blk_cell HXc.out 6).trans rfl
  have HE : (l0.drop (x + 1).toNat).foldl lvStep (lvStep lv (rd_T34 l0 x)) = lvOf l1.length l0:=by
   rw [← HLf.out,drop_rd34 l0 x hx0 hx];rfl
  have HP1:=HP.out _ (rd34_mem l0 x hx0 hx);by_cases c6 : (rd_T34 l0 x).f6 = true
  rotate_left
  ·
   rw [Bool.eq_false_iff.mpr c6] at hz6
   have hE2 : lvStep lv (rd_T34 l0 x) = lv:=by unfold lvStep;rw [if_neg (fun h => c6 h.1)]
   rw [hE2] at HE;have HE':=Aside0.mk HE;clear HE hE2;go_wp2
   go_roundw
   case rel => exact ⟨x + 1,lv,by omega,by omega,by rw [hw],HLn,HE',HLc,HBc,HSc⟩
   case measure => simp [intOf,hw];omega
  rw [c6] at hz6;by_cases c1 : 0≤(rd_T34 l0 x).f1
  rotate_left
  ·
   have d5 : decide (0≤(rd_T34 l0 x).f1) = false:=decide_eq_false c1
   have hE2 : lvStep lv (rd_T34 l0 x) = lv:=by unfold lvStep;rw [if_neg (fun h => c1 h.2)]
   rw [hE2] at HE;have HE':=Aside0.mk HE;clear HE hE2;go_wp2
   go_roundw
   case rel => exact ⟨x + 1,lv,by omega,by omega,by rw [hw],HLn,HE',HLc,HBc,HSc⟩
   case measure => simp [intOf,hw];omega
  have d5 : decide (0≤(rd_T34 l0 x).f1) = true:=decide_eq_true c1;have d6 : decide ((rd_T34 l0 x).f1 < (l1.length : Int)) = true:=decide_eq_true HP1
  have hE2 : lvStep lv (rd_T34 l0 x) = lv.set (rd_T34 l0 x).f1.toNat (wrap64 (rd lv (rd_T34 l0 x).f1 + 1)):=by unfold lvStep;rw [if_pos ⟨c6,c1⟩]
  rw [hE2] at HE;have HE':=Aside0.mk HE;clear HE hE2;obtain ⟨go,co,eo,gb,gl,cl,hgl⟩:=Kd.R_form HLc.out (by have:=HLn.out;omega)
  injection eo with e1 e2 e3
  subst e1;clear e2 e3 cl hgl gl;obtain ⟨hlv,hlf⟩:=Kd.R_celln 0 HLc.out (rd_T34 l0 x).f1 c1 HP1;replace hlv : wc.cell? ⟨go,(rd_T34 l0 x).f1.toNat,none⟩ = some (.int .i64 (rd lv (rd_T34 l0 x).f1)):=hlv;have HGO:=Aside0.mk gb;clear gb;go_wp2
  go_roundw
  case rel => exact ⟨x + 1,lv.set (rd_T34 l0 x).f1.toNat (wrap64 (rd lv (rd_T34 l0 x).f1 + 1)),by omega,by omega,by rw [hw],⟨by rw [List.length_set];exact HLn.out⟩,HE',⟨Kd.R_putn HLc.out (rd_T34 l0 x).f1 _⟩,⟨below_set HBc.out HGO.out⟩,⟨by simp only [size_put];exact HSc.out⟩⟩
  case measure => simp [intOf,hw];omega
theorem ask_zero {k : Nat} {l0 : List S34} {l1 : List S30} {a2 : Int} {a b c : List Bool} (h : reclaimplan_ask.f k l0 l1 a2 = some (0,a,b,c)) :
 reclaimplan_Check.f k l0 l1 = some 0∧¬ (a2 < -1∨(l1.length : Int)≤a2)∧askOk l0 l1 = true∧askFold k l1 (lvOf l1.length l0) a2 l1.length 0 [] [] [] = some (a,b,c):=by
 unfold reclaimplan_ask.f at h
 obtain ⟨e,he,h⟩:=Option.bind_eq_some_iff.mp h;by_cases c1 : e = 0
 rotate_left
 · rw [if_neg c1] at h;cases h;exact absurd rfl c1
 subst c1;rw [if_pos rfl] at h;by_cases c2 : a2 < -1∨(l1.length : Int)≤a2
 rotate_left
 ·
  rw [if_neg c2] at h;by_cases c3 : askOk l0 l1 = true
  rotate_left
  · rw [if_neg c3] at h;cases h
  rw [if_pos c3] at h;obtain ⟨q,hq,h⟩:=Option.bind_eq_some_iff.mp h;cases h;exact ⟨he,c2,c3,hq⟩
 rw [if_pos c2] at h;cases h
theorem ask_ok_facts {l0 : List S34} {l1 : List S30} (h : askOk l0 l1 = true) : l1.length < 1000000∧l0.length < 1000000∧∀ p ∈ l0,p.f1 < (l1.length : Int):=by
 simp only [askOk,Bool.and_eq_true,decide_eq_true_eq,List.all_eq_true] at h;exact ⟨h.1.1,h.1.2,h.2⟩
theorem ask_lengths {k : Nat} {l0 : List S34} {l1 : List S30} {a2 : Int} {a b c : List Bool} (h : reclaimplan_ask.f k l0 l1 a2 = some (0,a,b,c)) :
 a.length = l1.length∧b.length = l1.length∧c.length = l1.length∧l1.length < 1000000∧l0.length < 1000000∧∀ p ∈ l0,p.f1 < (l1.length : Int):=by
 obtain ⟨_,_,h3,h4⟩:=ask_zero h;obtain ⟨e1,e2,e3⟩:=askFold_length _ _ _ _ _ _ _ _ _ _ h4;obtain ⟨f1,f2,f3⟩:=ask_ok_facts h3;exact ⟨by simpa using e1,by simpa using e2,by simpa using e3,f1,f2,f3⟩
theorem ask0.calls (k : Nat) (A0 : Option Addr) (c0 : Nat) (l0 : List (S34)) (A1 : Option Addr) (c1 : Nat) (l1 : List (S30)) (a2 : Int) (a3 : Bool) (a b c : List Bool) (w : World) (hr0 : Kd.C k34 w A0 l0.length l0) (hc0 : l0.length≤c0) (hr1 : Kd.C k30 w A1 l1.length l1) (hc1 : l1.length≤c1) (h : reclaimplan_ask.f k l0 l1 a2 = some (0,a,b,c)) :
 Calls Try.prog 50 #[.slice A0 l0.length c0,.slice A1 l1.length c1,.int .i64 a2,.bool a3] w fun e w' => (∃ g,e = .returned (.tuple #[.pointer (some ⟨g,0,none⟩),.int .i64 0])∧IsQ w' g a2 a3 a b c)∧Below w.heap.size w w' :=
 ask_ok.calls k A0 c0 l0 A1 c1 l1 a2 a3 (a,b,c) w hr0 hc0 hr1 hc1 (ask_zero h).1 (ask_zero h).2.1 (ask_zero h).2.2.1 (ask_zero h).2.2.2
theorem ask1.calls (k : Nat) (A0 : Option Addr) (c0 : Nat) (l0 : List (S34)) (A1 : Option Addr) (c1 : Nat) (l1 : List (S30)) (a2 : Int) (a3 : Bool) (r : Int) (q : List Bool × List Bool × List Bool) (w : World) (hr0 : Kd.C k34 w A0 l0.length l0) (hc0 : l0.length≤c0) (hr1 : Kd.C k30 w A1 l1.length l1) (hc1 : l1.length≤c1) (h : reclaimplan_ask.f k l0 l1 a2 = some (r,q)) (hr : ¬ r = 0) :
 Calls Try.prog 50 #[.slice A0 l0.length c0,.slice A1 l1.length c1,.int .i64 a2,.bool a3] w fun e w' => e = .returned (.tuple #[.pointer none,.int .i64 r])∧Below w.heap.size w w':=by
 unfold reclaimplan_ask.f at h
 obtain ⟨e,he,h⟩:=Option.bind_eq_some_iff.mp h;by_cases c1' : e = 0
 rotate_left
 · rw [if_neg c1'] at h;cases h;exact ask_err.calls k A0 c0 l0 A1 c1 l1 a2 a3 _ w hr0 hc0 hr1 hc1 he hr
 subst c1';rw [if_pos rfl] at h;by_cases c2 : a2 < -1∨(l1.length : Int)≤a2
 rotate_left
 ·
  rw [if_neg c2] at h;by_cases c3 : askOk l0 l1 = true
  rotate_left
  · rw [if_neg c3] at h;cases h
  rw [if_pos c3] at h;obtain ⟨q',hq,h⟩:=Option.bind_eq_some_iff.mp h;cases h;exact absurd rfl hr
 rw [if_pos c2] at h;cases h;exact ask_scope.calls k A0 c0 l0 A1 c1 l1 a2 a3 w hr0 hc0 hr1 hc1 he c2
def reclaimplan_Reason.f (k : Nat) (l0 : List (S34)) (l1 : List (S30)) (a2 : Int) (a3 : Int) (a4 : Bool) : Option (Int) :=
 (reclaimplan_ask.f k l0 l1 a2).bind fun q => if q.1 = 0 then (if a3 < 0 then some (-1) else if (l0.length : Int)≤a3 then some (-1) else some (qReason a2 a4 q.2.1 q.2.2.1 (rd_T34 l0 a3))) else some (-1)
theorem reclaimplan_Reason.mono : ∀ a0 a1 a2 a3 a4 k,LeO (reclaimplan_Reason.f k a0 a1 a2 a3 a4) (reclaimplan_Reason.f (k + 1) a0 a1 a2 a3 a4):=fun a0 a1 a2 a3 a4 k => LeO.bind (reclaimplan_ask.mono _ _ _ _) (fun _ => LeO.refl _)
set_option maxRecDepth 100000 in
set_option maxHeartbeats 4000000 in
theorem reclaimplan_Reason.calls (k : Nat) (A0 : Option Addr) (c0 : Nat) (l0 : List (S34)) (A1 : Option Addr) (c1 : Nat) (l1 : List (S30)) (a2 : Int) (a3 : Int) (a4 : Bool) (r : Int) (w : World) (hr0 : Kd.C k34 w A0 l0.length l0) (hc0 : l0.length≤c0) (hr1 : Kd.C k30 w A1 l1.length l1) (hc1 : l1.length≤c1) (h : reclaimplan_Reason.f k l0 l1 a2 a3 a4 = some r) :
 Calls Try.prog 33 #[.slice A0 l0.length c0,.slice A1 l1.length c1,.int .i64 a2,.int .i64 a3,.bool a4] w fun e w' => e = .returned (.int .i64 r)∧Below w.heap.size w w':=by
 unfold reclaimplan_Reason.f at h
 obtain ⟨⟨q0,qa,qb,qc⟩,hA,h⟩:=Option.bind_eq_some_iff.mp h;have HA:=Aside0.mk hA;clear hA;have hu34:=Try.underlying34;have HR0:=Aside0.mk hr0;have HC0:=Aside0.mk hc0;have HR1:=Aside0.mk hr1;have HC1:=Aside0.mk hc1;clear hr0 hc0 hr1 hc1;have HB:=Aside0.mk (Below.refl w.heap.size w)
 dsimp only at h
 by_cases cq : q0 = 0
 rotate_left
 ·
  rw [if_neg cq] at h;obtain rfl:=Option.some.inj h;have e1 : (q0 != 0) = true:=bne_iff_ne.mpr cq;clear h
  go_enter Try.func33,Try.ntmps33
  go_wp2_with (first | (go_at_call 50;(refine (ask1.calls k _ _ l0 _ _ l1 a2 a4 q0 (qa,qb,qc) _ HR0.out HC0.out HR1.out HC1.out HA.out cq).mono ?_);rintro e w1 ⟨rfl,hb⟩;have HB1:=Aside0.mk (below_step HB.out hb);clear hb HB))
  go_ret;exact ⟨rfl,HB1.out⟩
 rw [if_pos cq] at h;subst cq;by_cases d1 : a3 < 0
 rotate_left
 ·
  rw [if_neg d1] at h;have e1 : decide (a3 < 0) = false:=decide_eq_false d1;by_cases d2 : (l0.length : Int)≤a3
  rotate_left
  ·
   rw [if_neg d2] at h;obtain rfl:=Option.some.inj h;have e2 : decide ((l0.length : Int)≤a3) = false:=decide_eq_false d2;clear h;obtain ⟨ln1,ln2,ln3,-,-,lp⟩:=ask_lengths HA.out;have hp:=lp _ (rd34_mem l0 a3 (by omega) (by omega));have HP:=Aside0.mk (show (rd_T34 l0 a3).f1 < (qa.length : Int) by rw [ln1];exact hp)
   have HL:=Aside0.mk (show qb.length = qa.length by rw [ln1,ln2]);clear ln1 ln2 ln3 lp hp;have e3 : decide (0≤a3) = true:=decide_eq_true (by omega);have e4 : decide (a3 < (l0.length : Int)) = true:=decide_eq_true (by omega)
   go_enter Try.func33,Try.ntmps33
   go_upto_region 4 with (first | (go_at_call 50;(refine (ask0.calls k _ _ l0 _ _ l1 a2 a4 qa qb qc _ HR0.out HC0.out HR1.out HC1.out HA.out).mono ?_);rintro e w1 ⟨⟨g,rfl,hQ⟩,hb⟩;have HB1:=Aside0.mk (below_step HB.out hb);have HQ:=Aside0.mk hQ;clear hb HB hQ))
   obtain ⟨ad,e0,hx0,hx1,hx2,hx3,hx4,hx5,hx6⟩:=at_T34 (Kd.C_below HR0.out HB1.out) a3 (by omega) (by omega);cases e0
   go_wp2_with (first | (go_at_call 51;(refine calls_of_args (args':=#[.pointer (some ⟨g,0,none⟩),pageV (rd_T34 l0 a3)]) (by first | rfl | simp [pageV, *]) ?_);(refine (q_reason.calls g a2 a4 qa qb qc (rd_T34 l0 a3) _ HQ.out HP.out HL.out).mono ?_);rintro e w2 ⟨rfl,hb⟩;have HB2:=Aside0.mk (below_step HB1.out hb);clear hb))
   go_ret;exact ⟨rfl,HB2.out⟩
  rw [if_pos d2] at h;obtain rfl:=Option.some.inj h;have e2 : decide ((l0.length : Int)≤a3) = true:=decide_eq_true d2;clear h
  go_enter Try.func33,Try.ntmps33
  go_wp2_with (first | (go_at_call 50;(refine (ask0.calls k _ _ l0 _ _ l1 a2 a4 qa qb qc _ HR0.out HC0.out HR1.out HC1.out HA.out).mono ?_);rintro e w1 ⟨⟨g,rfl,hQ⟩,hb⟩;have HB1:=Aside0.mk (below_step HB.out hb);have HQ:=Aside0.mk hQ;clear hb HB hQ))
  go_ret;exact ⟨rfl,HB1.out⟩
 rw [if_pos d1] at h;obtain rfl:=Option.some.inj h;have e1 : decide (a3 < 0) = true:=decide_eq_true d1;clear h
 go_enter Try.func33,Try.ntmps33
 go_wp2_with (first | (go_at_call 50;(refine (ask0.calls k _ _ l0 _ _ l1 a2 a4 qa qb qc _ HR0.out HC0.out HR1.out HC1.out HA.out).mono ?_);rintro e w1 ⟨⟨g,rfl,hQ⟩,hb⟩;have HB1:=Aside0.mk (below_step HB.out hb);have HQ:=Aside0.mk hQ;clear hb HB hQ))
 go_ret;exact ⟨rfl,HB1.out⟩
def nOpen (soft : List Bool) (p : S34) : Bool:=decide (p.f1 < 0) || !(rdOf false soft p.f1)
def nStep (l0 : List S34) (s : Int) (kn : Bool) (a b c : List Bool) (x : Int) (st : Int × Bool) : Int × Bool :=
 if ¬ qReason s kn a b (rd_T34 l0 x) = 0 then st else if st.1 < 0∨(nOpen c (rd_T34 l0 x) = true∧st.2 = false)∨(nOpen c (rd_T34 l0 x) = st.2∧(rd_T34 l0 x).f2 < (rd_T34 l0 st.1).f2) then (x,nOpen c (rd_T34 l0 x)) else st
def nRun (l0 : List S34) (s : Int) (kn : Bool) (a b c : List Bool) : Nat→Int→Int × Bool→Int × Bool
 | 0,_,st => st
 | n + 1,x,st => nRun l0 s kn a b c n (x + 1) (nStep l0 s kn a b c x st)
def reclaimplan_Next.f (k : Nat) (l0 : List (S34)) (l1 : List (S30)) (a2 : Int) (a3 : Bool) : Option (Int) :=
 (reclaimplan_ask.f k l0 l1 a2).bind fun q => if q.1 = 0 then some (nRun l0 a2 a3 q.2.1 q.2.2.1 q.2.2.2 l0.length 0 (-1,false)).1 else some (-1)
theorem reclaimplan_Next.mono : ∀ a0 a1 a2 a3 k,LeO (reclaimplan_Next.f k a0 a1 a2 a3) (reclaimplan_Next.f (k + 1) a0 a1 a2 a3):=fun a0 a1 a2 a3 k => LeO.bind (reclaimplan_ask.mono _ _ _ _) (fun _ => LeO.refl _)
set_option maxRecDepth 100000 in
set_option maxHeartbeats 8000000 in
theorem reclaimplan_Next.calls (k : Nat) (A0 : Option Addr) (c0 : Nat) (l0 : List (S34)) (A1 : Option Addr) (c1 : Nat) (l1 : List (S30)) (a2 : Int) (a3 : Bool) (r : Int) (w : World) (hr0 : Kd.C k34 w A0 l0.length l0) (hc0 : l0.length≤c0) (hr1 : Kd.C k30 w A1 l1.length l1) (hc1 : l1.length≤c1) (h : reclaimplan_Next.f k l0 l1 a2 a3 = some r) :
 Calls Try.prog 20 #[.slice A0 l0.length c0,.slice A1 l1.length c1,.int .i64 a2,.bool a3] w fun e w' => e = .returned (.int .i64 r)∧Below w.heap.size w w':=by
 unfold reclaimplan_Next.f at h
 obtain ⟨⟨q0,qa,qb,qc⟩,hA,h⟩:=Option.bind_eq_some_iff.mp h;have HA:=Aside0.mk hA;clear hA;have hu34:=Try.underlying34;have HR0:=Aside0.mk hr0;have HC0:=Aside0.mk hc0;have HR1:=Aside0.mk hr1;have HC1:=Aside0.mk hc1;clear hr0 hc0 hr1 hc1;have HB:=Aside0.mk (Below.refl w.heap.size w)
 dsimp only at h
 by_cases cq : q0 = 0
 rotate_left
 ·
  rw [if_neg cq] at h;obtain rfl:=Option.some.inj h;have e1 : (q0 != 0) = true:=bne_iff_ne.mpr cq;clear h
  go_enter Try.func20,Try.ntmps20
  go_wp2_with (first | (go_at_call 50;(refine (ask1.calls k _ _ l0 _ _ l1 a2 a3 q0 (qa,qb,qc) _ HR0.out HC0.out HR1.out HC1.out HA.out cq).mono ?_);rintro e w1 ⟨rfl,hb⟩;have HB1:=Aside0.mk (below_step HB.out hb);clear hb HB))
  go_ret;exact ⟨rfl,HB1.out⟩
 rw [if_pos cq] at h;subst cq;obtain ⟨r',hr'⟩ : ∃ r',r' = nRun l0 a2 a3 qa qb qc l0.length 0 (-1,false):=⟨_,rfl⟩;rw [← hr'] at h;obtain rfl:=Option.some.inj h;have HF:=Aside0.mk hr'.symm;clear h hr';obtain ⟨ln1,ln2,ln3,-,lm,lp⟩:=ask_lengths HA.out;have HP:=Aside0.mk (show ∀ p ∈ l0,p.f1 < (qa.length : Int) by rw [ln1];exact lp)
 have HL:=Aside0.mk (show qb.length = qa.length by rw [ln1,ln2]);have HL3:=Aside0.mk (show qc.length = qa.length by rw [ln1,ln3]);have HM:=Aside0.mk lm;clear ln1 ln2 ln3 lp lm
 go_enter Try.func20,Try.ntmps20
 go_upto_region 5 with (first | (go_at_call 50;(refine (ask0.calls k _ _ l0 _ _ l1 a2 a3 qa qb qc _ HR0.out HC0.out HR1.out HC1.out HA.out).mono ?_);rintro e w1 ⟨⟨g,rfl,hQ⟩,hb⟩;have HB1:=Aside0.mk (below_step HB.out hb);have HQ:=Aside0.mk hQ;clear hb HB hQ))
 go_wp2
 go_loopw [11,12,28] (fun v11 v12 v28 wr => ∃ (bb : Int) (pf : Bool) (x : Int),0≤x∧x≤(l0.length : Int)∧v11 = .int .i64 bb∧v12 = .bool pf∧v28 = .int .i64 x∧-1≤bb∧(bb < x)∧Aside0 (nRun l0 a2 a3 qa qb qc (l0.length - x.toNat) x (bb,pf) = r')∧Aside0 (Below w1.heap.size w1 wr)) (fun _ _ v28 _ => l0.length - (intOf v28).toNat)
 case atStart => exact ⟨-1,false,0,by omega,by omega,rfl,rfl,rfl,by omega,by omega,HF,⟨Below.refl _ _⟩⟩
 case round =>
  clear HF;obtain ⟨bb,pf,x,hx0,hx1,rfl,rfl,rfl,hbb0,hbb1,HF,HBr⟩:=hrel;by_cases hx : x < (l0.length : Int)
  rotate_left
  ·
   obtain rfl : x = (l0.length : Int):=by omega
   have d4 : decide ((l0.length : Int) < (l0.length : Int)) = false:=decide_eq_false (by omega);rw [Int.toNat_natCast,Nat.sub_self] at HF;obtain rfl : (bb,pf) = r':=HF.out;go_wp2;go_ret;exact ⟨rfl,below_step HB1.out HBr.out⟩
  obtain ⟨ad,e0,hx0_,hx1_,hx2_,hx3_,hx4_,hx5_,hx6_⟩:=at_T34 (Kd.C_below HR0.out (below_step HB1.out HBr.out)) x hx0 hx;cases e0;have d3 : decide (0≤x) = true:=decide_eq_true hx0;have d4 : decide (x < (l0.length : Int)) = true:=decide_eq_true hx;have hw : wrap64 (x + 1) = x + 1:=wrx x hx0 (by have:=HM.out;omega);have HP1:=Aside0.mk (HP.out _ (rd34_mem l0 x hx0 hx))
  go_upto_region 8 with (first | ((with_reducible refine gate_dst (N:=14) rfl ?_);refine box_event rfl (N:=14) rfl (cs:=#[.int .i64 0,.int .i64 0,.int .i64 0,.int .i64 0,.int .i64 0,.bool false,.bool false]) (t:=34) (by first | (go_simp;done) | (go_simp;rfl)) ?_;intro b hg w5 hbox hbl;have HW5:=Aside0.mk (show w1.heap.size≤b by rw [hg];exact below_size HBr.out);have HB5:=Aside0.mk (below_step HBr.out hbl);have HBX:=Aside0.mk hbox;have hcz0 : w5.cell? ⟨b,0,none⟩ = some (.int .i64 0):=(blk_cell HBX.out 0).trans rfl;have hfz0:=blk_frozen HBX.out 0;have hcz1 : w5.cell? ⟨b,1,none⟩ = some (.int .i64 0):=(blk_cell HBX.out 1).trans rfl;have hfz1:=blk_frozen HBX.out 1;have hcz2 : w5.cell? ⟨b,2,none⟩ = some (.int .i64 0):=(blk_cell HBX.out 2).trans rfl;have hfz2:=blk_frozen HBX.out 2;have hcz3 : w5.cell? ⟨b,3,none⟩ = some (.int .i64 0):=(blk_cell HBX.out 3).trans rfl;have hfz3:=blk_frozen HBX.out 3;have hcz4 : w5.cell? ⟨b,4,none⟩ = some (.int .i64 0):=(blk_cell HBX.out 4).trans rfl;have hfz4:=blk_frozen HBX.out 4;have hcz5 : w5.cell? ⟨b,5,none⟩ = some (.bool false):=(blk_cell HBX.out 5).trans rfl;have hfz5:=blk_frozen HBX.out 5;have hcz6 : w5.cell? ⟨b,6,none⟩ = some (.bool false):=(blk_cell HBX.out 6).trans rfl;have hfz6:=blk_frozen HBX.out 6;clear hg hbl hbox HBr))
  refine wp_gen (fun wc hwc => ?_)
  have HXc : Aside0 (wc.heap[b]? = some (.cells #[.int .i64 (rd_T34 l0 x).f0,.int .i64 (rd_T34 l0 x).f1,.int .i64 (rd_T34 l0 x).f2,.int .i64 (rd_T34 l0 x).f3,.int .i64 (rd_T34 l0 x).f4,.bool (rd_T34 l0 x).f5,.bool (rd_T34 l0 x).f6] 34 (0,0))):=⟨by rw [hwc];exact blk_put (cs':=#[.int .i64 (rd_T34 l0 x).f0,.int .i64 (rd_T34 l0 x).f1,.int .i64 (rd_T34 l0 x).f2,.int .i64 (rd_T34 l0 x).f3,.int .i64 (rd_T34 l0 x).f4,.bool (rd_T34 l0 x).f5,.bool (rd_T34 l0 x).f6]) (blk_put (cs':=#[.int .i64 (rd_T34 l0 x).f0,.int .i64 (rd_T34 l0 x).f1,.int .i64 (rd_T34 l0 x).f2,.int .i64 (rd_T34 l0 x).f3,.int .i64 (rd_T34 l0 x).f4,.bool (rd_T34 l0 x).f5,.bool false]) (blk_put (cs':=#[.int .i64 (rd_T34 l0 x).f0,.int .i64 (rd_T34 l0 x).f1,.int .i64 (rd_T34 l0 x).f2,.int .i64 (rd_T34 l0 x).f3,.int .i64 (rd_T34 l0 x).f4,.bool false,.bool false]) (blk_put (cs':=#[.int .i64 (rd_T34 l0 x).f0,.int .i64 (rd_T34 l0 x).f1,.int .i64 (rd_T34 l0 x).f2,.int .i64 (rd_T34 l0 x).f3,.int .i64 0,.bool false,.bool false]) (blk_put (cs':=#[.int .i64 (rd_T34 l0 x).f0,.int .i64 (rd_T34 l0 x).f1,.int .i64 (rd_T34 l0 x).f2,.int .i64 0,.int .i64 0,.bool false,.bool false]) (blk_put (cs':=#[.int .i64 (rd_T34 l0 x).f0,.int .i64 (rd_T34 l0 x).f1,.int .i64 0,.int .i64 0,.int .i64 0,.bool false,.bool false]) (blk_put (cs':=#[.int .i64 (rd_T34 l0 x).f0,.int .i64 0,.int .i64 0,.int .i64 0,.int .i64 0,.bool false,.bool false]) (HBX.out) 0 _ rfl) 1 _ rfl) 2 _ rfl) 3 _ rfl) 4 _ rfl) 5 _ rfl) 6 _ rfl⟩
  have HBc : Aside0 (Below w1.heap.size w1 wc):=⟨by rw [hwc];with_reducible (repeat (first | exact HB5.out | refine below_set ?_ HW5.out))⟩;clear hwc HB5 HBX hcz0 hcz1 hcz2 hcz3 hcz4 hcz5 hcz6 hfz0 hfz1 hfz2 hfz3 hfz4 hfz5 hfz6 hx0_ hx1_ hx2_ hx3_ hx4_ hx5_ hx6_;have hz0 : wc.cell? ⟨b,0,none⟩ = some (.int .i64 (rd_T34 l0 x).f0):=(blk_cell HXc.out 0).trans rfl
  have hz1 : wc.cell? ⟨b,1,none⟩ = some (.int .i64 (rd_T34 l0 x).f1):=(blk_cell HXc.out 1).trans rfl;have hz2 : wc.cell? ⟨b,2,none⟩ = some (.int .i64 (rd_T34 l0 x).f2):=(blk_cell HXc.out 2).trans rfl;have hz3 : wc.cell? ⟨b,3,none⟩ = some (.int .i64 (rd_T34 l0 x).f3):=(blk_cell HXc.out 3).trans rfl
  have hz4 : wc.cell? ⟨b,4,none⟩ = some (.int .i64 (rd_T34 l0 x).f4):=(blk_cell HXc.out 4).trans rfl;have hz5 : wc.cell? ⟨b,5,none⟩ = some (.bool (rd_T34 l0 x).f5):=(blk_cell HXc.out 5).trans rfl;have hz6 : wc.cell? ⟨b,6,none⟩ = some (.bool (rd_T34 l0 x).f6):=(blk_cell HXc.out 6).trans rfl
  have HE : Aside0 (nRun l0 a2 a3 qa qb qc (l0.length - (x + 1).toNat) (x + 1) (nStep l0 a2 a3 qa qb qc x (bb,pf)) = r'):=⟨by
   rw [← HF.out,show l0.length - x.toNat = (l0.length - (x + 1).toNat) + 1 by omega]
   rfl⟩
  clear HF;by_cases c8 : qReason a2 a3 qa qb (rd_T34 l0 x) = 0
  rotate_left
  ·
   have e8 : (qReason a2 a3 qa qb (rd_T34 l0 x) != 0) = true:=bne_iff_ne.mpr c8;have HE' : Aside0 (nRun l0 a2 a3 qa qb qc (l0.length - (x + 1).toNat) (x + 1) (bb,pf) = r'):=⟨by rw [← HE.out,show nStep l0 a2 a3 qa qb qc x (bb,pf) = (bb,pf) from (by unfold nStep;rw [if_pos c8])]⟩;clear HE
   go_wp2_with (first | (go_at_call 51;(refine calls_of_args (args':=#[.pointer (some ⟨g,0,none⟩),pageV (rd_T34 l0 x)]) (by first | rfl | simp [pageV, *]) ?_);(refine (q_reason.calls g a2 a3 qa qb qc (rd_T34 l0 x) _ (HQ.out.below HBc.out) HP1.out HL.out).mono ?_);rintro e w3 ⟨rfl,hb⟩;have HB3:=Aside0.mk (below_step HBc.out hb);have HX3:=Aside0.mk (blk_below HXc.out hb);clear hb HBc HXc hz0 hz1 hz2 hz3 hz4 hz5 hz6))
   go_roundw
   case rel => exact ⟨bb,pf,x + 1,by omega,by omega,rfl,rfl,by rw [hw],by omega,by omega,HE',⟨by first | exact HB3.out | exact b1_ HB3.out _ | exact b1_ (b1_ HB3.out _) _⟩⟩
   case measure => simp [intOf,hw];omega
  have e8 : (qReason a2 a3 qa qb (rd_T34 l0 x) != 0) = false:=bne_eq_false_iff_eq.mpr c8
  go_upto_region 9 with (first | (go_at_call 51;(refine calls_of_args (args':=#[.pointer (some ⟨g,0,none⟩),pageV (rd_T34 l0 x)]) (by first | rfl | simp [pageV, *]) ?_);(refine (q_reason.calls g a2 a3 qa qb qc (rd_T34 l0 x) _ (HQ.out.below HBc.out) HP1.out HL.out).mono ?_);rintro e w3 ⟨rfl,hb⟩;have HB3:=Aside0.mk (below_step HBc.out hb);have HX3:=Aside0.mk (blk_below HXc.out hb);clear hb HBc HXc hz0 hz1 hz2 hz3 hz4 hz5 hz6))
  have hz1 : w3.cell? ⟨b,1,none⟩ = some (.int .i64 (rd_T34 l0 x).f1):=(blk_cell HX3.out 1).trans rfl;have hz2 : w3.cell? ⟨b,2,none⟩ = some (.int .i64 (rd_T34 l0 x).f2):=(blk_cell HX3.out 2).trans rfl;obtain ⟨A3,c3,A4,c4,A5,c5,hg1,hg2,hg3,hg4,hg5,hC3,hC4,hC5⟩:=(HQ.out.below HB3.out).fields;have HC5:=Aside0.mk hC5;clear hC3 hC4 hC5 hg1 hg2 hg3 hg4
  by_cases o1 : (rd_T34 l0 x).f1 < 0
  rotate_left
  ·
   have o2 : decide ((rd_T34 l0 x).f1 < 0) = false:=decide_eq_false o1;have o3 : decide (0≤(rd_T34 l0 x).f1) = true:=decide_eq_true (by omega)
   have o5 : (rd_T34 l0 x).f1 < (qc.length : Int):=by have:=HP1.out;have:=HL3.out;omega
   have o4 : decide ((rd_T34 l0 x).f1 < (qc.length : Int)) = true:=decide_eq_true o5;obtain ⟨ad5,e0,hxs⟩:=Kd.at_bool HC5.out (rd_T34 l0 x).f1 (by omega) o5;subst e0
   have hdisj : rdOf false qc (rd_T34 l0 x).f1 = true∨rdOf false qc (rd_T34 l0 x).f1 = false:=by cases rdOf false qc (rd_T34 l0 x).f1 <;> simp
   rcases hdisj with o6 | o6
   ·
    rw [o6] at hxs
    have hop : nOpen qc (rd_T34 l0 x) = false:=by unfold nOpen;rw [o2,o6];rfl
    go_quiet (fail);go_wp2;by_cases d5 : bb < 0
    rotate_left
    ·
     have e5 : decide (bb < 0) = false:=decide_eq_false d5
     cases pf with
      | false =>
       obtain ⟨ad2,e0,_,_,hb2_,_,_,_,_⟩:=at_T34 (Kd.C_below HR0.out (below_step HB1.out HB3.out)) bb (by omega) (by omega);obtain rfl : _ = ad2:=Option.some.inj e0;clear e0;have d7 : decide (0≤bb) = true:=decide_eq_true (by omega);have d8 : decide (bb < (l0.length : Int)) = true:=decide_eq_true (by omega);by_cases d6 : (rd_T34 l0 x).f2 < (rd_T34 l0 bb).f2
       rotate_left
       ·
        have e6 : decide ((rd_T34 l0 x).f2 < (rd_T34 l0 bb).f2) = false:=decide_eq_false d6;have HE' : Aside0 (nRun l0 a2 a3 qa qb qc (l0.length - (x + 1).toNat) (x + 1) (bb,false) = r'):=⟨by rw [← HE.out,show nStep l0 a2 a3 qa qb qc x (bb,false) = (bb,false) from (by unfold nStep;rw [if_neg (fun h => h c8),if_neg (by rw [hop];simp [d5,d6])])]⟩;clear HE;go_quiet (fail);go_wp2
        go_roundw
        case rel => exact ⟨bb,false,x + 1,by omega,by omega,rfl,rfl,by rw [hw],by omega,by omega,HE',⟨by first | exact HB3.out | exact b1_ HB3.out _ | exact b1_ (b1_ HB3.out _) _⟩⟩
        case measure => simp [intOf,hw];omega
       have e6 : decide ((rd_T34 l0 x).f2 < (rd_T34 l0 bb).f2) = true:=decide_eq_true d6;have HE' : Aside0 (nRun l0 a2 a3 qa qb qc (l0.length - (x + 1).toNat) (x + 1) (x,false) = r'):=⟨by rw [← HE.out,show nStep l0 a2 a3 qa qb qc x (bb,false) = (x,false) from (by unfold nStep;rw [if_neg (fun h => h c8),if_pos (.inr (.inr ⟨hop,d6⟩)),hop])]⟩;clear HE;go_quiet (fail);go_wp2
       go_roundw
       case rel => exact ⟨x,false,x + 1,by omega,by omega,rfl,rfl,by rw [hw],by omega,by omega,HE',⟨by first | exact HB3.out | exact b1_ HB3.out _ | exact b1_ (b1_ HB3.out _) _⟩⟩
       case measure => simp [intOf,hw];omega
      | true =>
       have HE' : Aside0 (nRun l0 a2 a3 qa qb qc (l0.length - (x + 1).toNat) (x + 1) (bb,true) = r'):=⟨by rw [← HE.out,show nStep l0 a2 a3 qa qb qc x (bb,true) = (bb,true) from (by unfold nStep;rw [if_neg (fun h => h c8),if_neg (by rw [hop];simp [d5])])]⟩;clear HE;go_quiet (fail);go_wp2
       go_roundw
       case rel => exact ⟨bb,true,x + 1,by omega,by omega,rfl,rfl,by rw [hw],by omega,by omega,HE',⟨by first | exact HB3.out | exact b1_ HB3.out _ | exact b1_ (b1_ HB3.out _) _⟩⟩
       case measure => simp [intOf,hw];omega
    have e5 : decide (bb < 0) = true:=decide_eq_true d5;have HE' : Aside0 (nRun l0 a2 a3 qa qb qc (l0.length - (x + 1).toNat) (x + 1) (x,false) = r'):=⟨by rw [← HE.out,show nStep l0 a2 a3 qa qb qc x (bb,pf) = (x,false) from (by unfold nStep;rw [if_neg (fun h => h c8),if_pos (.inl d5),hop])]⟩;clear HE;go_quiet (fail);go_wp2
    go_roundw
    case rel => exact ⟨x,false,x + 1,by omega,by omega,rfl,rfl,by rw [hw],by omega,by omega,HE',⟨by first | exact HB3.out | exact b1_ HB3.out _ | exact b1_ (b1_ HB3.out _) _⟩⟩
    case measure => simp [intOf,hw];omega
   ·
    rw [o6] at hxs
    have hop : nOpen qc (rd_T34 l0 x) = true:=by unfold nOpen;rw [o2,o6];rfl
    go_quiet (fail);go_wp2;by_cases d5 : bb < 0
    rotate_left
    ·
     have e5 : decide (bb < 0) = false:=decide_eq_false d5
     cases pf with
      | false =>
       have HE' : Aside0 (nRun l0 a2 a3 qa qb qc (l0.length - (x + 1).toNat) (x + 1) (x,true) = r'):=⟨by rw [← HE.out,show nStep l0 a2 a3 qa qb qc x (bb,false) = (x,true) from (by unfold nStep;rw [if_neg (fun h => h c8),if_pos (.inr (.inl ⟨hop,rfl⟩)),hop])]⟩;clear HE;go_quiet (fail);go_wp2
       go_roundw
       case rel => exact ⟨x,true,x + 1,by omega,by omega,rfl,rfl,by rw [hw],by omega,by omega,HE',⟨by first | exact HB3.out | exact b1_ HB3.out _ | exact b1_ (b1_ HB3.out _) _⟩⟩
       case measure => simp [intOf,hw];omega
      | true =>
       obtain ⟨ad2,e0,_,_,hb2_,_,_,_,_⟩:=at_T34 (Kd.C_below HR0.out (below_step HB1.out HB3.out)) bb (by omega) (by omega);obtain rfl : _ = ad2:=Option.some.inj e0;clear e0;have d7 : decide (0≤bb) = true:=decide_eq_true (by omega);have d8 : decide (bb < (l0.length : Int)) = true:=decide_eq_true (by omega);by_cases d6 : (rd_T34 l0 x).f2 < (rd_T34 l0 bb).f2
       rotate_left
       ·
        have e6 : decide ((rd_T34 l0 x).f2 < (rd_T34 l0 bb).f2) = false:=decide_eq_false d6;have HE' : Aside0 (nRun l0 a2 a3 qa qb qc (l0.length - (x + 1).toNat) (x + 1) (bb,true) = r'):=⟨by rw [← HE.out,show nStep l0 a2 a3 qa qb qc x (bb,true) = (bb,true) from (by unfold nStep;rw [if_neg (fun h => h c8),if_neg (by rw [hop];simp [d5,d6])])]⟩;clear HE;go_quiet (fail);go_wp2
        go_roundw
        case rel => exact ⟨bb,true,x + 1,by omega,by omega,rfl,rfl,by rw [hw],by omega,by omega,HE',⟨by first | exact HB3.out | exact b1_ HB3.out _ | exact b1_ (b1_ HB3.out _) _⟩⟩
        case measure => simp [intOf,hw];omega
       have e6 : decide ((rd_T34 l0 x).f2 < (rd_T34 l0 bb).f2) = true:=decide_eq_true d6;have HE' : Aside0 (nRun l0 a2 a3 qa qb qc (l0.length - (x + 1).toNat) (x + 1) (x,true) = r'):=⟨by rw [← HE.out,show nStep l0 a2 a3 qa qb qc x (bb,true) = (x,true) from (by unfold nStep;rw [if_neg (fun h => h c8),if_pos (.inr (.inr ⟨hop,d6⟩)),hop])]⟩;clear HE;go_quiet (fail);go_wp2
       go_roundw
       case rel => exact ⟨x,true,x + 1,by omega,by omega,rfl,rfl,by rw [hw],by omega,by omega,HE',⟨by first | exact HB3.out | exact b1_ HB3.out _ | exact b1_ (b1_ HB3.out _) _⟩⟩
       case measure => simp [intOf,hw];omega
    have e5 : decide (bb < 0) = true:=decide_eq_true d5;have HE' : Aside0 (nRun l0 a2 a3 qa qb qc (l0.length - (x + 1).toNat) (x + 1) (x,true) = r'):=⟨by rw [← HE.out,show nStep l0 a2 a3 qa qb qc x (bb,pf) = (x,true) from (by unfold nStep;rw [if_neg (fun h => h c8),if_pos (.inl d5),hop])]⟩;clear HE;go_quiet (fail);go_wp2
    go_roundw
    case rel => exact ⟨x,true,x + 1,by omega,by omega,rfl,rfl,by rw [hw],by omega,by omega,HE',⟨by first | exact HB3.out | exact b1_ HB3.out _ | exact b1_ (b1_ HB3.out _) _⟩⟩
    case measure => simp [intOf,hw];omega
  have o2 : decide ((rd_T34 l0 x).f1 < 0) = true:=decide_eq_true o1
  have hop : nOpen qc (rd_T34 l0 x) = true:=by unfold nOpen;rw [o2];rfl
  go_quiet (fail);go_wp2;by_cases d5 : bb < 0
  rotate_left
  ·
   have e5 : decide (bb < 0) = false:=decide_eq_false d5
   cases pf with
    | false =>
     have HE' : Aside0 (nRun l0 a2 a3 qa qb qc (l0.length - (x + 1).toNat) (x + 1) (x,true) = r'):=⟨by rw [← HE.out,show nStep l0 a2 a3 qa qb qc x (bb,false) = (x,true) from (by unfold nStep;rw [if_neg (fun h => h c8),if_pos (.inr (.inl ⟨hop,rfl⟩)),hop])]⟩;clear HE;go_quiet (fail);go_wp2
     go_roundw
     case rel => exact ⟨x,true,x + 1,by omega,by omega,rfl,rfl,by rw [hw],by omega,by omega,HE',⟨by first | exact HB3.out | exact b1_ HB3.out _ | exact b1_ (b1_ HB3.out _) _⟩⟩
     case measure => simp [intOf,hw];omega
    | true =>
     obtain ⟨ad2,e0,_,_,hb2_,_,_,_,_⟩:=at_T34 (Kd.C_below HR0.out (below_step HB1.out HB3.out)) bb (by omega) (by omega);obtain rfl : _ = ad2:=Option.some.inj e0;clear e0;have d7 : decide (0≤bb) = true:=decide_eq_true (by omega);have d8 : decide (bb < (l0.length : Int)) = true:=decide_eq_true (by omega);by_cases d6 : (rd_T34 l0 x).f2 < (rd_T34 l0 bb).f2
     rotate_left
     ·
      have e6 : decide ((rd_T34 l0 x).f2 < (rd_T34 l0 bb).f2) = false:=decide_eq_false d6;have HE' : Aside0 (nRun l0 a2 a3 qa qb qc (l0.length - (x + 1).toNat) (x + 1) (bb,true) = r'):=⟨by rw [← HE.out,show nStep l0 a2 a3 qa qb qc x (bb,true) = (bb,true) from (by unfold nStep;rw [if_neg (fun h => h c8),if_neg (by rw [hop];simp [d5,d6])])]⟩;clear HE;go_quiet (fail);go_wp2
      go_roundw
      case rel => exact ⟨bb,true,x + 1,by omega,by omega,rfl,rfl,by rw [hw],by omega,by omega,HE',⟨by first | exact HB3.out | exact b1_ HB3.out _ | exact b1_ (b1_ HB3.out _) _⟩⟩
      case measure => simp [intOf,hw];omega
     have e6 : decide ((rd_T34 l0 x).f2 < (rd_T34 l0 bb).f2) = true:=decide_eq_true d6;have HE' : Aside0 (nRun l0 a2 a3 qa qb qc (l0.length - (x + 1).toNat) (x + 1) (x,true) = r'):=⟨by rw [← HE.out,show nStep l0 a2 a3 qa qb qc x (bb,true) = (x,true) from (by unfold nStep;rw [if_neg (fun h => h c8),if_pos (.inr (.inr ⟨hop,d6⟩)),hop])]⟩;clear HE;go_quiet (fail);go_wp2
     go_roundw
     case rel => exact ⟨x,true,x + 1,by omega,by omega,rfl,rfl,by rw [hw],by omega,by omega,HE',⟨by first | exact HB3.out | exact b1_ HB3.out _ | exact b1_ (b1_ HB3.out _) _⟩⟩
     case measure => simp [intOf,hw];omega
  have e5 : decide (bb < 0) = true:=decide_eq_true d5;have HE' : Aside0 (nRun l0 a2 a3 qa qb qc (l0.length - (x + 1).toNat) (x + 1) (x,true) = r'):=⟨by rw [← HE.out,show nStep l0 a2 a3 qa qb qc x (bb,pf) = (x,true) from (by unfold nStep;rw [if_neg (fun h => h c8),if_pos (.inl d5),hop])]⟩;clear HE;go_quiet (fail);go_wp2
  go_roundw
  case rel => exact ⟨x,true,x + 1,by omega,by omega,rfl,rfl,by rw [hw],by omega,by omega,HE',⟨by first | exact HB3.out | exact b1_ HB3.out _ | exact b1_ (b1_ HB3.out _) _⟩⟩
  case measure => simp [intOf,hw];omega
def slices_Clone_Page.f (l0 : List S34) : Option (List S34):=if l0.length < 2932031007402 then some l0 else none
set_option maxRecDepth 100000 in
set_option maxHeartbeats 2000000 in
theorem slices_Clone_Page.calls (A0 : Option Addr) (c0 : Nat) (l0 : List S34) (r : List S34) (w : World) (hr0 : Kd.C k34 w A0 l0.length l0) (hc0 : l0.length≤c0) (h : slices_Clone_Page.f l0 = some r) :
 Calls Try.prog 52 #[.slice A0 l0.length c0] w fun e w' => ∃ v0_ : Value,e = .returned (v0_)∧Kd.R k34 34 w' w.heap.size (fun _ => True) v0_ r∧Below w.heap.size w w':=by
 unfold slices_Clone_Page.f at h
 by_cases c : l0.length < 2932031007402
 rotate_left
 · rw [if_neg c] at h;cases h
 rw [if_pos c] at h;obtain rfl:=Option.some.inj h;have LM:=Aside0.mk c;have HR0:=Aside0.mk hr0;have HB:=Aside0.mk (Below.refl w.heap.size w)
 cases A0 with
  | none =>
   have hn : l0 = []:=by
    cases l0 with
     | nil => rfl
     | cons x xs =>
      obtain ⟨ad,e,_⟩:=hr0.2.2 (by simp);cases e
   subst hn;clear hr0 hc0 h c
   have hq:=fun W n c => run_eql_slice_nil (P:=Try.prog) W 27 34 none n c Try.underlying27
   go_enter Try.func52,Try.ntmps52
   go_wp2;go_ret
   exact ⟨_,rfl,Kd.R_nil _ _ _ _ _,HB.out⟩
  | some ad =>
   clear hr0 hc0 h c
   have hq:=fun W n c => run_eql_slice_nil (P:=Try.prog) W 27 34 (some ad) n c Try.underlying27
   go_enter Try.func52,Try.ntmps52
   go_wp2_with (first | ((with_reducible refine gate_dst (N:=5) rfl ?_);refine Kd.R_lit k34 _ 34 rfl (N:=5) rfl (xs:=([] : List (S34))) (inner:=[]) (ok:=fun _ => True) (okp:=fun _ => True) (by first | (go_simp;done) | (go_simp;rfl)) (Reps.none _ _) (fun _ hk => hk) trivial (Below.refl _ _) (Nat.le_refl _) (by simp) ?_;intro v5 w2 ho hb hg_ hnew_;clear hg_ hnew_;have HO:=Aside0.mk (Kd.R_lower ho (below_size HB.out));have HB2:=Aside0.mk (below_step HB.out hb);clear ho hb HB) | ((with_reducible refine gate_builtin (b:=.append) (xs:=#[.tmp 5,.tmp 6]) rfl ?_);at_builtin;refine Kd.R_append_rows k34 (w0:=w) w.heap.size rfl (.tmp 5) (.tmp 6) 27 34 (.agg #[(.int .i64 0),(.int .i64 0),(.int .i64 0),(.int .i64 0),(.int .i64 0),(.bool false),(.bool false)]) 48 rfl Try.underlying27 info34 rfl (by decide) (by omega) v5 [] l0 _ _ _ (fun _ => True) (fun _ => False) rfl rfl HO.out (Kd.C_below HR0.out HB2.out) (fun _ _ h => h) (fun _ h => h.elim) (fun _ _ => trivial) HB2.out (below_size HB2.out) (by have:=LM.out;simp;omega) ?_;intro v7 w3 ho hb hg hat;simp only [List.nil_append] at ho;have HO3:=Aside0.mk ho;have HB3:=Aside0.mk hb;clear ho hb hg hat))
   go_ret;exact ⟨_,rfl,HO3.out,HB3.out⟩
theorem k34_cell3 {W : World} {base g n cap : Nat} {ok : Nat→Prop} {xs : List S34} (h : Kd.R k34 34 W base ok (.slice (some ⟨g,0,none⟩) n cap) xs) (i : Int) (h0 : 0≤i) (h1 : i < (n : Int)) :
 W.cell? ⟨g,i.toNat * 7 + 3,none⟩ = some (.int .i64 (rd_T34 xs i).f3)∧W.frozen? ⟨g,i.toNat * 7 + 3,none⟩ = false:=by
 have hn:=(Kd.R_reads' h).1;subst hn;obtain ⟨g',cap',e1,_,_,cells,hc⟩:=Kd.R_form h (by omega)
 injection e1 with e2
 injection e2 with e2
 injection e2 with e2
 subst e2;refine ⟨?_,blk_frozen hc _⟩;obtain ⟨ad,e0,_,_,_,h3,_⟩:=at_T34 (Kd.R_reads' h).2.2 i h0 h1;obtain rfl:=Option.some.inj e0;rw [add_plain] at h3;exact h3
theorem k34_put3 {W : World} {base g cap : Nat} {ok : Nat→Prop} {xs : List S34} (h : Kd.R k34 34 W base ok (.slice (some ⟨g,0,none⟩) xs.length cap) xs) (i : Nat) (hi : i < xs.length) (u : Int) :
 Kd.R k34 34 (W.setCell ⟨g,i * 7 + 3,none⟩ (.int .i64 u)) base ok (.slice (some ⟨g,0,none⟩) xs.length cap) (xs.set i { xs[i] with f3:=u }):=by
 obtain ⟨h0,inner,ho,hr⟩:=h;have hs:=(ho.stored (i * 7 + 3) (.int .i64 u)).1;refine ⟨h0,inner.set (i * 7 + 3) (.int .i64 u),by rw [List.length_set];exact hs,by rw [List.length_set,List.length_set];exact hr.1,fun j p hj => ?_⟩;have hsz : k34.sz = 7:=rfl;rw [hsz];have hr2:=hr.2;rw [hsz] at hr2;by_cases c : j = i
 rotate_left
 ·
  rw [List.getElem?_set_ne (fun e => c e.symm)] at hj;have h1:=k34_openM (hr2 j p hj)
  have hk : ((inner.set (i * 7 + 3) (.int .i64 u)).drop (j * 7)).take 7 = (inner.drop (j * 7)).take 7:=by
   rw [List.drop_set];by_cases c2 : i * 7 + 3 < j * 7
   rotate_left
   ·
    rw [if_neg c2,List.take_set,List.set_eq_of_length_le];rw [List.length_take]
    omega
   rw [if_pos c2]
  rw [hk,h1];exact k34_mkM _ _ _ _
 subst c;rw [List.getElem?_set_self hi] at hj;obtain rfl:=Option.some.inj hj;have h1:=k34_openM (hr2 j _ (List.getElem?_eq_getElem hi));rw [List.drop_set,if_neg (by omega),List.take_set,h1,show j * 7 + 3 - j * 7 = 3 by omega];exact k34_mkM _ _ _ _
theorem rd34_get (l : List S34) (i : Nat) (hi : i < l.length) : rd_T34 l (i : Int) = l[i]:=by
 unfold rd_T34
 rw [Int.toNat_natCast,List.getD_eq_getElem?_getD,List.getElem?_eq_getElem hi];rfl
def wStep (l0 : List S34) (s : Int) (kn : Bool) (a b : List Bool) (x : Int) (rs : List S34) : List S34:=rs.set x.toNat { rd_T34 rs x with f3:=qReason s kn a b (rd_T34 l0 x) }
def wRun (l0 : List S34) (s : Int) (kn : Bool) (a b : List Bool) : Nat→Int→List S34→List S34
 | 0,_,rs => rs
 | n + 1,x,rs => wRun l0 s kn a b n (x + 1) (wStep l0 s kn a b x rs)
theorem k34_wput {W : World} {base g n cap : Nat} {ok : Nat→Prop} {rs : List S34} (h : Kd.R k34 34 W base ok (.slice (some ⟨g,0,none⟩) n cap) rs) (l0 : List S34) (s : Int) (kn : Bool) (a b : List Bool) (x : Int) (h0 : 0≤x) (h1 : x < (n : Int)) :
 Kd.R k34 34 (W.setCell ⟨g,x.toNat * 7 + 3,none⟩ (.int .i64 (qReason s kn a b (rd_T34 l0 x)))) base ok (.slice (some ⟨g,0,none⟩) n cap) (wStep l0 s kn a b x rs):=by
 have hn:=(Kd.R_reads' h).1;subst hn
 have hi : x.toNat < rs.length:=by omega
 have:=k34_put3 h x.toNat hi (qReason s kn a b (rd_T34 l0 x))
 unfold wStep
 rw [show rd_T34 rs x = rs[x.toNat] by rw [← rd34_get rs x.toNat hi,Int.toNat_of_nonneg h0]];exact this
def reclaimplan_Witness.f (k : Nat) (l0 : List (S34)) (l1 : List (S30)) (a2 : Int) (a3 : Bool) : Option (List (S34)) :=
 (reclaimplan_ask.f k l0 l1 a2).bind fun q => if q.1 = 0 then some (wRun l0 a2 a3 q.2.1 q.2.2.1 l0.length 0 l0) else some []
theorem reclaimplan_Witness.mono : ∀ a0 a1 a2 a3 k,LeO (reclaimplan_Witness.f k a0 a1 a2 a3) (reclaimplan_Witness.f (k + 1) a0 a1 a2 a3):=fun a0 a1 a2 a3 k => LeO.bind (reclaimplan_ask.mono _ _ _ _) (fun _ => LeO.refl _)
set_option maxRecDepth 100000 in
set_option maxHeartbeats 4000000 in
theorem reclaimplan_Witness.calls (k : Nat) (A0 : Option Addr) (c0 : Nat) (l0 : List (S34)) (A1 : Option Addr) (c1 : Nat) (l1 : List (S30)) (a2 : Int) (a3 : Bool) (r : List (S34)) (w : World) (hr0 : Kd.C k34 w A0 l0.length l0) (hc0 : l0.length≤c0) (hr1 : Kd.C k30 w A1 l1.length l1) (hc1 : l1.length≤c1) (h : reclaimplan_Witness.f k l0 l1 a2 a3 = some r) :
 Calls Try.prog 22 #[.slice A0 l0.length c0,.slice A1 l1.length c1,.int .i64 a2,.bool a3] w fun e w' => ∃ v0_ : Value,e = .returned (v0_)∧Kd.R k34 34 w' w.heap.size (fun _ => True) v0_ r∧Below w.heap.size w w':=by
 unfold reclaimplan_Witness.f at h
 obtain ⟨⟨q0,qa,qb,qc⟩,hA,h⟩:=Option.bind_eq_some_iff.mp h;have HA:=Aside0.mk hA;clear hA;have hu34:=Try.underlying34;have HR0:=Aside0.mk hr0;have HC0:=Aside0.mk hc0;have HR1:=Aside0.mk hr1;have HC1:=Aside0.mk hc1;clear hr0 hc0 hr1 hc1;have HB:=Aside0.mk (Below.refl w.heap.size w)
 dsimp only at h
 by_cases cq : q0 = 0
 rotate_left
 ·
  rw [if_neg cq] at h;obtain rfl:=Option.some.inj h;have e1 : (q0 != 0) = true:=bne_iff_ne.mpr cq;clear h
  go_enter Try.func22,Try.ntmps22
  go_wp2_with (first | (go_at_call 50;(refine (ask1.calls k _ _ l0 _ _ l1 a2 a3 q0 (qa,qb,qc) _ HR0.out HC0.out HR1.out HC1.out HA.out cq).mono ?_);rintro e w1 ⟨rfl,hb⟩;have HB1:=Aside0.mk (below_step HB.out hb);clear hb HB))
  go_ret;exact ⟨_,rfl,Kd.R_nil _ _ _ _ _,HB1.out⟩
 rw [if_pos cq] at h;subst cq;have HF:=Aside0.mk (Option.some.inj h);clear h;obtain ⟨ln1,ln2,ln3,-,lm,lp⟩:=ask_lengths HA.out;have HP:=Aside0.mk (show ∀ p ∈ l0,p.f1 < (qa.length : Int) by rw [ln1];exact lp);have HL:=Aside0.mk (show qb.length = qa.length by rw [ln1,ln2]);have HL3:=Aside0.mk (show qc.length = qa.length by rw [ln1,ln3]);have HM:=Aside0.mk lm
 clear ln1 ln2 ln3 lp lm;have HCL:=Aside0.mk (show slices_Clone_Page.f l0 = some l0 from if_pos (by have:=HM.out;omega))
 go_enter Try.func22,Try.ntmps22
 go_upto_region 5 with (first | (go_at_call 50;(refine (ask0.calls k _ _ l0 _ _ l1 a2 a3 qa qb qc _ HR0.out HC0.out HR1.out HC1.out HA.out).mono ?_);rintro e w1 ⟨⟨g,rfl,hQ⟩,hb⟩;have HB1:=Aside0.mk (below_step HB.out hb);have HQ:=Aside0.mk hQ;clear hb HB hQ) | (go_at_call 52;(refine (slices_Clone_Page.calls _ _ l0 l0 _ (Kd.C_below HR0.out HB1.out) HC0.out HCL.out).mono ?_);rintro e w2 ⟨v0,rfl,hv,hb⟩;have HO:=Aside0.mk hv;have HB2:=Aside0.mk hb;clear hb hv))
 obtain ⟨Aw,cw,rfl⟩:=Kd.R_slice HO.out;have HO2:=Aside0.mk (Kd.R_mono (ok':=fun k => k < w2.heap.size) (Kd.R_bound HO.out) (fun k hk => hk.2.2.1));clear HO;go_wp2
 go_loopw [28] (fun v28 wr => ∃ (x : Int) (rs : List S34),0≤x∧x≤(l0.length : Int)∧v28 = .int .i64 x∧Aside0 (wRun l0 a2 a3 qa qb (l0.length - x.toNat) x rs = r)∧Aside0 (Kd.R k34 34 wr w1.heap.size (fun k => k < w2.heap.size) (.slice Aw l0.length cw) rs)∧Aside0 (Below w1.heap.size w1 wr)∧Aside0 (w2.heap.size≤wr.heap.size)) (fun v28 _ => l0.length - (intOf v28).toNat)
 case atStart => exact ⟨0,l0,by omega,by omega,rfl,HF,⟨HO2.out⟩,⟨HB2.out⟩,⟨Nat.le_refl _⟩⟩
 case round =>
  clear HF HO2 HB2;obtain ⟨x,rs,hx0,hx1,rfl,HF,HLr,HBr,HSr⟩:=hrel;by_cases hx : x < (l0.length : Int)
  rotate_left
  ·
   obtain rfl : x = (l0.length : Int):=by omega
   have d4 : decide ((l0.length : Int) < (l0.length : Int)) = false:=decide_eq_false (by omega);rw [Int.toNat_natCast,Nat.sub_self] at HF;obtain rfl : rs = r:=HF.out;go_wp2;go_ret;exact ⟨_,rfl,Kd.R_mono (Kd.R_lower HLr.out (below_size HB1.out)) (fun _ _ => trivial),below_step HB1.out HBr.out⟩
  obtain ⟨ad,e0,hx0_,hx1_,hx2_,hx3_,hx4_,hx5_,hx6_⟩:=at_T34 (Kd.C_below HR0.out (below_step HB1.out HBr.out)) x hx0 hx;cases e0;have d3 : decide (0≤x) = true:=decide_eq_true hx0;have d4 : decide (x < (l0.length : Int)) = true:=decide_eq_true hx;have hw : wrap64 (x + 1) = x + 1:=wrx x hx0 (by have:=HM.out;omega);have HP1:=Aside0.mk (HP.out _ (rd34_mem l0 x hx0 hx))
  go_upto_region 8 with (first | ((with_reducible refine gate_dst (N:=13) rfl ?_);refine box_event rfl (N:=13) rfl (cs:=#[.int .i64 0,.int .i64 0,.int .i64 0,.int .i64 0,.int .i64 0,.bool false,.bool false]) (t:=34) (by first | (go_simp;done) | (go_simp;rfl)) ?_;intro b hg w5 hbox hbl;have HL5:=Aside0.mk (Kd.R_below HLr.out hbl);have HG5:=Aside0.mk (show w2.heap.size≤b by have:=HSr.out;rw [hg];exact this);have HS5:=Aside0.mk (show w2.heap.size≤w5.heap.size from Nat.le_trans HSr.out (below_size hbl));have HW5:=Aside0.mk (show w1.heap.size≤b by rw [hg];exact below_size HBr.out);have HB5:=Aside0.mk (below_step HBr.out hbl);have HBX:=Aside0.mk hbox;have hcz0 : w5.cell? ⟨b,0,none⟩ = some (.int .i64 0):=(blk_cell HBX.out 0).trans rfl;have hfz0:=blk_frozen HBX.out 0;have hcz1 : w5.cell? ⟨b,1,none⟩ = some (.int .i64 0):=(blk_cell HBX.out 1).trans rfl;have hfz1:=blk_frozen HBX.out 1;have hcz2 : w5.cell? ⟨b,2,none⟩ = some (.int .i64 0):=(blk_cell HBX.out 2).trans rfl;have hfz2:=blk_frozen HBX.out 2;have hcz3 : w5.cell? ⟨b,3,none⟩ = some (.int .i64 0):=(blk_cell HBX.out 3).trans rfl;have hfz3:=blk_frozen HBX.out 3;have hcz4 : w5.cell? ⟨b,4,none⟩ = some (.int .i64 0):=(blk_cell HBX.out 4).trans rfl;have hfz4:=blk_frozen HBX.out 4;have hcz5 : w5.cell? ⟨b,5,none⟩ = some (.bool false):=(blk_cell HBX.out 5).trans rfl;have hfz5:=blk_frozen HBX.out 5;have hcz6 : w5.cell? ⟨b,6,none⟩ = some (.bool false):=(blk_cell HBX.out 6).trans rfl;have hfz6:=blk_frozen HBX.out 6;clear hg hbl hbox HBr HLr HSr))
  refine wp_gen (fun wc hwc => ?_)
  have HXc : Aside0 (wc.heap[b]? = some (.cells #[.int .i64 (rd_T34 l0 x).f0,.int .i64 (rd_T34 l0 x).f1,.int .i64 (rd_T34 l0 x).f2,.int .i64 (rd_T34 l0 x).f3,.int .i64 (rd_T34 l0 x).f4,.bool (rd_T34 l0 x).f5,.bool (rd_T34 l0 x).f6] 34 (0,0))):=⟨by rw [hwc];exact blk_put (cs':=#[.int .i64 (rd_T34 l0 x).f0,.int .i64 (rd_T34 l0 x).f1,.int .i64 (rd_T34 l0 x).f2,.int .i64 (rd_T34 l0 x).f3,.int .i64 (rd_T34 l0 x).f4,.bool (rd_T34 l0 x).f5,.bool (rd_T34 l0 x).f6]) (blk_put (cs':=#[.int .i64 (rd_T34 l0 x).f0,.int .i64 (rd_T34 l0 x).f1,.int .i64 (rd_T34 l0 x).f2,.int .i64 (rd_T34 l0 x).f3,.int .i64 (rd_T34 l0 x).f4,.bool (rd_T34 l0 x).f5,.bool false]) (blk_put (cs':=#[.int .i64 (rd_T34 l0 x).f0,.int .i64 (rd_T34 l0 x).f1,.int .i64 (rd_T34 l0 x).f2,.int .i64 (rd_T34 l0 x).f3,.int .i64 (rd_T34 l0 x).f4,.bool false,.bool false]) (blk_put (cs':=#[.int .i64 (rd_T34 l0 x).f0,.int .i64 (rd_T34 l0 x).f1,.int .i64 (rd_T34 l0 x).f2,.int .i64 (rd_T34 l0 x).f3,.int .i64 0,.bool false,.bool false]) (blk_put (cs':=#[.int .i64 (rd_T34 l0 x).f0,.int .i64 (rd_T34 l0 x).f1,.int .i64 (rd_T34 l0 x).f2,.int .i64 0,.int .i64 0,.bool false,.bool false]) (blk_put (cs':=#[.int .i64 (rd_T34 l0 x).f0,.int .i64 (rd_T34 l0 x).f1,.int .i64 0,.int .i64 0,.int .i64 0,.bool false,.bool false]) (blk_put (cs':=#[.int .i64 (rd_T34 l0 x).f0,.int .i64 0,.int .i64 0,.int .i64 0,.int .i64 0,.bool false,.bool false]) (HBX.out) 0 _ rfl) 1 _ rfl) 2 _ rfl) 3 _ rfl) 4 _ rfl) 5 _ rfl) 6 _ rfl⟩
  have HBc : Aside0 (Below w1.heap.size w1 wc):=⟨by rw [hwc];with_reducible (repeat (first | exact HB5.out | refine below_set ?_ HW5.out))⟩
  have hne : ∀ k,k < w2.heap.size→k≠b:=fun k hk => by have:=HG5.out;omega
  have HLc : Aside0 (Kd.R k34 34 wc w1.heap.size (fun k => k < w2.heap.size) (.slice Aw l0.length cw) rs):=⟨by rw [hwc];with_reducible (repeat (first | exact HL5.out | refine Kd.R_far ?_ hne _))⟩;have HSc : Aside0 (w2.heap.size≤wc.heap.size):=⟨by rw [hwc];simp only [size_put];exact HS5.out⟩;clear hne HL5 HS5 HG5
  clear hwc HB5 HBX hcz0 hcz1 hcz2 hcz3 hcz4 hcz5 hcz6 hfz0 hfz1 hfz2 hfz3 hfz4 hfz5 hfz6 hx0_ hx1_ hx2_ hx3_ hx4_ hx5_ hx6_;have hz0 : wc.cell? ⟨b,0,none⟩ = some (.int .i64 (rd_T34 l0 x).f0):=(blk_cell HXc.out 0).trans rfl;have hz1 : wc.cell? ⟨b,1,none⟩ = some (.int .i64 (rd_T34 l0 x).f1):=(blk_cell HXc.out 1).trans rfl
  have hz2 : wc.cell? ⟨b,2,none⟩ = some (.int .i64 (rd_T34 l0 x).f2):=(blk_cell HXc.out 2).trans rfl;have hz3 : wc.cell? ⟨b,3,none⟩ = some (.int .i64 (rd_T34 l0 x).f3):=(blk_cell HXc.out 3).trans rfl;have hz4 : wc.cell? ⟨b,4,none⟩ = some (.int .i64 (rd_T34 l0 x).f4):=(blk_cell HXc.out 4).trans rfl
  have hz5 : wc.cell? ⟨b,5,none⟩ = some (.bool (rd_T34 l0 x).f5):=(blk_cell HXc.out 5).trans rfl;have hz6 : wc.cell? ⟨b,6,none⟩ = some (.bool (rd_T34 l0 x).f6):=(blk_cell HXc.out 6).trans rfl;obtain ⟨gw,co,eo,gb,gl,cl,hgl⟩:=Kd.R_form HLc.out (by have:=(Kd.R_reads' HLc.out).1;omega)
  injection eo with e1 e2 e3
  subst e1;clear e2 e3 cl hgl gl;have HGW:=Aside0.mk gb;clear gb
  have HE : Aside0 (wRun l0 a2 a3 qa qb (l0.length - (x + 1).toNat) (x + 1) (wStep l0 a2 a3 qa qb x rs) = r):=⟨by
   rw [← HF.out,show l0.length - x.toNat = (l0.length - (x + 1).toNat) + 1 by omega]
   rfl⟩
  clear HF
  go_wp2_with (first | (go_at_call 51;(refine calls_of_args (args':=#[.pointer (some ⟨g,0,none⟩),pageV (rd_T34 l0 x)]) (by first | rfl | simp [pageV, *]) ?_);(refine (q_reason.calls g a2 a3 qa qb qc (rd_T34 l0 x) _ (HQ.out.below HBc.out) HP1.out HL.out).mono ?_);rintro e w3 ⟨rfl,hb⟩;have HB3:=Aside0.mk (below_step HBc.out hb);have HL3r:=Aside0.mk (Kd.R_below HLc.out hb);have HS3:=Aside0.mk (Nat.le_trans HSc.out (below_size hb));obtain ⟨hs3,hf3⟩:=k34_cell3 HL3r.out x hx0 hx;have HX3:=Aside0.mk (blk_below HXc.out hb);clear hb HBc HXc hz0 hz1 hz2 hz3 hz4 hz5 hz6))
  go_roundw
  case rel => exact ⟨x + 1,wStep l0 a2 a3 qa qb x rs,by omega,by omega,by rw [hw],HE,⟨k34_wput HL3r.out l0 a2 a3 qa qb x hx0 hx⟩,⟨below_set HB3.out HGW.out⟩,⟨by simp only [size_put];exact HS3.out⟩⟩
  case measure => simp [intOf,hw];omega
attribute [local go_sem high] eqA34
def vDiff (p q : S34) : Bool:=(!(p.f0 == q.f0) || (!(p.f1 == q.f1) || (!(p.f2 == q.f2) || (!(p.f4 == q.f4) || (!(p.f5 == q.f5) || !(p.f6 == q.f6))))))
def vSameB (l0 l4 : List S34) : Nat→Int→Bool
 | 0,_ => true
 | n + 1,x => !(vDiff (rd_T34 l4 x) (rd_T34 l0 x)) && vSameB l0 l4 n (x + 1)
def vHoldB (l0 l4 : List S34) (s : Int) (kn : Bool) (a b : List Bool) : Nat→Int→Bool
 | 0,_ => true
 | n + 1,x => qHolds s kn a b (rd_T34 l0 x) (rd_T34 l4 x).f3 && vHoldB l0 l4 s kn a b n (x + 1)
def vAnswer (l0 l4 : List S34) (s : Int) (kn : Bool) (a b : List Bool) : Int :=
 if ¬ l4.length = l0.length then 3 else if vSameB l0 l4 l0.length 0 = false then 3 else if vHoldB l0 l4 s kn a b l0.length 0 = false then 19 else 0
def reclaimplan_Verify.f (k : Nat) (l0 : List (S34)) (l1 : List (S30)) (a2 : Int) (a3 : Bool) (l4 : List (S34)) : Option (Int) :=
 (reclaimplan_ask.f k l0 l1 a2).bind fun q => if q.1 = 0 then some (vAnswer l0 l4 a2 a3 q.2.1 q.2.2.1) else some q.1
theorem reclaimplan_Verify.mono : ∀ a0 a1 a2 a3 a4 k,LeO (reclaimplan_Verify.f k a0 a1 a2 a3 a4) (reclaimplan_Verify.f (k + 1) a0 a1 a2 a3 a4):=fun a0 a1 a2 a3 a4 k => LeO.bind (reclaimplan_ask.mono _ _ _ _) (fun _ => LeO.refl _)
set_option maxRecDepth 100000 in
set_option maxHeartbeats 8000000 in
theorem reclaimplan_Verify.calls (k : Nat) (A0 : Option Addr) (c0 : Nat) (l0 : List (S34)) (A1 : Option Addr) (c1 : Nat) (l1 : List (S30)) (a2 : Int) (a3 : Bool) (A4 : Option Addr) (c4 : Nat) (l4 : List (S34)) (r : Int) (w : World) (hr0 : Kd.C k34 w A0 l0.length l0) (hc0 : l0.length≤c0) (hr1 : Kd.C k30 w A1 l1.length l1) (hc1 : l1.length≤c1) (hr4 : Kd.C k34 w A4 l4.length l4) (hc4 : l4.length≤c4) (h : reclaimplan_Verify.f k l0 l1 a2 a3 l4 = some r) :
 Calls Try.prog 23 #[.slice A0 l0.length c0,.slice A1 l1.length c1,.int .i64 a2,.bool a3,.slice A4 l4.length c4] w fun e w' => e = .returned (.int .i64 r)∧Below w.heap.size w w':=by
 unfold reclaimplan_Verify.f at h
 obtain ⟨⟨q0,qa,qb,qc⟩,hA,h⟩:=Option.bind_eq_some_iff.mp h;have HA:=Aside0.mk hA;clear hA;have hu34:=Try.underlying34;have HR0:=Aside0.mk hr0;have HC0:=Aside0.mk hc0;have HR1:=Aside0.mk hr1;have HC1:=Aside0.mk hc1;have HR4:=Aside0.mk hr4;have HC4:=Aside0.mk hc4;clear hr4 hc4 hr0 hc0 hr1 hc1;have HB:=Aside0.mk (Below.refl w.heap.size w)
 dsimp only at h
 by_cases cq : q0 = 0
 rotate_left
 ·
  rw [if_neg cq] at h;obtain rfl:=Option.some.inj h;have e1 : (q0 != 0) = true:=bne_iff_ne.mpr cq;clear h
  go_enter Try.func23,Try.ntmps23
  go_wp2_with (first | (go_at_call 50;(refine (ask1.calls k _ _ l0 _ _ l1 a2 a3 q0 (qa,qb,qc) _ HR0.out HC0.out HR1.out HC1.out HA.out cq).mono ?_);rintro e w1 ⟨rfl,hb⟩;have HB1:=Aside0.mk (below_step HB.out hb);clear hb HB))
  go_ret;exact ⟨rfl,HB1.out⟩
 rw [if_pos cq] at h;subst cq;have hf:=Option.some.inj h;clear h;obtain ⟨ln1,ln2,ln3,-,lm,lp⟩:=ask_lengths HA.out;have HP:=Aside0.mk (show ∀ p ∈ l0,p.f1 < (qa.length : Int) by rw [ln1];exact lp);have HL:=Aside0.mk (show qb.length = qa.length by rw [ln1,ln2]);have HL3:=Aside0.mk (show qc.length = qa.length by rw [ln1,ln3]);have HM:=Aside0.mk lm;clear ln1 ln2 ln3 lp lm
 unfold vAnswer at hf
 by_cases cl : l4.length = l0.length
 rotate_left
 ·
  rw [if_pos cl] at hf;subst hf;have e1 : ((l4.length : Int) != (l0.length : Int)) = true:=bne_iff_ne.mpr (by omega)
  go_enter Try.func23,Try.ntmps23
  go_wp2_with (first | (go_at_call 50;(refine (ask0.calls k _ _ l0 _ _ l1 a2 a3 qa qb qc _ HR0.out HC0.out HR1.out HC1.out HA.out).mono ?_);rintro e w1 ⟨⟨g,rfl,hQ⟩,hb⟩;have HB1:=Aside0.mk (below_step HB.out hb);have HQ:=Aside0.mk hQ;clear hb HB hQ))
  go_ret;exact ⟨rfl,HB1.out⟩
 rw [if_neg (fun h => h cl)] at hf;have e1 : ((l4.length : Int) != (l0.length : Int)) = false:=bne_eq_false_iff_eq.mpr (by omega);have HF:=Aside0.mk hf;clear hf
 go_enter Try.func23,Try.ntmps23
 go_upto_region 6 with (first | (go_at_call 50;(refine (ask0.calls k _ _ l0 _ _ l1 a2 a3 qa qb qc _ HR0.out HC0.out HR1.out HC1.out HA.out).mono ?_);rintro e w1 ⟨⟨g,rfl,hQ⟩,hb⟩;have HB1:=Aside0.mk (below_step HB.out hb);have HQ:=Aside0.mk hQ;clear hb HB hQ))
 go_wp2
 go_loopw [35] (fun v35 wr => ∃ (x : Int),0≤x∧x≤(l4.length : Int)∧v35 = .int .i64 x∧Aside0 (vSameB l0 l4 l0.length 0 = vSameB l0 l4 (l0.length - x.toNat) x)∧Aside0 (Below w1.heap.size w1 wr)) (fun v35 _ => l4.length - (intOf v35).toNat)
 case atStart => exact ⟨0,by omega,by omega,rfl,⟨rfl⟩,⟨Below.refl _ _⟩⟩
 case round =>
  obtain ⟨x,hx0,hx1,rfl,HS,HBr⟩:=hrel;by_cases hx : x < (l4.length : Int)
  rotate_left
  ·
   obtain rfl : x = (l4.length : Int):=by omega
   have d4 : decide ((l4.length : Int) < (l4.length : Int)) = false:=decide_eq_false (by omega);have hs:=HS.out;rw [Int.toNat_natCast,cl,Nat.sub_self] at hs
   have HF2 : Aside0 ((if vHoldB l0 l4 a2 a3 qa qb l0.length 0 = false then 19 else 0) = r):=⟨by
    rw [← HF.out,if_neg (show ¬ vSameB l0 l4 l0.length 0 = false by rw [hs];exact fun h => by cases h)]⟩
   clear hs HS HF;go_wp2;have HB0:=HBr;clear HBr
   go_loopw [55] (fun v55 wq => ∃ (x : Int),0≤x∧x≤(l4.length : Int)∧v55 = .int .i64 x∧Aside0 (vHoldB l0 l4 a2 a3 qa qb l0.length 0 = vHoldB l0 l4 a2 a3 qa qb (l0.length - x.toNat) x)∧Aside0 (Below w1.heap.size w1 wq)) (fun v55 _ => l4.length - (intOf v55).toNat)
   case atStart => exact ⟨0,by omega,by omega,rfl,⟨rfl⟩,HB0⟩
   case round =>
    clear HB0 d4;obtain ⟨x,hx0,hx1,rfl,HS,HBr⟩:=hrel;by_cases hx : x < (l4.length : Int)
    rotate_left
    ·
     obtain rfl : x = (l4.length : Int):=by omega
     have d4 : decide ((l4.length : Int) < (l4.length : Int)) = false:=decide_eq_false (by omega);have hs:=HS.out;rw [Int.toNat_natCast,cl,Nat.sub_self] at hs
     obtain rfl : 0 = r:=by rw [← HF2.out,if_neg (show ¬ vHoldB l0 l4 a2 a3 qa qb l0.length 0 = false by rw [hs];exact fun h => by cases h)]
     clear hs HS HF2;go_wp2;go_ret;exact ⟨rfl,below_step HB1.out HBr.out⟩
    have hxl : x < (l0.length : Int):=by omega
    obtain ⟨ad,e0,hx0_,hx1_,hx2_,hx3_,hx4_,hx5_,hx6_⟩:=at_T34 (Kd.C_below HR4.out (below_step HB1.out HBr.out)) x hx0 hx;cases e0;have d3 : decide (0≤x) = true:=decide_eq_true hx0;have d4 : decide (x < (l0.length : Int)) = true:=decide_eq_true hxl;have d4' : decide (x < (l4.length : Int)) = true:=decide_eq_true hx
    have hw : wrap64 (x + 1) = x + 1:=wrx x hx0 (by have:=HM.out;omega);have HP1:=Aside0.mk (HP.out _ (rd34_mem l0 x hx0 hxl))
    go_upto_region 16 with (first | ((with_reducible refine gate_dst (N:=16) rfl ?_);refine box_event rfl (N:=16) rfl (cs:=#[.int .i64 0,.int .i64 0,.int .i64 0,.int .i64 0,.int .i64 0,.bool false,.bool false]) (t:=34) (by first | (go_simp;done) | (go_simp;rfl)) ?_;intro b hg w5 hbox hbl;have HW5:=Aside0.mk (show w1.heap.size≤b by rw [hg];exact below_size HBr.out);have HB5:=Aside0.mk (below_step HBr.out hbl);have HBX:=Aside0.mk hbox;have hcz0 : w5.cell? ⟨b,0,none⟩ = some (.int .i64 0):=(blk_cell HBX.out 0).trans rfl;have hfz0:=blk_frozen HBX.out 0;have hcz1 : w5.cell? ⟨b,1,none⟩ = some (.int .i64 0):=(blk_cell HBX.out 1).trans rfl;have hfz1:=blk_frozen HBX.out 1;have hcz2 : w5.cell? ⟨b,2,none⟩ = some (.int .i64 0):=(blk_cell HBX.out 2).trans rfl;have hfz2:=blk_frozen HBX.out 2;have hcz3 : w5.cell? ⟨b,3,none⟩ = some (.int .i64 0):=(blk_cell HBX.out 3).trans rfl;have hfz3:=blk_frozen HBX.out 3;have hcz4 : w5.cell? ⟨b,4,none⟩ = some (.int .i64 0):=(blk_cell HBX.out 4).trans rfl;have hfz4:=blk_frozen HBX.out 4;have hcz5 : w5.cell? ⟨b,5,none⟩ = some (.bool false):=(blk_cell HBX.out 5).trans rfl;have hfz5:=blk_frozen HBX.out 5;have hcz6 : w5.cell? ⟨b,6,none⟩ = some (.bool false):=(blk_cell HBX.out 6).trans rfl;have hfz6:=blk_frozen HBX.out 6;clear hg hbl hbox HBr))
    refine wp_gen (fun wc hwc => ?_)
    have HXc : Aside0 (wc.heap[b]? = some (.cells #[.int .i64 (rd_T34 l4 x).f0,.int .i64 (rd_T34 l4 x).f1,.int .i64 (rd_T34 l4 x).f2,.int .i64 (rd_T34 l4 x).f3,.int .i64 (rd_T34 l4 x).f4,.bool (rd_T34 l4 x).f5,.bool (rd_T34 l4 x).f6] 34 (0,0))):=⟨by rw [hwc];exact blk_put (cs':=#[.int .i64 (rd_T34 l4 x).f0,.int .i64 (rd_T34 l4 x).f1,.int .i64 (rd_T34 l4 x).f2,.int .i64 (rd_T34 l4 x).f3,.int .i64 (rd_T34 l4 x).f4,.bool (rd_T34 l4 x).f5,.bool (rd_T34 l4 x).f6]) (blk_put (cs':=#[.int .i64 (rd_T34 l4 x).f0,.int .i64 (rd_T34 l4 x).f1,.int .i64 (rd_T34 l4 x).f2,.int .i64 (rd_T34 l4 x).f3,.int .i64 (rd_T34 l4 x).f4,.bool (rd_T34 l4 x).f5,.bool false]) (blk_put (cs':=#[.int .i64 (rd_T34 l4 x).f0,.int .i64 (rd_T34 l4 x).f1,.int .i64 (rd_T34 l4 x).f2,.int .i64 (rd_T34 l4 x).f3,.int .i64 (rd_T34 l4 x).f4,.bool false,.bool false]) (blk_put (cs':=#[.int .i64 (rd_T34 l4 x).f0,.int .i64 (rd_T34 l4 x).f1,.int .i64 (rd_T34 l4 x).f2,.int .i64 (rd_T34 l4 x).f3,.int .i64 0,.bool false,.bool false]) (blk_put (cs':=#[.int .i64 (rd_T34 l4 x).f0,.int .i64 (rd_T34 l4 x).f1,.int .i64 (rd_T34 l4 x).f2,.int .i64 0,.int .i64 0,.bool false,.bool false]) (blk_put (cs':=#[.int .i64 (rd_T34 l4 x).f0,.int .i64 (rd_T34 l4 x).f1,.int .i64 0,.int .i64 0,.int .i64 0,.bool false,.bool false]) (blk_put (cs':=#[.int .i64 (rd_T34 l4 x).f0,.int .i64 0,.int .i64 0,.int .i64 0,.int .i64 0,.bool false,.bool false]) (HBX.out) 0 _ rfl) 1 _ rfl) 2 _ rfl) 3 _ rfl) 4 _ rfl) 5 _ rfl) 6 _ rfl⟩
    have HBc : Aside0 (Below w1.heap.size w1 wc):=⟨by rw [hwc];with_reducible (repeat (first | exact HB5.out | refine below_set ?_ HW5.out))⟩;clear hwc HB5 HBX hcz0 hcz1 hcz2 hcz3 hcz4 hcz5 hcz6 hfz0 hfz1 hfz2 hfz3 hfz4 hfz5 hfz6 hx0_ hx1_ hx2_ hx3_ hx4_ hx5_ hx6_;have hz0 : wc.cell? ⟨b,0,none⟩ = some (.int .i64 (rd_T34 l4 x).f0):=(blk_cell HXc.out 0).trans rfl
    have hz1 : wc.cell? ⟨b,1,none⟩ = some (.int .i64 (rd_T34 l4 x).f1):=(blk_cell HXc.out 1).trans rfl;have hz2 : wc.cell? ⟨b,2,none⟩ = some (.int .i64 (rd_T34 l4 x).f2):=(blk_cell HXc.out 2).trans rfl;have hz3 : wc.cell? ⟨b,3,none⟩ = some (.int .i64 (rd_T34 l4 x).f3):=(blk_cell HXc.out 3).trans rfl
    have hz4 : wc.cell? ⟨b,4,none⟩ = some (.int .i64 (rd_T34 l4 x).f4):=(blk_cell HXc.out 4).trans rfl;have hz5 : wc.cell? ⟨b,5,none⟩ = some (.bool (rd_T34 l4 x).f5):=(blk_cell HXc.out 5).trans rfl;have hz6 : wc.cell? ⟨b,6,none⟩ = some (.bool (rd_T34 l4 x).f6):=(blk_cell HXc.out 6).trans rfl
    obtain ⟨ad0,e0,hy0,hy1,hy2,hy3,hy4,hy5,hy6⟩:=at_T34 (Kd.C_below HR0.out (below_step HB1.out HBc.out)) x hx0 hxl;cases e0;have hs:=HS.out
    rw [show l0.length - x.toNat = (l0.length - (x + 1).toNat) + 1 by omega,show vHoldB l0 l4 a2 a3 qa qb ((l0.length - (x + 1).toNat) + 1) x = (qHolds a2 a3 qa qb (rd_T34 l0 x) (rd_T34 l4 x).f3 && vHoldB l0 l4 a2 a3 qa qb (l0.length - (x + 1).toNat) (x + 1)) from rfl] at hs;by_cases ch : qHolds a2 a3 qa qb (rd_T34 l0 x) (rd_T34 l4 x).f3 = true
    rotate_left
    ·
     replace ch : qHolds a2 a3 qa qb (rd_T34 l0 x) (rd_T34 l4 x).f3 = false:=by simpa using ch
     rw [ch,Bool.false_and] at hs
     obtain rfl : 19 = r:=by have h2:=HF2.out;rw [if_pos hs] at h2;exact h2
     clear hs HS HF2
     refine start_ (n:=9) (S:=fun w' => w'.cell? (ad0.add (x.toNat * 7)) = some (.int .i64 (rd_T34 l0 x).f0)∧w'.cell? ⟨(ad0.add (x.toNat * 7)).block,(ad0.add (x.toNat * 7)).off + 1,none⟩ = some (.int .i64 (rd_T34 l0 x).f1)∧w'.cell? ⟨(ad0.add (x.toNat * 7)).block,(ad0.add (x.toNat * 7)).off + 2,none⟩ = some (.int .i64 (rd_T34 l0 x).f2)∧w'.cell? ⟨(ad0.add (x.toNat * 7)).block,(ad0.add (x.toNat * 7)).off + 3,none⟩ = some (.int .i64 (rd_T34 l0 x).f3)∧w'.cell? ⟨(ad0.add (x.toNat * 7)).block,(ad0.add (x.toNat * 7)).off + 4,none⟩ = some (.int .i64 (rd_T34 l0 x).f4)∧w'.cell? ⟨(ad0.add (x.toNat * 7)).block,(ad0.add (x.toNat * 7)).off + 5,none⟩ = some (.bool (rd_T34 l0 x).f5)∧w'.cell? ⟨(ad0.add (x.toNat * 7)).block,(ad0.add (x.toNat * 7)).off + 6,none⟩ = some (.bool (rd_T34 l0 x).f6)∧w'.cell? ⟨b,3,none⟩ = some (.int .i64 (rd_T34 l4 x).f3)) (ds:=[]) #[F0,F0,F0,F0,F0,F0,F0,F0,F0] (by kernel_rfl) rfl rfl ⟨hy0,hy1,hy2,hy3,hy4,hy5,hy6,hz3⟩ (fun hHeld => ?_)
     refine pure_ (i:=0) (N:=some 60) (v:=?_) (a':=?_) #[T0,F0,F0,F0,F0,F0,F0,F0,F0] rfl rfl (by kernel_rfl) (fun _ _ _ h => h) (Or.inl ⟨by rfl,?_⟩) ?_ ?_
     rotate_left
     · intro w';go_simp;with_reducible rfl
     rotate_left
     · simp only [Act.put,z0_,z1_,z2_,i64_w,i32_w];rfl
     refine pure_ (i:=1) (N:=some 61) (v:=?_) (a':=?_) #[T0,T0,F0,F0,F0,F0,F0,F0,F0] rfl rfl (by kernel_rfl) (fun _ _ _ h => h) (Or.inl ⟨by rfl,?_⟩) ?_ ?_
     rotate_left
     · intro w';go_simp;with_reducible rfl
     rotate_left
     · simp only [Act.put,z0_,z1_,z2_,i64_w,i32_w];rfl
     refine pure_ (i:=2) (N:=some 62) (v:=?_) (a':=?_) #[T0,T0,T0,F0,F0,F0,F0,F0,F0] rfl rfl (by kernel_rfl) (fun _ _ _ h => h) (Or.inl ⟨by rfl,?_⟩) ?_ ?_
     rotate_left
     · intro w';go_simp;with_reducible rfl
     rotate_left
     · simp only [Act.put,z0_,z1_,z2_,i64_w,i32_w];rfl
     refine pure_ (i:=3) (N:=some 63) (v:=?_) (a':=?_) #[T0,T0,T0,T0,F0,F0,F0,F0,F0] rfl rfl (by kernel_rfl) (fun _ _ _ h => h) (Or.inl ⟨by rfl,?_⟩) ?_ ?_
     rotate_left
     · intro w';go_simp;with_reducible rfl
     rotate_left
     · simp only [Act.put,z0_,z1_,z2_,i64_w,i32_w];rfl
     refine pure_ (i:=5) (N:=some 65) (v:=?_) (a':=?_) #[T0,T0,T0,T0,F0,T0,F0,F0,F0] rfl rfl (by kernel_rfl) (fun _ _ _ h => h) (Or.inl ⟨by rfl,?_⟩) ?_ ?_
     rotate_left
     · intro w';go_simp;with_reducible rfl
     rotate_left
     · simp only [Act.put,z0_,z1_,z2_,i64_w,i32_w];rfl
     refine take_ (i:=4) (N:=some 64) (v:=?_) (a':=?_) #[T0,T0,T0,T0,T0,T0,F0,F0,F0] rfl rfl (by kernel_rfl) (fun _ _ _ h => h) (Or.inl ⟨by rfl,?_⟩) hHeld ?_ ?_
     rotate_left
     ·
      rintro w' ⟨s0,s1,s2,s3,s4,s5,s6,s7⟩
      go_simp;with_reducible rfl
     rotate_left
     · simp only [Act.put,z0_,z1_,z2_,i64_w,i32_w];rfl
     refine take_ (i:=6) (N:=some 66) (v:=?_) (a':=?_) #[T0,T0,T0,T0,T0,T0,T0,F0,F0] rfl rfl (by kernel_rfl) (fun _ _ _ h => h) (Or.inl ⟨by rfl,?_⟩) hHeld ?_ ?_
     rotate_left
     ·
      rintro w' ⟨s0,s1,s2,s3,s4,s5,s6,s7⟩
      go_simp;with_reducible rfl
     rotate_left
     · simp only [Act.put,z0_,z1_,z2_,i64_w,i32_w];rfl
     refine one_ (i:=7) (N:=some 67) #[T0,T0,T0,T0,T0,T0,T0,T0,F0] rfl rfl (by kernel_rfl) (by decide) (fun K hK => ?_);refine goes_ Try.func53 (by kernel_rfl) rfl #[.pointer (some ⟨g,0,none⟩),pageV (rd_T34 l0 x),.int .i64 (rd_T34 l4 x).f3] (by rfl) rfl rfl (by (try simp only [List.map_toArray,List.map_cons,List.map_nil]);first | done | rfl) ?_
     refine (q_holds.calls g a2 a3 qa qb qc (rd_T34 l0 x) (rd_T34 l4 x).f3 _ (HQ.out.below (b2_ HBc.out)) HP1.out HL.out).mono ?_
     rintro e w3 ⟨he,hb⟩
     rw [ch] at he;subst he;refine ⟨_,rfl,?_⟩
     have kp : ∀ {p : Addr} {u : Value},wc.cell? p = some u→w3.cell? p = some u:=fun h => (hb.cell (World.block_lt_of_cell? _ _ h)).trans h
     refine hK.out _ _ ⟨kp hy0,kp hy1,kp hy2,kp hy3,kp hy4,kp hy5,kp hy6,kp hz3⟩ (fun hHeld2 => ?_);clear hK K;refine norm_ (a':=?_) ?_ ?_
     rotate_left
     ·
      show Act.put _ (some 67) _ = _
      simp only [Act.put,z0_,z1_,z2_,i64_w,i32_w];rfl
     have HB3:=Aside0.mk (below_step (b2_ HBc.out) hb);clear kp hb hHeld hHeld2;refine pure_ (i:=8) (N:=some 68) (v:=?_) (a':=?_) #[T0,T0,T0,T0,T0,T0,T0,T0,T0] rfl rfl (by kernel_rfl) (fun _ _ _ h => h) (Or.inl ⟨by rfl,?_⟩) ?_ ?_
     rotate_left
     · intro w';go_simp;with_reducible rfl
     rotate_left
     · simp only [Act.put,z0_,z1_,z2_,i64_w,i32_w];rfl
     refine done_ (by kernel_rfl) ?_;go_wp2;go_ret;exact ⟨rfl,below_step HB1.out HB3.out⟩
    rw [ch,Bool.true_and] at hs;have HS':=Aside0.mk hs;clear hs HS
    refine start_ (n:=9) (S:=fun w' => w'.cell? (ad0.add (x.toNat * 7)) = some (.int .i64 (rd_T34 l0 x).f0)∧w'.cell? ⟨(ad0.add (x.toNat * 7)).block,(ad0.add (x.toNat * 7)).off + 1,none⟩ = some (.int .i64 (rd_T34 l0 x).f1)∧w'.cell? ⟨(ad0.add (x.toNat * 7)).block,(ad0.add (x.toNat * 7)).off + 2,none⟩ = some (.int .i64 (rd_T34 l0 x).f2)∧w'.cell? ⟨(ad0.add (x.toNat * 7)).block,(ad0.add (x.toNat * 7)).off + 3,none⟩ = some (.int .i64 (rd_T34 l0 x).f3)∧w'.cell? ⟨(ad0.add (x.toNat * 7)).block,(ad0.add (x.toNat * 7)).off + 4,none⟩ = some (.int .i64 (rd_T34 l0 x).f4)∧w'.cell? ⟨(ad0.add (x.toNat * 7)).block,(ad0.add (x.toNat * 7)).off + 5,none⟩ = some (.bool (rd_T34 l0 x).f5)∧w'.cell? ⟨(ad0.add (x.toNat * 7)).block,(ad0.add (x.toNat * 7)).off + 6,none⟩ = some (.bool (rd_T34 l0 x).f6)∧w'.cell? ⟨b,3,none⟩ = some (.int .i64 (rd_T34 l4 x).f3)) (ds:=[]) #[F0,F0,F0,F0,F0,F0,F0,F0,F0] (by kernel_rfl) rfl rfl ⟨hy0,hy1,hy2,hy3,hy4,hy5,hy6,hz3⟩ (fun hHeld => ?_)
    refine pure_ (i:=0) (N:=some 60) (v:=?_) (a':=?_) #[T0,F0,F0,F0,F0,F0,F0,F0,F0] rfl rfl (by kernel_rfl) (fun _ _ _ h => h) (Or.inl ⟨by rfl,?_⟩) ?_ ?_
    rotate_left
    · intro w';go_simp;with_reducible rfl
    rotate_left
    · simp only [Act.put,z0_,z1_,z2_,i64_w,i32_w];rfl
    refine pure_ (i:=1) (N:=some 61) (v:=?_) (a':=?_) #[T0,T0,F0,F0,F0,F0,F0,F0,F0] rfl rfl (by kernel_rfl) (fun _ _ _ h => h) (Or.inl ⟨by rfl,?_⟩) ?_ ?_
    rotate_left
    · intro w';go_simp;with_reducible rfl
    rotate_left
    · simp only [Act.put,z0_,z1_,z2_,i64_w,i32_w];rfl
    refine pure_ (i:=2) (N:=some 62) (v:=?_) (a':=?_) #[T0,T0,T0,F0,F0,F0,F0,F0,F0] rfl rfl (by kernel_rfl) (fun _ _ _ h => h) (Or.inl ⟨by rfl,?_⟩) ?_ ?_
    rotate_left
    · intro w';go_simp;with_reducible rfl
    rotate_left
    · simp only [Act.put,z0_,z1_,z2_,i64_w,i32_w];rfl
    refine pure_ (i:=3) (N:=some 63) (v:=?_) (a':=?_) #[T0,T0,T0,T0,F0,F0,F0,F0,F0] rfl rfl (by kernel_rfl) (fun _ _ _ h => h) (Or.inl ⟨by rfl,?_⟩) ?_ ?_
    rotate_left
    · intro w';go_simp;with_reducible rfl
    rotate_left
    · simp only [Act.put,z0_,z1_,z2_,i64_w,i32_w];rfl
    refine pure_ (i:=5) (N:=some 65) (v:=?_) (a':=?_) #[T0,T0,T0,T0,F0,T0,F0,F0,F0] rfl rfl (by kernel_rfl) (fun _ _ _ h => h) (Or.inl ⟨by rfl,?_⟩) ?_ ?_
    rotate_left
    · intro w';go_simp;with_reducible rfl
    rotate_left
    · simp only [Act.put,z0_,z1_,z2_,i64_w,i32_w];rfl
    refine take_ (i:=4) (N:=some 64) (v:=?_) (a':=?_) #[T0,T0,T0,T0,T0,T0,F0,F0,F0] rfl rfl (by kernel_rfl) (fun _ _ _ h => h) (Or.inl ⟨by rfl,?_⟩) hHeld ?_ ?_
    rotate_left
    ·
     rintro w' ⟨s0,s1,s2,s3,s4,s5,s6,s7⟩
     go_simp;with_reducible rfl
    rotate_left
    · simp only [Act.put,z0_,z1_,z2_,i64_w,i32_w];rfl
    refine take_ (i:=6) (N:=some 66) (v:=?_) (a':=?_) #[T0,T0,T0,T0,T0,T0,T0,F0,F0] rfl rfl (by kernel_rfl) (fun _ _ _ h => h) (Or.inl ⟨by rfl,?_⟩) hHeld ?_ ?_
    rotate_left
    ·
     rintro w' ⟨s0,s1,s2,s3,s4,s5,s6,s7⟩
     go_simp;with_reducible rfl
    rotate_left
    · simp only [Act.put,z0_,z1_,z2_,i64_w,i32_w];rfl
    refine one_ (i:=7) (N:=some 67) #[T0,T0,T0,T0,T0,T0,T0,T0,F0] rfl rfl (by kernel_rfl) (by decide) (fun K hK => ?_);refine goes_ Try.func53 (by kernel_rfl) rfl #[.pointer (some ⟨g,0,none⟩),pageV (rd_T34 l0 x),.int .i64 (rd_T34 l4 x).f3] (by rfl) rfl rfl (by (try simp only [List.map_toArray,List.map_cons,List.map_nil]);first | done | rfl) ?_
    refine (q_holds.calls g a2 a3 qa qb qc (rd_T34 l0 x) (rd_T34 l4 x).f3 _ (HQ.out.below (b2_ HBc.out)) HP1.out HL.out).mono ?_
    rintro e w3 ⟨he,hb⟩
    rw [ch] at he;subst he;refine ⟨_,rfl,?_⟩
    have kp : ∀ {p : Addr} {u : Value},wc.cell? p = some u→w3.cell? p = some u:=fun h => (hb.cell (World.block_lt_of_cell? _ _ h)).trans h
    refine hK.out _ _ ⟨kp hy0,kp hy1,kp hy2,kp hy3,kp hy4,kp hy5,kp hy6,kp hz3⟩ (fun hHeld2 => ?_);clear hK K;refine norm_ (a':=?_) ?_ ?_
    rotate_left
    ·
     show Act.put _ (some 67) _ = _
     simp only [Act.put,z0_,z1_,z2_,i64_w,i32_w];rfl
    have HB3:=Aside0.mk (below_step (b2_ HBc.out) hb);clear kp hb hHeld hHeld2;refine pure_ (i:=8) (N:=some 68) (v:=?_) (a':=?_) #[T0,T0,T0,T0,T0,T0,T0,T0,T0] rfl rfl (by kernel_rfl) (fun _ _ _ h => h) (Or.inl ⟨by rfl,?_⟩) ?_ ?_
    rotate_left
    · intro w';go_simp;with_reducible rfl
    rotate_left
    · simp only [Act.put,z0_,z1_,z2_,i64_w,i32_w];rfl
    refine done_ (by kernel_rfl) ?_;go_wp2
    go_roundw
    case rel => exact ⟨x + 1,by omega,by omega,by rw [hw],HS',HB3⟩
    case measure => simp [intOf,hw];omega
  have hxl : x < (l0.length : Int):=by omega
  obtain ⟨ad,e0,hx0_,hx1_,hx2_,hx3_,hx4_,hx5_,hx6_⟩:=at_T34 (Kd.C_below HR4.out (below_step HB1.out HBr.out)) x hx0 hx;cases e0;have d3 : decide (0≤x) = true:=decide_eq_true hx0;have d4 : decide (x < (l0.length : Int)) = true:=decide_eq_true hxl;have d4' : decide (x < (l4.length : Int)) = true:=decide_eq_true hx
  have hw : wrap64 (x + 1) = x + 1:=wrx x hx0 (by have:=HM.out;omega);have HP1:=Aside0.mk (HP.out _ (rd34_mem l0 x hx0 hxl))
  go_upto_region 9 with (first | ((with_reducible refine gate_dst (N:=14) rfl ?_);refine box_event rfl (N:=14) rfl (cs:=#[.int .i64 0,.int .i64 0,.int .i64 0,.int .i64 0,.int .i64 0,.bool false,.bool false]) (t:=34) (by first | (go_simp;done) | (go_simp;rfl)) ?_;intro b hg w5 hbox hbl;have HW5:=Aside0.mk (show w1.heap.size≤b by rw [hg];exact below_size HBr.out);have HB5:=Aside0.mk (below_step HBr.out hbl);have HBX:=Aside0.mk hbox;have hcz0 : w5.cell? ⟨b,0,none⟩ = some (.int .i64 0):=(blk_cell HBX.out 0).trans rfl;have hfz0:=blk_frozen HBX.out 0;have hcz1 : w5.cell? ⟨b,1,none⟩ = some (.int .i64 0):=(blk_cell HBX.out 1).trans rfl;have hfz1:=blk_frozen HBX.out 1;have hcz2 : w5.cell? ⟨b,2,none⟩ = some (.int .i64 0):=(blk_cell HBX.out 2).trans rfl;have hfz2:=blk_frozen HBX.out 2;have hcz3 : w5.cell? ⟨b,3,none⟩ = some (.int .i64 0):=(blk_cell HBX.out 3).trans rfl;have hfz3:=blk_frozen HBX.out 3;have hcz4 : w5.cell? ⟨b,4,none⟩ = some (.int .i64 0):=(blk_cell HBX.out 4).trans rfl;have hfz4:=blk_frozen HBX.out 4;have hcz5 : w5.cell? ⟨b,5,none⟩ = some (.bool false):=(blk_cell HBX.out 5).trans rfl;have hfz5:=blk_frozen HBX.out 5;have hcz6 : w5.cell? ⟨b,6,none⟩ = some (.bool false):=(blk_cell HBX.out 6).trans rfl;have hfz6:=blk_frozen HBX.out 6;clear hg hbl hbox HBr))
  refine wp_gen (fun wc hwc => ?_)
  have HXc : Aside0 (wc.heap[b]? = some (.cells #[.int .i64 (rd_T34 l4 x).f0,.int .i64 (rd_T34 l4 x).f1,.int .i64 (rd_T34 l4 x).f2,.int .i64 (rd_T34 l4 x).f3,.int .i64 (rd_T34 l4 x).f4,.bool (rd_T34 l4 x).f5,.bool (rd_T34 l4 x).f6] 34 (0,0))):=⟨by rw [hwc];exact blk_put (cs':=#[.int .i64 (rd_T34 l4 x).f0,.int .i64 (rd_T34 l4 x).f1,.int .i64 (rd_T34 l4 x).f2,.int .i64 (rd_T34 l4 x).f3,.int .i64 (rd_T34 l4 x).f4,.bool (rd_T34 l4 x).f5,.bool (rd_T34 l4 x).f6]) (blk_put (cs':=#[.int .i64 (rd_T34 l4 x).f0,.int .i64 (rd_T34 l4 x).f1,.int .i64 (rd_T34 l4 x).f2,.int .i64 (rd_T34 l4 x).f3,.int .i64 (rd_T34 l4 x).f4,.bool (rd_T34 l4 x).f5,.bool false]) (blk_put (cs':=#[.int .i64 (rd_T34 l4 x).f0,.int .i64 (rd_T34 l4 x).f1,.int .i64 (rd_T34 l4 x).f2,.int .i64 (rd_T34 l4 x).f3,.int .i64 (rd_T34 l4 x).f4,.bool false,.bool false]) (blk_put (cs':=#[.int .i64 (rd_T34 l4 x).f0,.int .i64 (rd_T34 l4 x).f1,.int .i64 (rd_T34 l4 x).f2,.int .i64 (rd_T34 l4 x).f3,.int .i64 0,.bool false,.bool false]) (blk_put (cs':=#[.int .i64 (rd_T34 l4 x).f0,.int .i64 (rd_T34 l4 x).f1,.int .i64 (rd_T34 l4 x).f2,.int .i64 0,.int .i64 0,.bool false,.bool false]) (blk_put (cs':=#[.int .i64 (rd_T34 l4 x).f0,.int .i64 (rd_T34 l4 x).f1,.int .i64 0,.int .i64 0,.int .i64 0,.bool false,.bool false]) (blk_put (cs':=#[.int .i64 (rd_T34 l4 x).f0,.int .i64 0,.int .i64 0,.int .i64 0,.int .i64 0,.bool false,.bool false]) (HBX.out) 0 _ rfl) 1 _ rfl) 2 _ rfl) 3 _ rfl) 4 _ rfl) 5 _ rfl) 6 _ rfl⟩
  have HBc : Aside0 (Below w1.heap.size w1 wc):=⟨by rw [hwc];with_reducible (repeat (first | exact HB5.out | refine below_set ?_ HW5.out))⟩;clear hwc HB5 HBX hcz0 hcz1 hcz2 hcz3 hcz4 hcz5 hcz6 hfz0 hfz1 hfz2 hfz3 hfz4 hfz5 hfz6 hx0_ hx1_ hx2_ hx3_ hx4_ hx5_ hx6_;have hz0 : wc.cell? ⟨b,0,none⟩ = some (.int .i64 (rd_T34 l4 x).f0):=(blk_cell HXc.out 0).trans rfl
  have hz1 : wc.cell? ⟨b,1,none⟩ = some (.int .i64 (rd_T34 l4 x).f1):=(blk_cell HXc.out 1).trans rfl;have hz2 : wc.cell? ⟨b,2,none⟩ = some (.int .i64 (rd_T34 l4 x).f2):=(blk_cell HXc.out 2).trans rfl;have hz3 : wc.cell? ⟨b,3,none⟩ = some (.int .i64 (rd_T34 l4 x).f3):=(blk_cell HXc.out 3).trans rfl
  have hz4 : wc.cell? ⟨b,4,none⟩ = some (.int .i64 (rd_T34 l4 x).f4):=(blk_cell HXc.out 4).trans rfl;have hz5 : wc.cell? ⟨b,5,none⟩ = some (.bool (rd_T34 l4 x).f5):=(blk_cell HXc.out 5).trans rfl;have hz6 : wc.cell? ⟨b,6,none⟩ = some (.bool (rd_T34 l4 x).f6):=(blk_cell HXc.out 6).trans rfl
  obtain ⟨ad0,e0,hy0,hy1,hy2,hy3,hy4,hy5,hy6⟩:=at_T34 (Kd.C_below HR0.out (below_step HB1.out HBc.out)) x hx0 hxl;cases e0;have hf3:=blk_frozen HXc.out 3
  go_upto_region 10 with (fail)
  refine wp_gen (fun wd hwd => ?_)
  have HXd : Aside0 (wd.heap[b]? = some (.cells #[.int .i64 (rd_T34 l4 x).f0,.int .i64 (rd_T34 l4 x).f1,.int .i64 (rd_T34 l4 x).f2,.int .i64 (rd_T34 l0 x).f3,.int .i64 (rd_T34 l4 x).f4,.bool (rd_T34 l4 x).f5,.bool (rd_T34 l4 x).f6] 34 (0,0))):=⟨by rw [hwd];exact blk_put (cs':=#[.int .i64 (rd_T34 l4 x).f0,.int .i64 (rd_T34 l4 x).f1,.int .i64 (rd_T34 l4 x).f2,.int .i64 (rd_T34 l0 x).f3,.int .i64 (rd_T34 l4 x).f4,.bool (rd_T34 l4 x).f5,.bool (rd_T34 l4 x).f6]) HXc.out 3 _ rfl⟩
  have HBd : Aside0 (Below w1.heap.size w1 wd):=⟨by rw [hwd];exact below_set HBc.out HW5.out⟩;clear hwd HBc HXc hz0 hz1 hz2 hz3 hz4 hz5 hz6 hy0 hy1 hy2 hy3 hy4 hy5 hy6 hf3;have hz0 : wd.cell? ⟨b,0,none⟩ = some (.int .i64 (rd_T34 l4 x).f0):=(blk_cell HXd.out 0).trans rfl;have hz1 : wd.cell? ⟨b,1,none⟩ = some (.int .i64 (rd_T34 l4 x).f1):=(blk_cell HXd.out 1).trans rfl
  have hz2 : wd.cell? ⟨b,2,none⟩ = some (.int .i64 (rd_T34 l4 x).f2):=(blk_cell HXd.out 2).trans rfl;have hz3 : wd.cell? ⟨b,3,none⟩ = some (.int .i64 (rd_T34 l0 x).f3):=(blk_cell HXd.out 3).trans rfl;have hz4 : wd.cell? ⟨b,4,none⟩ = some (.int .i64 (rd_T34 l4 x).f4):=(blk_cell HXd.out 4).trans rfl
  have hz5 : wd.cell? ⟨b,5,none⟩ = some (.bool (rd_T34 l4 x).f5):=(blk_cell HXd.out 5).trans rfl;have hz6 : wd.cell? ⟨b,6,none⟩ = some (.bool (rd_T34 l4 x).f6):=(blk_cell HXd.out 6).trans rfl;obtain ⟨ad1,e0,hy0,hy1,hy2,hy3,hy4,hy5,hy6⟩:=at_T34 (Kd.C_below HR0.out (below_step HB1.out HBd.out)) x hx0 hxl;obtain rfl:=Option.some.inj e0;clear e0;have hs:=HS.out
  rw [show l0.length - x.toNat = (l0.length - (x + 1).toNat) + 1 by omega,show vSameB l0 l4 ((l0.length - (x + 1).toNat) + 1) x = (!(vDiff (rd_T34 l4 x) (rd_T34 l0 x)) && vSameB l0 l4 (l0.length - (x + 1).toNat) (x + 1)) from rfl] at hs;by_cases cd : vDiff (rd_T34 l4 x) (rd_T34 l0 x) = true
  rotate_left
  ·
   have cd' : vDiff (rd_T34 l4 x) (rd_T34 l0 x) = false:=by simpa using cd
   rw [cd',Bool.not_false,Bool.true_and] at hs;have HS':=Aside0.mk hs;have e9 : _ = false:=cd'
   unfold vDiff at e9
   clear hs HS cd cd';go_quiet (fail);go_wp2
   go_roundw
   case rel => exact ⟨x + 1,by omega,by omega,by rw [hw],HS',⟨by first | exact HBd.out | exact b1_ HBd.out _⟩⟩
   case measure => simp [intOf,hw];omega
  rw [cd,Bool.not_true,Bool.false_and] at hs
  obtain rfl : 3 = r:=by have h2:=HF.out;rw [if_pos hs] at h2;exact h2
  have e9 : _ = true:=cd
  unfold vDiff at e9
  clear HF hs HS cd;go_quiet (fail);go_wp2;go_ret;exact ⟨rfl,below_step HB1.out (by first | exact HBd.out | exact b1_ HBd.out _)⟩
end Go.Proofs.Ytnmenfkmndnoaaa.Pr
