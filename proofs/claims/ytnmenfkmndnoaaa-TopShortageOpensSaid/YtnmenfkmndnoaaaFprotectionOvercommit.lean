-- Written by a program of this session (a changed copy of the kit's printer). Not trusted: Lean checks it.
import Derived.Test.YtnmenfkmndnoaaaM0
import Derived.Test.YtnmenfkmndnoaaaM1
namespace Go.Proofs.Ytnmenfkmndnoaaa.Pr
open Go.RowKit Go.Proofs.YtnmenfkmndnoaaaW.PrintWords Go.Proofs.YtnmenfkmndnoaaaW.PrintLast Go.Proofs.YtnmenfkmndnoaaaW.PrintMore
attribute [local go_sem] max2_int min2_int max_two min_two max_three min_three max_four min_four
set_option linter.unusedVariables false
set_option linter.unusedSimpArgs false
mutual
def protection_Overcommit.j0 : Nat→List (S30)→Int→Bool→Option (Int × Int)
 | 0,_,_,_ => none
 | k + 1,x0,x1,x22 => if x22 = true then (some (0,2)) else (if 0≤(x0.length : Int) then (if ((x0.length : Int) : Int).toNat≤35184372088832 then (if 1≤(x0.length : Int) then ((some (x0.drop 1 : List (S30))).bind fun y487 => (protection_Overcommit.l0 k x0 x1 (List.replicate ((x0.length : Int) : Int).toNat 0) y487 (y487.length : Int) 0)) else (none)) else (none)) else (none))
def protection_Overcommit.l0 : Nat→List (S30)→Int→List Int→List (S30)→Int→Int→Option (Int × Int)
 | 0,_,_,_,_,_,_ => none
 | k + 1,x0,x1,x7,x27,x28,x29 => if x29 < x28 then (if 0≤x29 then (if x29 < (x27.length : Int) then (if 0≤((rd_T30 x27 x29).f0) then (if ((rd_T30 x27 x29).f0) < (x7.length : Int) then (protection_Overcommit.l0 k x0 x1 (x7.set (((rd_T30 x27 x29).f0) : Int).toNat (wrap64 ((rd x7 ((rd_T30 x27 x29).f0)) + ((rd_T30 x27 x29).f2)))) x27 x28 (wrap64 (x29 + 1))) else (none)) else (none)) else (none)) else (none)) else (protection_Overcommit.l1 k x0 x1 x7 (x7.length : Int) 0)
def protection_Overcommit.l1 : Nat→List (S30)→Int→List Int→Int→Int→Option (Int × Int)
 | 0,_,_,_,_,_ => none
 | k + 1,x0,x1,x43,x44,x45 => if x45 < x44 then (if 0≤x45 then (if x45 < (x43.length : Int) then (if x45 = 0 then (if (rd x43 x45) > x1 then (protection_Overcommit.j3 k x0 x1 x45 x43 x44 x45 true) else (if x45 > 0 then (if x45 < (x0.length : Int) then (protection_Overcommit.j3 k x0 x1 x45 x43 x44 x45 (decide ((rd x43 x45) > ((rd_T30 x0 x45).f2)))) else (none)) else (protection_Overcommit.j3 k x0 x1 x45 x43 x44 x45 false))) else (if x45 > 0 then (if x45 < (x0.length : Int) then (protection_Overcommit.j3 k x0 x1 x45 x43 x44 x45 (decide ((rd x43 x45) > ((rd_T30 x0 x45).f2)))) else (none)) else (protection_Overcommit.j3 k x0 x1 x45 x43 x44 x45 false))) else (none)) else (none)) else (some ((-1),0))
def protection_Overcommit.j3 : Nat→List (S30)→Int→Int→List Int→Int→Int→Bool→Option (Int × Int)
 | 0,_,_,_,_,_,_,_ => none
 | k + 1,x0,x1,x10,x43,x44,x45,x69 => if x69 = true then (some (x10,0)) else (protection_Overcommit.l1 k x0 x1 x43 x44 (wrap64 (x45 + 1)))
end
def protection_Overcommit.f (k : Nat) (l0 : List (S30)) (a1 : Int) : Option (Int × Int):=(accounts_Check.f k l0).bind fun t483 => (if t483 = 0 then (if a1 < 0 then (protection_Overcommit.j0 k l0 a1 true) else (protection_Overcommit.j0 k l0 a1 (decide (a1 > 1048576)))) else (some (0,t483)))
theorem protection_Overcommit.mono_l : ∀ k,(∀ y0 y1 y2,LeO (protection_Overcommit.j0 k y0 y1 y2) (protection_Overcommit.j0 (k + 1) y0 y1 y2))∧(∀ y0 y1 y2 y3 y4 y5,LeO (protection_Overcommit.l0 k y0 y1 y2 y3 y4 y5) (protection_Overcommit.l0 (k + 1) y0 y1 y2 y3 y4 y5))∧(∀ y0 y1 y2 y3 y4,LeO (protection_Overcommit.l1 k y0 y1 y2 y3 y4) (protection_Overcommit.l1 (k + 1) y0 y1 y2 y3 y4))∧(∀ y0 y1 y2 y3 y4 y5 y6,LeO (protection_Overcommit.j3 k y0 y1 y2 y3 y4 y5 y6) (protection_Overcommit.j3 (k + 1) y0 y1 y2 y3 y4 y5 y6))
 | 0 => ⟨fun _ _ _ r h => by simp [protection_Overcommit.j0] at h,fun _ _ _ _ _ _ r h => by simp [protection_Overcommit.l0] at h,fun _ _ _ _ _ r h => by simp [protection_Overcommit.l1] at h,fun _ _ _ _ _ _ _ r h => by simp [protection_Overcommit.j3] at h⟩
 | k + 1 => by
  obtain ⟨ih0,ih1,ih2,ih3⟩:=protection_Overcommit.mono_l k;refine ⟨?_,?_,?_,?_⟩
  ·
   intro y0 y1 y2
   unfold protection_Overcommit.j0
   repeat' first
    | (with_reducible exact ih0 _ _ _)
    | (with_reducible exact ih1 _ _ _ _ _ _)
    | (with_reducible exact ih2 _ _ _ _ _)
    | (with_reducible exact ih3 _ _ _ _ _ _ _)
    | (with_reducible exact accounts_Check.mono _ _)
    | (with_reducible exact LeO.refl _)
    | (with_reducible exact LeO.none _)
    | (with_reducible refine LeO.ite ?_ ?_)
    | (with_reducible refine LeO.bind ?_ (fun _ => ?_))
    | exact ih0 _ _ _
    | exact ih1 _ _ _ _ _ _
    | exact ih2 _ _ _ _ _
    | exact ih3 _ _ _ _ _ _ _
    | exact accounts_Check.mono _ _
    | exact LeO.none _
    | refine LeO.ite ?_ ?_
    | refine LeO.bind ?_ (fun _ => ?_)
  ·
   intro y0 y1 y2 y3 y4 y5
   unfold protection_Overcommit.l0
   repeat' first
    | (with_reducible exact ih0 _ _ _)
    | (with_reducible exact ih1 _ _ _ _ _ _)
    | (with_reducible exact ih2 _ _ _ _ _)
    | (with_reducible exact ih3 _ _ _ _ _ _ _)
    | (with_reducible exact accounts_Check.mono _ _)
    | (with_reducible exact LeO.refl _)
    | (with_reducible exact LeO.none _)
    | (with_reducible refine LeO.ite ?_ ?_)
    | (with_reducible refine LeO.bind ?_ (fun _ => ?_))
    | exact ih0 _ _ _
    | exact ih1 _ _ _ _ _ _
    | exact ih2 _ _ _ _ _
    | exact ih3 _ _ _ _ _ _ _
    | exact accounts_Check.mono _ _
    | exact LeO.none _
    | refine LeO.ite ?_ ?_
    | refine LeO.bind ?_ (fun _ => ?_)
  ·
   intro y0 y1 y2 y3 y4
   unfold protection_Overcommit.l1
   repeat' first
    | (with_reducible exact ih0 _ _ _)
    | (with_reducible exact ih1 _ _ _ _ _ _)
    | (with_reducible exact ih2 _ _ _ _ _)
    | (with_reducible exact ih3 _ _ _ _ _ _ _)
    | (with_reducible exact accounts_Check.mono _ _)
    | (with_reducible exact LeO.refl _)
    | (with_reducible exact LeO.none _)
    | (with_reducible refine LeO.ite ?_ ?_)
    | (with_reducible refine LeO.bind ?_ (fun _ => ?_))
    | exact ih0 _ _ _
    | exact ih1 _ _ _ _ _ _
    | exact ih2 _ _ _ _ _
    | exact ih3 _ _ _ _ _ _ _
    | exact accounts_Check.mono _ _
    | exact LeO.none _
    | refine LeO.ite ?_ ?_
    | refine LeO.bind ?_ (fun _ => ?_)
  ·
   intro y0 y1 y2 y3 y4 y5 y6
   unfold protection_Overcommit.j3
   repeat' first
    | (with_reducible exact ih0 _ _ _)
    | (with_reducible exact ih1 _ _ _ _ _ _)
    | (with_reducible exact ih2 _ _ _ _ _)
    | (with_reducible exact ih3 _ _ _ _ _ _ _)
    | (with_reducible exact accounts_Check.mono _ _)
    | (with_reducible exact LeO.refl _)
    | (with_reducible exact LeO.none _)
    | (with_reducible refine LeO.ite ?_ ?_)
    | (with_reducible refine LeO.bind ?_ (fun _ => ?_))
    | exact ih0 _ _ _
    | exact ih1 _ _ _ _ _ _
    | exact ih2 _ _ _ _ _
    | exact ih3 _ _ _ _ _ _ _
    | exact accounts_Check.mono _ _
    | exact LeO.none _
    | refine LeO.ite ?_ ?_
    | refine LeO.bind ?_ (fun _ => ?_)
theorem protection_Overcommit.mono : ∀ a0 a1 k,LeO (protection_Overcommit.f k a0 a1) (protection_Overcommit.f (k + 1) a0 a1):=by
 intro a0 a1 k;obtain ⟨ih0,ih1,ih2,ih3⟩:=protection_Overcommit.mono_l k
 unfold protection_Overcommit.f
 repeat' first
  | (with_reducible exact ih0 _ _ _)
  | (with_reducible exact ih1 _ _ _ _ _ _)
  | (with_reducible exact ih2 _ _ _ _ _)
  | (with_reducible exact ih3 _ _ _ _ _ _ _)
  | (with_reducible exact accounts_Check.mono _ _)
  | (with_reducible exact LeO.refl _)
  | (with_reducible exact LeO.none _)
  | (with_reducible refine LeO.ite ?_ ?_)
  | (with_reducible refine LeO.bind ?_ (fun _ => ?_))
  | exact ih0 _ _ _
  | exact ih1 _ _ _ _ _ _
  | exact ih2 _ _ _ _ _
  | exact ih3 _ _ _ _ _ _ _
  | exact accounts_Check.mono _ _
  | exact LeO.none _
  | refine LeO.ite ?_ ?_
  | refine LeO.bind ?_ (fun _ => ?_)
def protection_Overcommit.T10 : Bool × List (List Nat × List Nat):=(true,[([],[]),([],[]),([1],[1]),([0,2],[0,2]),([3],[3]),([],[]),([5],[5]),([4,6],[4,6]),([0,2,0,1,2,3,4,5,6,7],[0,2]),([8,7,0,1,2,3,4,5,6,7],[7,8])])
def protection_Overcommit.B10 : List Nat:=[0,0,2,7,15,0,32,127,255,511]
theorem protection_Overcommit.tab10 : rtab .any (opsOf Try.f17 10) = protection_Overcommit.T10:=by kernel_rfl
theorem protection_Overcommit.bits10 : waitsOk protection_Overcommit.T10.2 protection_Overcommit.B10 = true:=by kernel_rfl
set_option maxHeartbeats 8000000 in
set_option maxRecDepth 100000 in
theorem protection_Overcommit.calls (k : Nat) (A0 : Option Addr) (c0 : Nat) (l0 : List (S30)) (a1 : Int) (r1 : Int) (r2 : Int) (w : World) (hr0 : Kd.C k30 w A0 l0.length l0) (hc0 : l0.length≤c0) (h : protection_Overcommit.f k l0 a1 = some (r1,r2)) :
 Calls Try.prog 17 #[.slice A0 l0.length c0,.int .i64 a1] w fun e w' => e = .returned (.tuple #[.int .i64 r1,.int .i64 r2])∧Below w.heap.size w w':=by
 have hu30:=Try.underlying30;have HR0:=Aside0.mk hr0;have HC0:=Aside0.mk hc0;clear hr0 hc0;have HB:=Aside0.mk (Below.refl w.heap.size w);have H : ((accounts_Check.f k l0).bind fun t483 => (if t483 = 0 then (if a1 < 0 then (protection_Overcommit.j0 k l0 a1 true) else (protection_Overcommit.j0 k l0 a1 (decide (a1 > 1048576)))) else (some (0,t483)))) = some (r1,r2):=h;clear h
 replace H:=Option.bind_eq_some_iff.mp H;obtain ⟨t483,A30,H⟩:=H;replace H : (if t483 = 0 then (if a1 < 0 then (protection_Overcommit.j0 k l0 a1 true) else (protection_Overcommit.j0 k l0 a1 (decide (a1 > 1048576)))) else (some (0,t483))) = some (r1,r2):=H;have A3:=Aside0.mk A30;clear A30;by_cases c4 : t483 = 0
 rotate_left
 ·
  rw [if_neg c4] at H;have c4b0 : (t483 == 0) = false:=beq_eq_false_iff_ne.mpr c4;have c4b1 : (t483 != 0) = true:=bne_iff_ne.mpr c4;simp only [Option.some.injEq,Prod.mk.injEq] at H;obtain ⟨rfl,rfl⟩:=H
  go_enter Try.func17,Try.ntmps17
  go_wp2_with (first | ((with_reducible refine gate_callee (f:=48) rfl ?_);refine goesL_ (some 13) rfl rfl Try.func48 (by kernel_rfl) rfl #[.slice A0 l0.length c0] rfl (by (try simp only [z3_,z4_,z5_]);first | done | rfl | (simp only [z6_,z7_];rfl)) ?_;(with_reducible refine (accounts_Check.calls k _ _ l0 t483 _ ?side1 ?side2 A3.out).mono ?_);(case side1 => repeat (first | exact HR0.out | (with_reducible refine Kd.C_alloc ?_ _) | (with_reducible refine Kd.C_drewN ?_ _) | (with_reducible refine Kd.C_drew ?_)));(case side2 => exact HC0.out);rintro e w39 ⟨rfl,hb⟩;refine ⟨_,rfl,?_⟩;have n0_:=Aside0.mk (below_step (by repeat (first | (with_reducible first | exact HB.out | apply b0_ | apply b1_ | apply b2_) | exact HB.out)) hb);clear HB;have HB:=n0_;clear n0_))
  go_ret2;exact ⟨by first | rfl | (simp [errW_none,errW_some] <;> rfl) | (simp [*,errW_none,errW_some] <;> rfl),by repeat (first | (with_reducible first | exact HB.out | apply b0_ | apply b1_ | apply b2_) | exact HB.out)⟩
 rw [if_pos c4] at H;have c4b0 : (t483 == 0) = true:=beq_iff_eq.mpr c4;have c4b1 : (t483 != 0) = false:=bne_eq_false_iff_eq.mpr c4;clear c4;have HC5:=Aside0.mk H;clear H
 go_enter Try.func17,Try.ntmps17
 go_upto_region 4 with (first | ((with_reducible refine gate_callee (f:=48) rfl ?_);refine goesL_ (some 13) rfl rfl Try.func48 (by kernel_rfl) rfl #[.slice A0 l0.length c0] rfl (by (try simp only [z3_,z4_,z5_]);first | done | rfl | (simp only [z6_,z7_];rfl)) ?_;(with_reducible refine (accounts_Check.calls k _ _ l0 t483 _ ?side1 ?side2 A3.out).mono ?_);(case side1 => repeat (first | exact HR0.out | (with_reducible refine Kd.C_alloc ?_ _) | (with_reducible refine Kd.C_drewN ?_ _) | (with_reducible refine Kd.C_drew ?_)));(case side2 => exact HC0.out);rintro e w6 ⟨rfl,hb⟩;refine ⟨_,rfl,?_⟩;have n0_:=Aside0.mk (below_step (by repeat (first | (with_reducible first | exact HB.out | apply b0_ | apply b1_ | apply b2_) | exact HB.out)) hb);clear HB;have HB:=n0_;clear n0_))
 (try simp only [Act.put,List.setIfInBounds_toArray,List.set_cons_zero,List.set_cons_succ])
 go_cut [22] (fun v22 wc => ∃ (kq : Nat) (x22_4 : Bool),v22 = .bool x22_4∧Aside0 (protection_Overcommit.j0 kq l0 a1 x22_4 = some (r1,r2))∧Aside0 (kq≤k)∧Aside0 (Below w.heap.size w wc))
 case first =>
  have H:=HC5.out;clear HC5;by_cases c7 : a1 < 0
  rotate_left
  ·
   rw [if_neg c7] at H;have c7b0 : decide (a1 < 0) = false:=decide_eq_false c7;clear c7
   (first | rw [c7b0] | (simp only [i64_w,i32_w];rw [c7b0]) | skip)
   have H':=Aside0.mk H;clear H;go_wp2
   go_meet
   case rel => exact ⟨_,(decide (a1 > 1048576)),(by first | rfl | (simp;done) | (simp [*];done)),H',⟨by first | omega | exact Nat.le_refl _⟩,⟨by repeat (first | (with_reducible first | exact HB.out | apply b0_ | apply b1_ | apply b2_) | exact HB.out)⟩⟩
  rw [if_pos c7] at H;have c7b0 : decide (a1 < 0) = true:=decide_eq_true c7;clear c7
  (first | rw [c7b0] | (simp only [i64_w,i32_w];rw [c7b0]) | skip)
  have H':=Aside0.mk H;clear H;go_wp2
  go_meet
  case rel => exact ⟨_,(true),(by first | rfl | (simp;done) | (simp [*];done)),H',⟨by first | omega | exact Nat.le_refl _⟩,⟨by repeat (first | (with_reducible first | exact HB.out | apply b0_ | apply b1_ | apply b2_) | exact HB.out)⟩⟩
 case rest =>
  clear HC5;obtain ⟨kq,x22_4,rfl,HA,HJ4,HB⟩:=hcut
  cases kq with
   | zero => exact absurd HA.out (by simp [protection_Overcommit.j0])
   | succ kj4 =>
    have H:=HA.out;clear HA;simp only [protection_Overcommit.j0] at H;by_cases c8 : x22_4 = true
    rotate_left
    ·
     replace c8:=Bool.eq_false_iff.mpr c8;subst c8
     have H1 : (if 0≤(l0.length : Int) then (if ((l0.length : Int) : Int).toNat≤35184372088832 then (if 1≤(l0.length : Int) then ((some (l0.drop 1 : List (S30))).bind fun y487 => (protection_Overcommit.l0 kj4 l0 a1 (List.replicate ((l0.length : Int) : Int).toNat 0) y487 (y487.length : Int) 0)) else (none)) else (none)) else (none)) = some (r1,r2):=by rw [if_neg (show ¬ (false = true) by decide)] at H;exact H
     clear H;have H:=H1;clear H1;by_cases c9 : 0≤(l0.length : Int)
     rotate_left
     · rw [if_neg c9] at H;exact absurd H (by simp)
     rw [if_pos c9] at H;have c9b0:=eq_true c9;have c9b1 : decide (0≤(l0.length : Int)) = true:=decide_eq_true c9;clear c9;by_cases c10 : ((l0.length : Int) : Int).toNat≤35184372088832
     rotate_left
     · rw [if_neg c10] at H;exact absurd H (by simp)
     rw [if_pos c10] at H;have c10b0:=eq_true c10;have c10b1 : decide (((l0.length : Int) : Int).toNat≤35184372088832) = true:=decide_eq_true c10;clear c10;obtain ⟨y484,hy484⟩ : ∃ y_ : List Int,y_ = (List.replicate ((l0.length : Int) : Int).toNat 0):=⟨_,rfl⟩
     replace H : (if 1≤(l0.length : Int) then ((some (l0.drop 1 : List (S30))).bind fun y487 => (protection_Overcommit.l0 kj4 l0 a1 y484 y487 (y487.length : Int) 0)) else (none)) = some (r1,r2):=by first | (rw [hy484];with_reducible exact H) | (have H2_:=(Option.bind_some _ _).symm.trans H;rw [hy484];with_reducible exact H2_) | (have H2_:=(Option.bind_some _ _).symm.trans H;with_reducible exact H2_) | with_reducible exact H | (rw [hy484];exact H) | exact H
     have Ny484:=Aside0.mk hy484;clear hy484;by_cases c11 : 1≤(l0.length : Int)
     rotate_left
     · rw [if_neg c11] at H;exact absurd H (by simp)
     rw [if_pos c11] at H;have c11b0:=eq_true c11;have c11b1 : decide (1≤(l0.length : Int)) = true:=decide_eq_true c11;clear c11;obtain ⟨y487,hy487⟩ : ∃ y_ : List (S30),y_ = (l0.drop 1):=⟨_,rfl⟩
     replace H : (protection_Overcommit.l0 kj4 l0 a1 y484 y487 (y487.length : Int) 0) = some (r1,r2):=by first | (rw [hy487];with_reducible exact H) | (have H2_:=(Option.bind_some _ _).symm.trans H;rw [hy487];with_reducible exact H2_) | (have H2_:=(Option.bind_some _ _).symm.trans H;with_reducible exact H2_) | with_reducible exact H | (rw [hy487];exact H) | exact H
     have Ny487:=Aside0.mk hy487;clear hy487;have H':=Aside0.mk H;clear H
     go_wp2_with (first | ((with_reducible refine gate_dst (N:=25) rfl ?_);refine Kd.R_make (Kd.int .i64) _ 3 rfl (N:=25) rfl 50 _ _ rfl (l0.length : Int) rfl rfl Try.underlying50 (.int .i64 0) 8 info3 rfl (by decide) (by omega) 0 (ok:=fun _ => True) (okp:=fun _ => True) rfl (fun _ hk => hk) trivial (of_decide_eq_true (by first | (with_reducible assumption) | assumption)) (Nat.le_trans (Nat.mul_le_mul_right _ (of_decide_eq_true (by first | (with_reducible assumption) | assumption) : (l0.length : Int).toNat≤35184372088832)) (by omega)) (Below.refl _ _) (Nat.le_refl _) ?_;intro v485 w12 ho13 hb hg_ hnew_;clear hg_ hnew_;(first | rw [← Ny484.out] at ho13 | (simp only [Int.reduceToNat] at ho13;rw [← Ny484.out] at ho13));have n0_:=Aside0.mk (Kd.R_lower ho13 (below_size (by repeat (first | (with_reducible first | exact HB.out | apply b0_ | apply b1_ | apply b2_) | exact HB.out))));have n1_:=Aside0.mk (below_step (by repeat (first | (with_reducible first | exact HB.out | apply b0_ | apply b1_ | apply b2_) | exact HB.out)) hb);clear HB;have HO486:=n0_;have HB:=n1_;clear n0_ n1_;clear hb ho13;have q14 : (1 : Int)≤((l0.length : Int) : Int):=of_decide_eq_true (by first | (with_reducible assumption) | assumption);obtain ⟨i014,hi014,_,hsz14,_⟩:=info_parts info30;have hroom14 : l0.length≤c0:=HC0.out;have hC14 : Kd.C k30 _ A0 l0.length l0:=HR0.out;have hcut14:=cut_from (P:=Try.prog) 22 30 .i64 Try.underlying22 hi014 5 hsz14 A0 l0.length c0 1 (by omega) q14;have hr14:=Kd.C_drop (m:=(1 : Int).toNat) (c:=c0) hC14 (by omega) hroom14;obtain ⟨A14,hA14⟩ : ∃ A1,A1 = (if c0 = (1 : Int).toNat then A0 else (A0 : Option Addr).map (·.add ((1 : Int).toNat * 5))):=⟨_,rfl⟩;obtain ⟨c14,hc14⟩ : ∃ c1,c1 = c0 - (1 : Int).toNat:=⟨_,rfl⟩;have hy14 : y487.length = l0.length - (1 : Int).toNat:=(by rw [Ny487.out,List.length_drop] <;> omega);rw [show (l0).drop (1 : Int).toNat = y487 from Ny487.out.symm] at hr14;replace hr14 : Kd.C k30 _ A14 y487.length y487:=(by rw [hA14];exact hr14);rw [← hy14,← hA14,← hc14] at hcut14;have HR490:=Aside0.mk hr14;have HC490:=Aside0.mk (show y487.length≤c14 from by rw [hy14,hc14];exact Nat.sub_le_sub_right hroom14 _);clear hr14 hC14 hroom14 hi014 hsz14 hc14;have KY14:=Aside0.mk hy14;have KA14:=Aside0.mk hA14;clear hy14 hA14;replace q14:=eq_true q14))
     go_loopg [29] kj4 (fun kq v29 w' => ∃ (x7_2 : List Int) (x29_2 : Int),v29 = .int .i64 x29_2∧Aside0 (protection_Overcommit.l0 kq l0 a1 x7_2 y487 (y487.length : Int) x29_2 = some (r1,r2))∧Aside0 (kq≤kj4)∧Aside0 (Kd.R (Kd.int .i64) 3 w' w.heap.size (fun _ => True) v485 x7_2)∧Aside0 (Below w.heap.size w w'))
     case atStart => exact ⟨(y484),(0),(by first | rfl | (simp;done) | (simp [*];done)),H',⟨Nat.le_refl _⟩,⟨by (with_reducible repeat (first | apply Kd.R_alloc | apply Kd.R_drewN | apply Kd.R_drew));exact HO486.out⟩,⟨by repeat (first | (with_reducible first | exact HB.out | apply b0_ | apply b1_ | apply b2_) | exact HB.out)⟩⟩
     case round =>
      clear H';obtain ⟨x7_2,x29_2,rfl,HA,HK2,HO_7,HB⟩:=hrel
      cases gk with
       | zero => exact absurd HA.out (by simp [protection_Overcommit.l0])
       | succ k2 =>
        have H:=HA.out;clear HA;simp only [protection_Overcommit.l0] at H;by_cases c15 : x29_2 < (y487.length : Int)
        rotate_left
        ·
         rw [if_neg c15] at H;have c15b0 : decide (x29_2 < (y487.length : Int)) = false:=decide_eq_false c15;clear c15;have H':=Aside0.mk H;clear H;obtain ⟨Ao27,co27,eo27⟩:=Kd.R_slice HO_7.out;subst eo27;go_wp2
         go_loopg [45] k2 (fun kq v45 w' => ∃ (x45_3 : Int),v45 = .int .i64 x45_3∧Aside0 (protection_Overcommit.l1 kq l0 a1 x7_2 (x7_2.length : Int) x45_3 = some (r1,r2))∧Aside0 (kq≤k2)∧Aside0 (Kd.R (Kd.int .i64) 3 w' w.heap.size (fun _ => True) (.slice Ao27 x7_2.length co27) x7_2)∧Aside0 (Below w.heap.size w w'))
         case atStart => exact ⟨(0),(by first | rfl | (simp;done) | (simp [*];done)),H',⟨Nat.le_refl _⟩,⟨by (with_reducible repeat (first | apply Kd.R_alloc | apply Kd.R_drewN | apply Kd.R_drew));exact HO_7.out⟩,⟨by repeat (first | (with_reducible first | exact HB.out | apply b0_ | apply b1_ | apply b2_) | exact HB.out)⟩⟩
         case round =>
          clear H';obtain ⟨x45_3,rfl,HA,HK3,HO_43,HB⟩:=hrel
          cases gk with
           | zero => exact absurd HA.out (by simp [protection_Overcommit.l1])
           | succ k3 =>
            have H:=HA.out;clear HA;simp only [protection_Overcommit.l1] at H;by_cases c28 : x45_3 < (x7_2.length : Int)
            rotate_left
            ·
             rw [if_neg c28] at H;have c28b0 : decide (x45_3 < (x7_2.length : Int)) = false:=decide_eq_false c28;clear c28;simp only [Option.some.injEq,Prod.mk.injEq] at H;obtain ⟨rfl,rfl⟩:=H;go_wp2;go_ret2
             exact ⟨by first | rfl | (simp [errW_none,errW_some] <;> rfl) | (simp [*,errW_none,errW_some] <;> rfl),by repeat (first | (with_reducible first | exact HB.out | apply b0_ | apply b1_ | apply b2_) | exact HB.out)⟩
            rw [if_pos c28] at H;have c28b0 : decide (x45_3 < (x7_2.length : Int)) = true:=decide_eq_true c28;clear c28;by_cases c29 : 0≤x45_3
            rotate_left
            · rw [if_neg c29] at H;exact absurd H (by simp)
            rw [if_pos c29] at H;have c29b0 : decide (0≤x45_3) = true:=decide_eq_true c29;clear c29;by_cases c30 : x45_3 < (x7_2.length : Int)
            rotate_left
            · rw [if_neg c30] at H;exact absurd H (by simp)
            rw [if_pos c30] at H;have c30b0 : decide (x45_3 < (x7_2.length : Int)) = true:=decide_eq_true c30;clear c30;have HC31:=Aside0.mk H;clear H;have p495 : 0≤(x45_3 : Int):=of_decide_eq_true (by first | (with_reducible assumption) | assumption);have q495 : x45_3 < (x7_2.length : Int):=of_decide_eq_true (by first | (with_reducible assumption) | assumption)
            obtain ⟨ad495,e495,hx495_0⟩:=Kd.at_int (Kd.R_reads' HO_43.out).2.2 x45_3 p495 q495;cases e495;replace p495:=eq_true p495;replace q495:=eq_true q495
            go_upto_region 15 with (fail)
            go_cut [69] (fun v69 wc => ∃ (kq : Nat) (x69_30 : Bool),v69 = .bool x69_30∧Aside0 (protection_Overcommit.j3 kq l0 a1 x45_3 x7_2 (x7_2.length : Int) x45_3 x69_30 = some (r1,r2))∧Aside0 (kq≤k3)∧Aside0 (Kd.R (Kd.int .i64) 3 wc w.heap.size (fun _ => True) (.slice (some ad495) x7_2.length co27) x7_2)∧Aside0 (Below w.heap.size w wc))
            case first =>
             have H:=HC31.out;clear HC31;by_cases c32 : x45_3 = 0
             rotate_left
             ·
              rw [if_neg c32] at H;have c32b0 : (x45_3 == 0) = false:=beq_eq_false_iff_ne.mpr c32;have c32b1 : (x45_3 != 0) = true:=bne_iff_ne.mpr c32
              (first | rw [c32b0] | (simp only [i64_w,i32_w];rw [c32b0]) | skip)
              by_cases c36 : x45_3 > 0
              rotate_left
              ·
               rw [if_neg c36] at H;have c36b0 : decide (0 < x45_3) = false:=decide_eq_false c36;clear c36;have H':=Aside0.mk H;clear H;go_wp2
               go_meet
               case rel => exact ⟨_,(false),(by first | rfl | (simp;done) | (simp [*];done)),H',⟨by have:=HJ4.out;have:=HK2.out;have:=HK3.out;first | omega | exact Nat.le_refl _⟩,⟨by (with_reducible repeat (first | apply Kd.R_alloc | apply Kd.R_drewN | apply Kd.R_drew));exact HO_43.out⟩,⟨by repeat (first | (with_reducible first | exact HB.out | apply b0_ | apply b1_ | apply b2_) | exact HB.out)⟩⟩
              rw [if_pos c36] at H;have c36b0 : decide (0 < x45_3) = true:=decide_eq_true c36;clear c36;by_cases c37 : x45_3 < (l0.length : Int)
              rotate_left
              · rw [if_neg c37] at H;exact absurd H (by simp)
              rw [if_pos c37] at H;have c37b0 : decide (x45_3 < (l0.length : Int)) = true:=decide_eq_true c37;clear c37;have H':=Aside0.mk H;clear H;have p497 : 0≤(x45_3 : Int):=of_decide_eq_true (by first | (with_reducible assumption) | assumption);have q497 : x45_3 < (l0.length : Int):=of_decide_eq_true (by first | (with_reducible assumption) | assumption)
              obtain ⟨ad497,e497,hx497_0,hx497_1,hx497_2,hx497_3,hx497_4⟩:=at_T30 HR0.out x45_3 p497 q497;cases e497;replace hx497_0:=(HB.out.cell (World.block_lt_of_cell? w _ hx497_0)).trans hx497_0;replace hx497_1:=(HB.out.cell (World.block_lt_of_cell? w _ hx497_1)).trans hx497_1;replace hx497_2:=(HB.out.cell (World.block_lt_of_cell? w _ hx497_2)).trans hx497_2
              replace hx497_3:=(HB.out.cell (World.block_lt_of_cell? w _ hx497_3)).trans hx497_3;replace hx497_4:=(HB.out.cell (World.block_lt_of_cell? w _ hx497_4)).trans hx497_4;replace p497:=eq_true p497;replace q497:=eq_true q497;go_wp2
              go_meet
              case rel => exact ⟨_,(decide ((rd x7_2 x45_3) > ((rd_T30 l0 x45_3).f2))),(by first | rfl | (simp;done) | (simp [*];done)),H',⟨by have:=HJ4.out;have:=HK2.out;have:=HK3.out;first | omega | exact Nat.le_refl _⟩,⟨by (with_reducible repeat (first | apply Kd.R_alloc | apply Kd.R_drewN | apply Kd.R_drew));exact HO_43.out⟩,⟨by repeat (first | (with_reducible first | exact HB.out | apply b0_ | apply b1_ | apply b2_) | exact HB.out)⟩⟩
             rw [if_pos c32] at H;have c32b0 : (x45_3 == 0) = true:=beq_iff_eq.mpr c32;have c32b1 : (x45_3 != 0) = false:=bne_eq_false_iff_eq.mpr c32;clear c32
             (first | rw [c32b0] | (simp only [i64_w,i32_w];rw [c32b0]) | skip)
             by_cases c33 : (rd x7_2 x45_3) > a1
             rotate_left
             ·
              rw [if_neg c33] at H;have c33b0 : decide (a1 < (rd x7_2 x45_3)) = false:=decide_eq_false c33;clear c33;by_cases c34 : x45_3 > 0
              rotate_left
              ·
               rw [if_neg c34] at H;have c34b0 : decide (0 < x45_3) = false:=decide_eq_false c34;clear c34;have H':=Aside0.mk H;clear H;go_wp2
               go_meet
               case rel => exact ⟨_,(false),(by first | rfl | (simp;done) | (simp [*];done)),H',⟨by have:=HJ4.out;have:=HK2.out;have:=HK3.out;first | omega | exact Nat.le_refl _⟩,⟨by (with_reducible repeat (first | apply Kd.R_alloc | apply Kd.R_drewN | apply Kd.R_drew));exact HO_43.out⟩,⟨by repeat (first | (with_reducible first | exact HB.out | apply b0_ | apply b1_ | apply b2_) | exact HB.out)⟩⟩
              rw [if_pos c34] at H;have c34b0 : decide (0 < x45_3) = true:=decide_eq_true c34;clear c34;by_cases c35 : x45_3 < (l0.length : Int)
              rotate_left
              · rw [if_neg c35] at H;exact absurd H (by simp)
              rw [if_pos c35] at H;have c35b0 : decide (x45_3 < (l0.length : Int)) = true:=decide_eq_true c35;clear c35;have H':=Aside0.mk H;clear H;have p496 : 0≤(x45_3 : Int):=of_decide_eq_true (by first | (with_reducible assumption) | assumption);have q496 : x45_3 < (l0.length : Int):=of_decide_eq_true (by first | (with_reducible assumption) | assumption)
              obtain ⟨ad496,e496,hx496_0,hx496_1,hx496_2,hx496_3,hx496_4⟩:=at_T30 HR0.out x45_3 p496 q496;cases e496;replace hx496_0:=(HB.out.cell (World.block_lt_of_cell? w _ hx496_0)).trans hx496_0;replace hx496_1:=(HB.out.cell (World.block_lt_of_cell? w _ hx496_1)).trans hx496_1;replace hx496_2:=(HB.out.cell (World.block_lt_of_cell? w _ hx496_2)).trans hx496_2
              replace hx496_3:=(HB.out.cell (World.block_lt_of_cell? w _ hx496_3)).trans hx496_3;replace hx496_4:=(HB.out.cell (World.block_lt_of_cell? w _ hx496_4)).trans hx496_4;replace p496:=eq_true p496;replace q496:=eq_true q496;go_wp2
              go_meet
              case rel => exact ⟨_,(decide ((rd x7_2 x45_3) > ((rd_T30 l0 x45_3).f2))),(by first | rfl | (simp;done) | (simp [*];done)),H',⟨by have:=HJ4.out;have:=HK2.out;have:=HK3.out;first | omega | exact Nat.le_refl _⟩,⟨by (with_reducible repeat (first | apply Kd.R_alloc | apply Kd.R_drewN | apply Kd.R_drew));exact HO_43.out⟩,⟨by repeat (first | (with_reducible first | exact HB.out | apply b0_ | apply b1_ | apply b2_) | exact HB.out)⟩⟩
             rw [if_pos c33] at H;have c33b0 : decide (a1 < (rd x7_2 x45_3)) = true:=decide_eq_true c33;clear c33;have H':=Aside0.mk H;clear H;go_wp2
             go_meet
             case rel => exact ⟨_,(true),(by first | rfl | (simp;done) | (simp [*];done)),H',⟨by have:=HJ4.out;have:=HK2.out;have:=HK3.out;first | omega | exact Nat.le_refl _⟩,⟨by (with_reducible repeat (first | apply Kd.R_alloc | apply Kd.R_drewN | apply Kd.R_drew));exact HO_43.out⟩,⟨by repeat (first | (with_reducible first | exact HB.out | apply b0_ | apply b1_ | apply b2_) | exact HB.out)⟩⟩
            case rest =>
             clear HC31;obtain ⟨kq,x69_30,rfl,HA,HJ30,HO_43,HB⟩:=hcut
             cases kq with
              | zero => exact absurd HA.out (by simp [protection_Overcommit.j3])
              | succ kj30 =>
               have H:=HA.out;clear HA;simp only [protection_Overcommit.j3] at H;by_cases c38 : x69_30 = true
               rotate_left
               ·
                replace c38:=Bool.eq_false_iff.mpr c38;subst c38
                have H1 : (protection_Overcommit.l1 kj30 l0 a1 x7_2 (x7_2.length : Int) (wrap64 (x45_3 + 1))) = some (r1,r2):=by rw [if_neg (show ¬ (false = true) by decide)] at H;exact H
                clear H;have H:=H1;clear H1;have H':=Aside0.mk H;clear H;go_wp2
                go_roundg kj30
                case measure => have:=HJ4.out;have:=HK2.out;have:=HK3.out;have:=HJ30.out;omega
                case rel => exact ⟨(wrap64 (x45_3 + 1)),(by first | rfl | (simp;done) | (simp [*];done)),H',⟨by have:=HJ4.out;have:=HK2.out;have:=HK3.out;have:=HJ30.out;omega⟩,⟨by (with_reducible repeat (first | apply Kd.R_alloc | apply Kd.R_drewN | apply Kd.R_drew));exact HO_43.out⟩,⟨by repeat (first | (with_reducible first | exact HB.out | apply b0_ | apply b1_ | apply b2_) | exact HB.out)⟩⟩
               subst c38
               have H1 : (some (x45_3,0)) = some (r1,r2):=by rw [if_pos rfl] at H;exact H
               clear H;have H:=H1;clear H1;simp only [Option.some.injEq,Prod.mk.injEq] at H;obtain ⟨rfl,rfl⟩:=H;go_wp2;go_ret2;exact ⟨by first | rfl | (simp [errW_none,errW_some] <;> rfl) | (simp [*,errW_none,errW_some] <;> rfl),by repeat (first | (with_reducible first | exact HB.out | apply b0_ | apply b1_ | apply b2_) | exact HB.out)⟩
        rw [if_pos c15] at H;have c15b0 : decide (x29_2 < (y487.length : Int)) = true:=decide_eq_true c15;clear c15;by_cases c16 : 0≤x29_2
        rotate_left
        · rw [if_neg c16] at H;exact absurd H (by simp)
        rw [if_pos c16] at H;have c16b0 : decide (0≤x29_2) = true:=decide_eq_true c16;clear c16;by_cases c17 : x29_2 < (y487.length : Int)
        rotate_left
        · rw [if_neg c17] at H;exact absurd H (by simp)
        rw [if_pos c17] at H;have c17b0 : decide (x29_2 < (y487.length : Int)) = true:=decide_eq_true c17;clear c17;by_cases c18 : 0≤((rd_T30 y487 x29_2).f0)
        rotate_left
        · rw [if_neg c18] at H;exact absurd H (by simp)
        rw [if_pos c18] at H;have c18b0 : decide (0≤((rd_T30 y487 x29_2).f0)) = true:=decide_eq_true c18;clear c18;by_cases c19 : ((rd_T30 y487 x29_2).f0) < (x7_2.length : Int)
        rotate_left
        · rw [if_neg c19] at H;exact absurd H (by simp)
        rw [if_pos c19] at H;have c19b0 : decide (((rd_T30 y487 x29_2).f0) < (x7_2.length : Int)) = true:=decide_eq_true c19;clear c19;obtain ⟨y494,hy494⟩ : ∃ y_ : List Int,y_ = (x7_2.set (((rd_T30 y487 x29_2).f0) : Int).toNat (wrap64 ((rd x7_2 ((rd_T30 y487 x29_2).f0)) + ((rd_T30 y487 x29_2).f2)))):=⟨_,rfl⟩
        replace H : (protection_Overcommit.l0 k2 l0 a1 y494 y487 (y487.length : Int) (wrap64 (x29_2 + 1))) = some (r1,r2):=by first | (rw [hy494];with_reducible exact H) | (have H2_:=(Option.bind_some _ _).symm.trans H;rw [hy494];with_reducible exact H2_) | (have H2_:=(Option.bind_some _ _).symm.trans H;with_reducible exact H2_) | with_reducible exact H | (rw [hy494];exact H) | exact H
        have Ny494:=Aside0.mk hy494;clear hy494;have H':=Aside0.mk H;clear H;have p491 : 0≤(x29_2 : Int):=of_decide_eq_true (by first | (with_reducible assumption) | assumption);have q491 : x29_2 < (y487.length : Int):=of_decide_eq_true (by first | (with_reducible assumption) | assumption);obtain ⟨ad491,e491,hx491_0,hx491_1,hx491_2,hx491_3,hx491_4⟩:=at_T30 HR490.out x29_2 p491 q491
        cases e491;replace hx491_0:=(HB.out.cell (World.block_lt_of_cell? w _ hx491_0)).trans hx491_0;replace hx491_1:=(HB.out.cell (World.block_lt_of_cell? w _ hx491_1)).trans hx491_1;replace hx491_2:=(HB.out.cell (World.block_lt_of_cell? w _ hx491_2)).trans hx491_2;replace hx491_3:=(HB.out.cell (World.block_lt_of_cell? w _ hx491_3)).trans hx491_3
        replace hx491_4:=(HB.out.cell (World.block_lt_of_cell? w _ hx491_4)).trans hx491_4;replace p491:=eq_true p491;replace q491:=eq_true q491
        try go_wp2_with (first | ((with_reducible refine gate_dst (N:=9) rfl ?_);refine box_event ?hg (N:=9) ?hd (cs:=#[.int .i64 0,.int .i64 0,.int .i64 0,.int .i64 0,.int .i64 0]) (t:=30) ?hr ?_;(case hd => rfl);(case hg => rfl);(case hr => first | (go_simp;done) | (go_simp;rfl));intro gb492 hg w21 hbox hb;have n0_:=Aside0.mk (Kd.R_below (by (with_reducible repeat (first | apply Kd.R_alloc | apply Kd.R_drewN | apply Kd.R_drew));exact HO_7.out) hb);have n1_:=Aside0.mk (below_step (by repeat (first | (with_reducible first | exact HB.out | apply b0_ | apply b1_ | apply b2_) | exact HB.out)) hb);have n2_:=Aside0.mk (hbox);have n3_:=Aside0.mk ((by rw [hg];exact (below_size (by repeat (first | (with_reducible first | exact HB.out | apply b0_ | apply b1_ | apply b2_) | exact HB.out))) : w.heap.size≤gb492));have n4_:=Aside0.mk ((by rw [hg];exact (below_size (by repeat (first | (with_reducible first | exact HB.out | apply b0_ | apply b1_ | apply b2_) | exact HB.out))) : w.heap.size≤gb492));clear HO_7;clear HB;have HO_7:=n0_;have HB:=n1_;have BK492:=n2_;have GW492:=n3_;have GE492:=n4_;clear n0_ n1_ n2_ n3_ n4_;clear hb hbox hg;obtain ⟨hcz22_0,hcz22_1,hcz22_2,hcz22_3,hcz22_4,hfz22_0,hfz22_1,hfz22_2,hfz22_3,hfz22_4⟩:=q5_ BK492.out))
        have n0_ : Aside0 (Kd.R (Kd.int .i64) 3 (((((w21.setCell ⟨gb492,0,none⟩ (.int .i64 ((rd_T30 y487 x29_2).f0))).setCell ⟨gb492,1,none⟩ (.int .i64 ((rd_T30 y487 x29_2).f1))).setCell ⟨gb492,2,none⟩ (.int .i64 ((rd_T30 y487 x29_2).f2))).setCell ⟨gb492,3,none⟩ (.int .i64 ((rd_T30 y487 x29_2).f3))).setCell ⟨gb492,4,none⟩ (.int .i64 ((rd_T30 y487 x29_2).f4))) w.heap.size (fun _ => True) v485 x7_2):=⟨by (with_reducible repeat (first | apply Kd.R_alloc | apply Kd.R_drewN | apply Kd.R_drew));exact Kd.R_mono (Kd.R_far (p:=⟨gb492,4,none⟩) (Kd.R_far (p:=⟨gb492,3,none⟩) (Kd.R_far (p:=⟨gb492,2,none⟩) (Kd.R_far (p:=⟨gb492,1,none⟩) (Kd.R_far (p:=⟨gb492,0,none⟩) (Kd.R_types HO_7.out BK492.out (by decide)) (fun _ hk => hk.2) (.int .i64 ((rd_T30 y487 x29_2).f0))) (fun _ hk => hk.2) (.int .i64 ((rd_T30 y487 x29_2).f1))) (fun _ hk => hk.2) (.int .i64 ((rd_T30 y487 x29_2).f2))) (fun _ hk => hk.2) (.int .i64 ((rd_T30 y487 x29_2).f3))) (fun _ hk => hk.2) (.int .i64 ((rd_T30 y487 x29_2).f4))) (fun _ hk => trivial)⟩
        have n1_ : Aside0 ((((((w21.setCell ⟨gb492,0,none⟩ (.int .i64 ((rd_T30 y487 x29_2).f0))).setCell ⟨gb492,1,none⟩ (.int .i64 ((rd_T30 y487 x29_2).f1))).setCell ⟨gb492,2,none⟩ (.int .i64 ((rd_T30 y487 x29_2).f2))).setCell ⟨gb492,3,none⟩ (.int .i64 ((rd_T30 y487 x29_2).f3))).setCell ⟨gb492,4,none⟩ (.int .i64 ((rd_T30 y487 x29_2).f4))).heap[gb492]? = some (.cells #[.int .i64 ((rd_T30 y487 x29_2).f0),.int .i64 ((rd_T30 y487 x29_2).f1),.int .i64 ((rd_T30 y487 x29_2).f2),.int .i64 ((rd_T30 y487 x29_2).f3),.int .i64 ((rd_T30 y487 x29_2).f4)] 30 (0,0))):=⟨by (with_reducible repeat (first | refine blk_drewN ?_ _ | refine blk_drew ?_ | refine blk_alloc ?_ _));refine blk_put (cs:=#[.int .i64 ((rd_T30 y487 x29_2).f0),.int .i64 ((rd_T30 y487 x29_2).f1),.int .i64 ((rd_T30 y487 x29_2).f2),.int .i64 ((rd_T30 y487 x29_2).f3),.int .i64 0]) ?_ 4 _ rfl;(with_reducible repeat (first | refine blk_drewN ?_ _ | refine blk_drew ?_ | refine blk_alloc ?_ _));refine blk_put (cs:=#[.int .i64 ((rd_T30 y487 x29_2).f0),.int .i64 ((rd_T30 y487 x29_2).f1),.int .i64 ((rd_T30 y487 x29_2).f2),.int .i64 0,.int .i64 0]) ?_ 3 _ rfl;(with_reducible repeat (first | refine blk_drewN ?_ _ | refine blk_drew ?_ | refine blk_alloc ?_ _));refine blk_put (cs:=#[.int .i64 ((rd_T30 y487 x29_2).f0),.int .i64 ((rd_T30 y487 x29_2).f1),.int .i64 0,.int .i64 0,.int .i64 0]) ?_ 2 _ rfl;(with_reducible repeat (first | refine blk_drewN ?_ _ | refine blk_drew ?_ | refine blk_alloc ?_ _));refine blk_put (cs:=#[.int .i64 ((rd_T30 y487 x29_2).f0),.int .i64 0,.int .i64 0,.int .i64 0,.int .i64 0]) ?_ 1 _ rfl;(with_reducible repeat (first | refine blk_drewN ?_ _ | refine blk_drew ?_ | refine blk_alloc ?_ _));refine blk_put (cs:=#[.int .i64 0,.int .i64 0,.int .i64 0,.int .i64 0,.int .i64 0]) ?_ 0 _ rfl;(with_reducible repeat (first | refine blk_drewN ?_ _ | refine blk_drew ?_ | refine blk_alloc ?_ _));exact BK492.out⟩
        have n2_ : Aside0 (Below w.heap.size w (((((w21.setCell ⟨gb492,0,none⟩ (.int .i64 ((rd_T30 y487 x29_2).f0))).setCell ⟨gb492,1,none⟩ (.int .i64 ((rd_T30 y487 x29_2).f1))).setCell ⟨gb492,2,none⟩ (.int .i64 ((rd_T30 y487 x29_2).f2))).setCell ⟨gb492,3,none⟩ (.int .i64 ((rd_T30 y487 x29_2).f3))).setCell ⟨gb492,4,none⟩ (.int .i64 ((rd_T30 y487 x29_2).f4)))):=⟨by repeat (first | (with_reducible first | exact HB.out | apply b0_ | apply b1_ | apply b2_ | refine below_set ?_ GE492.out) | exact HB.out)⟩
        (try clear HO_7)
        (try clear BK492)
        (try clear HB)
        generalize (((((w21.setCell ⟨gb492,0,none⟩ (.int .i64 ((rd_T30 y487 x29_2).f0))).setCell ⟨gb492,1,none⟩ (.int .i64 ((rd_T30 y487 x29_2).f1))).setCell ⟨gb492,2,none⟩ (.int .i64 ((rd_T30 y487 x29_2).f2))).setCell ⟨gb492,3,none⟩ (.int .i64 ((rd_T30 y487 x29_2).f3))).setCell ⟨gb492,4,none⟩ (.int .i64 ((rd_T30 y487 x29_2).f4))) = w23 at n0_ n1_ n2_ ⊢;have HO_7:=n0_;have BK492:=n1_
        have HB:=n2_;clear n0_ n1_ n2_;have n0_:=Aside0.mk (Kd.R_drew HO_7.out);have n1_:=Aside0.mk (blk_drew BK492.out);have n2_:=Aside0.mk (b2_ HB.out);clear HO_7;clear BK492;clear HB;have HO_7:=n0_;have BK492:=n1_;have HB:=n2_;clear n0_ n1_ n2_;obtain ⟨Ao25,co25,eo25⟩:=Kd.R_slice HO_7.out
        (first | subst eo25 | (injection eo25 with f1_ f2_ f3_;have f4_:=f1_.symm;have f5_:=f3_.symm;clear f1_ f2_ f3_;subst f4_;subst f5_))
        have p493 : 0≤(((rd_T30 y487 x29_2).f0) : Int):=of_decide_eq_true (by first | (with_reducible assumption) | assumption);have q493 : ((rd_T30 y487 x29_2).f0) < (x7_2.length : Int):=of_decide_eq_true (by first | (with_reducible assumption) | assumption);obtain ⟨ad493,e493,hx493_0⟩:=Kd.at_int (Kd.R_reads' HO_7.out).2.2 ((rd_T30 y487 x29_2).f0) p493 q493;cases e493
        replace p493:=eq_true p493;replace q493:=eq_true q493;have p20 : 0≤(((rd_T30 y487 x29_2).f0) : Int):=of_decide_eq_true (by first | (with_reducible assumption) | assumption);have q20 : (((rd_T30 y487 x29_2).f0) : Int) < ((x7_2.length : Int) : Int):=of_decide_eq_true (by first | (with_reducible assumption) | assumption)
        obtain ⟨go20,co20,eo20,gb20,gl20,cl20,HG20⟩:=Kd.R_form HO_7.out (by omega)
        (first | cases eo20 | (injection eo20 with ea_ en_ ec_;(first | subst ea_ | (injection ea_ with ea_;subst ea_));subst ec_;clear en_))
        have GB20:=Aside0.mk gb20;have GG20:=Aside0.mk HG20;clear gb20 gl20 HG20
        (first | simp only [add_plain] at hx493_0 | skip)
        obtain ⟨hx20_0,hf20_0⟩:=Kd.R_celln 0 HO_7.out (((rd_T30 y487 x29_2).f0) : Int) p20 q20;replace p20:=eq_true p20;replace q20:=eq_true q20;have HP26:=Kd.R_putn HO_7.out (((rd_T30 y487 x29_2).f0) : Int) (wrap64 ((rd x7_2 ((rd_T30 y487 x29_2).f0)) + ((rd_T30 y487 x29_2).f2)));rw [← Ny494.out] at HP26;have HQ26:=Aside0.mk HP26;clear HP26
        refine start_ (n:=10) (S:=fun w' => w'.cell? ⟨gb492,0,none⟩ = some (.int .i64 ((rd_T30 y487 x29_2).f0))∧w'.cell? ⟨gb492,1,none⟩ = some (.int .i64 ((rd_T30 y487 x29_2).f1))∧w'.cell? ⟨gb492,2,none⟩ = some (.int .i64 ((rd_T30 y487 x29_2).f2))∧w'.cell? ⟨gb492,3,none⟩ = some (.int .i64 ((rd_T30 y487 x29_2).f3))∧w'.cell? ⟨gb492,4,none⟩ = some (.int .i64 ((rd_T30 y487 x29_2).f4))∧w'.cell? ⟨go20,(((rd_T30 y487 x29_2).f0)).toNat,none⟩ = some (.int .i64 (rd x7_2 ((rd_T30 y487 x29_2).f0)))) (ds:=[9]) #[F0,F0,F0,F0,F0,F0,F0,F0,F0,F0] (by kernel_rfl) rfl rfl ⟨(blk_cell BK492.out 0).trans rfl,(blk_cell BK492.out 1).trans rfl,(blk_cell BK492.out 2).trans rfl,(blk_cell BK492.out 3).trans rfl,(blk_cell BK492.out 4).trans rfl,hx493_0⟩ (fun hHeld => ?_);refine with_tabW protection_Overcommit.tab10 protection_Overcommit.bits10 (fun HT_ HW_ => ?_)
        generalize w23.drew = w24 at HO_7 BK492 HB GG20 HQ26 hf20_0 hx20_0 hx493_0 hHeld ⊢;refine pure_ (i:=0) (N:=some 33) (v:=?_) (a':=?_) #[T0,F0,F0,F0,F0,F0,F0,F0,F0,F0] rfl rfl (any_of HT_.out (by kernel_rfl)) (fun _ _ _ h => h) (Or.inl ⟨by rfl,?_⟩) ?_ ?_
        rotate_left
        · intro w';go_simp;with_reducible rfl
        rotate_left
        · simp only [Act.put,z0_,z1_,z2_,i64_w,i32_w];rfl
        refine pure_ (i:=1) (N:=some 34) (v:=?_) (a':=?_) #[T0,T0,F0,F0,F0,F0,F0,F0,F0,F0] rfl rfl (any_of HT_.out (by kernel_rfl)) (fun _ _ _ h => h) (Or.inl ⟨by rfl,?_⟩) ?_ ?_
        rotate_left
        · intro w';go_simp;with_reducible rfl
        rotate_left
        · simp only [Act.put,z0_,z1_,z2_,i64_w,i32_w];rfl
        refine pure_ (i:=5) (N:=some 38) (v:=?_) (a':=?_) #[T0,T0,F0,F0,F0,T0,F0,F0,F0,F0] rfl rfl (any_of HT_.out (by kernel_rfl)) (fun _ _ _ h => h) (Or.inl ⟨by rfl,?_⟩) ?_ ?_
        rotate_left
        · intro w';go_simp;with_reducible rfl
        rotate_left
        · simp only [Act.put,z0_,z1_,z2_,i64_w,i32_w];rfl
        refine take_ (i:=2) (N:=some 35) (v:=?_) (a':=?_) #[T0,T0,T0,F0,F0,T0,F0,F0,F0,F0] rfl rfl (take_ofW HT_.out HW_.out (by kernel_rfl)) (fun _ _ _ h => h) (Or.inl ⟨by rfl,?_⟩) hHeld ?_ ?_
        rotate_left
        ·
         rintro w' ⟨s0,s1,s2,s3,s4,s5⟩
         go_simp;with_reducible rfl
        rotate_left
        · simp only [Act.put,z0_,z1_,z2_,i64_w,i32_w];rfl
        refine pure_ (i:=3) (N:=some 36) (v:=?_) (a':=?_) #[T0,T0,T0,T0,F0,T0,F0,F0,F0,F0] rfl rfl (any_of HT_.out (by kernel_rfl)) (fun _ _ _ h => h) (Or.inl ⟨by rfl,?_⟩) ?_ ?_
        rotate_left
        · intro w';go_simp;with_reducible rfl
        rotate_left
        · simp only [Act.put,z0_,z1_,z2_,i64_w,i32_w];rfl
        refine take_ (i:=4) (N:=some 37) (v:=?_) (a':=?_) #[T0,T0,T0,T0,T0,T0,F0,F0,F0,F0] rfl rfl (take_ofW HT_.out HW_.out (by kernel_rfl)) (fun _ _ _ h => h) (Or.inl ⟨by rfl,?_⟩) hHeld ?_ ?_
        rotate_left
        ·
         rintro w' ⟨s0,s1,s2,s3,s4,s5⟩
         go_simp;with_reducible rfl
        rotate_left
        · simp only [Act.put,z0_,z1_,z2_,i64_w,i32_w];rfl
        refine take_ (i:=6) (N:=some 39) (v:=?_) (a':=?_) #[T0,T0,T0,T0,T0,T0,T0,F0,F0,F0] rfl rfl (take_ofW HT_.out HW_.out (by kernel_rfl)) (fun _ _ _ h => h) (Or.inl ⟨by rfl,?_⟩) hHeld ?_ ?_
        rotate_left
        ·
         rintro w' ⟨s0,s1,s2,s3,s4,s5⟩
         go_simp;with_reducible rfl
        rotate_left
        · simp only [Act.put,z0_,z1_,z2_,i64_w,i32_w];rfl
        refine pure_ (i:=7) (N:=some 40) (v:=?_) (a':=?_) #[T0,T0,T0,T0,T0,T0,T0,T0,F0,F0] rfl rfl (any_of HT_.out (by kernel_rfl)) (fun _ _ _ h => h) (Or.inl ⟨by rfl,?_⟩) ?_ ?_
        rotate_left
        · intro w';go_simp;with_reducible rfl
        rotate_left
        · simp only [Act.put,z0_,z1_,z2_,i64_w,i32_w];rfl
        refine pure_ (i:=8) (N:=some 41) (v:=?_) (a':=?_) #[T0,T0,T0,T0,T0,T0,T0,T0,T0,F0] rfl rfl (any_of HT_.out (by kernel_rfl)) (fun _ _ _ h => h) (Or.inl ⟨by rfl,?_⟩) ?_ ?_
        rotate_left
        · intro w';go_simp;with_reducible rfl
        rotate_left
        · simp only [Act.put,z0_,z1_,z2_,i64_w,i32_w];rfl
        refine last_ (i:=9) (N:=none) #[T0,T0,T0,T0,T0,T0,T0,T0,T0,T0] rfl rfl (one_of HT_.out (by kernel_rfl)) (by decide) (fun K hK => ?_);refine skip_ (w1:=?_) (by rfl) rfl ?_ ?_
        rotate_left
        · go_simp;rfl
        refine hK.out _ _ ?_;clear hK K;refine done_ (done_of HT_.out (by kernel_rfl)) ?_
        try go_wp2
        go_roundg k2
        case measure => have:=HJ4.out;have:=HK2.out;omega
        case rel => exact ⟨(y494),(wrap64 (x29_2 + 1)),(by first | rfl | (simp;done) | (simp [*];done)),H',⟨by have:=HJ4.out;have:=HK2.out;omega⟩,⟨by (with_reducible repeat (first | apply Kd.R_alloc | apply Kd.R_drewN | apply Kd.R_drew));exact HQ26.out⟩,⟨by repeat (first | (with_reducible first | exact HB.out | apply b0_ | apply b1_ | apply b2_ | refine below_set ?_ GB20.out | refine below_set ?_ GE492.out) | exact HB.out)⟩⟩
    subst c8
    have H1 : (some (0,2)) = some (r1,r2):=by rw [if_pos rfl] at H;exact H
    clear H;have H:=H1;clear H1;simp only [Option.some.injEq,Prod.mk.injEq] at H;obtain ⟨rfl,rfl⟩:=H;go_wp2;go_ret2;exact ⟨by first | rfl | (simp [errW_none,errW_some] <;> rfl) | (simp [*,errW_none,errW_some] <;> rfl),by repeat (first | (with_reducible first | exact HB.out | apply b0_ | apply b1_ | apply b2_) | exact HB.out)⟩
end Go.Proofs.Ytnmenfkmndnoaaa.Pr
