-- Written by a program of this session (a changed copy of the kit's printer). Not trusted: Lean checks it.
import Derived.Test.YtnmenfkmndnoaaaM0
import Derived.Test.YtnmenfkmndnoaaaFestoversref39Leaving
import Derived.Test.YtnmenfkmndnoaaaFestoversref39Question
import Derived.Test.YtnmenfkmndnoaaaFestoversref39guarded
import Derived.Test.YtnmenfkmndnoaaaFestoversref39reason
namespace Go.Proofs.Ytnmenfkmndnoaaa.Pr
open Go.RowKit Go.Proofs.YtnmenfkmndnoaaaW.PrintWords Go.Proofs.YtnmenfkmndnoaaaW.PrintLast Go.Proofs.YtnmenfkmndnoaaaW.PrintMore
attribute [local go_sem] max2_int min2_int max_two min_two max_three min_three max_four min_four
set_option linter.unusedVariables false
set_option linter.unusedSimpArgs false
mutual
def estoversref39_Next.l0 : Nat→List (S34)→List (S30)→Int→Bool→List Int→Int→Int→Int→Option (Int)
 | 0,_,_,_,_,_,_,_,_ => none
 | k + 1,x0,x1,x2,x3,x9,x10,x11,x12 => if x12 < (x0.length : Int) then (if 0≤x12 then ((estoversref39_reason.f k ((rd_T34 x0 x12).f0) ((rd_T34 x0 x12).f1) ((rd_T34 x0 x12).f2) ((rd_T34 x0 x12).f3) ((rd_T34 x0 x12).f4) ((rd_T34 x0 x12).f5) ((rd_T34 x0 x12).f6) x1 x9 x2 x3).bind fun t323 => (if t323 = 0 then (if x11 < 0 then (estoversref39_Next.j1 k x0 x1 x2 x3 x9 x10 x11 x12 true) else (if 0≤x11 then (if x11 < (x0.length : Int) then (estoversref39_Next.j1 k x0 x1 x2 x3 x9 x10 x11 x12 (decide (((rd_T34 x0 x12).f2) < ((rd_T34 x0 x11).f2)))) else (none)) else (none))) else (estoversref39_Next.l0 k x0 x1 x2 x3 x9 x10 x11 (wrap64 (x12 + 1))))) else (none)) else (if x10≥0 then (some x10) else (some x11))
def estoversref39_Next.j1 : Nat→List (S34)→List (S30)→Int→Bool→List Int→Int→Int→Int→Bool→Option (Int)
 | 0,_,_,_,_,_,_,_,_,_ => none
 | k + 1,x0,x1,x2,x3,x9,x10,x11,x12,x51 => if x51 = true then (estoversref39_Next.j2 k x0 x1 x2 x3 x9 x10 x12 x12) else (estoversref39_Next.j2 k x0 x1 x2 x3 x9 x10 x11 x12)
def estoversref39_Next.j2 : Nat→List (S34)→List (S30)→Int→Bool→List Int→Int→Int→Int→Option (Int)
 | 0,_,_,_,_,_,_,_,_ => none
 | k + 1,x0,x1,x2,x3,x9,x10,x11,x12 => if 0≤x12 then (if x12 < (x0.length : Int) then ((estoversref39_guarded.f k ((rd_T34 x0 x12).f0) ((rd_T34 x0 x12).f1) ((rd_T34 x0 x12).f2) ((rd_T34 x0 x12).f3) ((rd_T34 x0 x12).f4) ((rd_T34 x0 x12).f5) ((rd_T34 x0 x12).f6) x1 x9 x2 true).bind fun t327 => (if t327 = true then (estoversref39_Next.j3 k x0 x1 x2 x3 x9 x10 x11 x12 false) else (if x10 < 0 then (estoversref39_Next.j3 k x0 x1 x2 x3 x9 x10 x11 x12 true) else (if 0≤x10 then (if x10 < (x0.length : Int) then (estoversref39_Next.j3 k x0 x1 x2 x3 x9 x10 x11 x12 (decide (((rd_T34 x0 x12).f2) < ((rd_T34 x0 x10).f2)))) else (none)) else (none))))) else (none)) else (none)
def estoversref39_Next.j3 : Nat→List (S34)→List (S30)→Int→Bool→List Int→Int→Int→Int→Bool→Option (Int)
 | 0,_,_,_,_,_,_,_,_,_ => none
 | k + 1,x0,x1,x2,x3,x9,x10,x11,x12,x78 => if x78 = true then (estoversref39_Next.l0 k x0 x1 x2 x3 x9 x12 x11 (wrap64 (x12 + 1))) else (estoversref39_Next.l0 k x0 x1 x2 x3 x9 x10 x11 (wrap64 (x12 + 1)))
end
def estoversref39_Next.f (k : Nat) (l0 : List (S34)) (l1 : List (S30)) (a2 : Int) (a3 : Bool) : Option (Int):=(estoversref39_Question.f k l0 l1 a2).bind fun t318 => (if t318 = true then ((estoversref39_Leaving.f k l0 l1).bind fun t319 => (estoversref39_Next.l0 k l0 l1 a2 a3 t319 (-1) (-1) 0)) else (some (-1)))
theorem estoversref39_Next.mono_l : ∀ k,(∀ y0 y1 y2 y3 y4 y5 y6 y7,LeO (estoversref39_Next.l0 k y0 y1 y2 y3 y4 y5 y6 y7) (estoversref39_Next.l0 (k + 1) y0 y1 y2 y3 y4 y5 y6 y7))∧(∀ y0 y1 y2 y3 y4 y5 y6 y7 y8,LeO (estoversref39_Next.j1 k y0 y1 y2 y3 y4 y5 y6 y7 y8) (estoversref39_Next.j1 (k + 1) y0 y1 y2 y3 y4 y5 y6 y7 y8))∧(∀ y0 y1 y2 y3 y4 y5 y6 y7,LeO (estoversref39_Next.j2 k y0 y1 y2 y3 y4 y5 y6 y7) (estoversref39_Next.j2 (k + 1) y0 y1 y2 y3 y4 y5 y6 y7))∧(∀ y0 y1 y2 y3 y4 y5 y6 y7 y8,LeO (estoversref39_Next.j3 k y0 y1 y2 y3 y4 y5 y6 y7 y8) (estoversref39_Next.j3 (k + 1) y0 y1 y2 y3 y4 y5 y6 y7 y8))
 | 0 => ⟨fun _ _ _ _ _ _ _ _ r h => by simp [estoversref39_Next.l0] at h,fun _ _ _ _ _ _ _ _ _ r h => by simp [estoversref39_Next.j1] at h,fun _ _ _ _ _ _ _ _ r h => by simp [estoversref39_Next.j2] at h,fun _ _ _ _ _ _ _ _ _ r h => by simp [estoversref39_Next.j3] at h⟩
 | k + 1 => by
  obtain ⟨ih0,ih1,ih2,ih3⟩:=estoversref39_Next.mono_l k;refine ⟨?_,?_,?_,?_⟩
  ·
   intro y0 y1 y2 y3 y4 y5 y6 y7
   unfold estoversref39_Next.l0
   repeat' first
    | (with_reducible exact ih0 _ _ _ _ _ _ _ _)
    | (with_reducible exact ih1 _ _ _ _ _ _ _ _ _)
    | (with_reducible exact ih2 _ _ _ _ _ _ _ _)
    | (with_reducible exact ih3 _ _ _ _ _ _ _ _ _)
    | (with_reducible exact estoversref39_Leaving.mono _ _ _)
    | (with_reducible exact estoversref39_Question.mono _ _ _ _)
    | (with_reducible exact estoversref39_guarded.mono _ _ _ _ _ _ _ _ _ _ _ _)
    | (with_reducible exact estoversref39_reason.mono _ _ _ _ _ _ _ _ _ _ _ _)
    | (with_reducible exact LeO.refl _)
    | (with_reducible exact LeO.none _)
    | (with_reducible refine LeO.ite ?_ ?_)
    | (with_reducible refine LeO.bind ?_ (fun _ => ?_))
    | exact ih0 _ _ _ _ _ _ _ _
    | exact ih1 _ _ _ _ _ _ _ _ _
    | exact ih2 _ _ _ _ _ _ _ _
    | exact ih3 _ _ _ _ _ _ _ _ _
    | exact estoversref39_Leaving.mono _ _ _
    | exact estoversref39_Question.mono _ _ _ _
    | exact estoversref39_guarded.mono _ _ _ _ _ _ _ _ _ _ _ _
    | exact estoversref39_reason.mono _ _ _ _ _ _ _ _ _ _ _ _
    | exact LeO.none _
    | refine LeO.ite ?_ ?_
    | refine LeO.bind ?_ (fun _ => ?_)
  ·
   intro y0 y1 y2 y3 y4 y5 y6 y7 y8
   unfold estoversref39_Next.j1
   repeat' first
    | (with_reducible exact ih0 _ _ _ _ _ _ _ _)
    | (with_reducible exact ih1 _ _ _ _ _ _ _ _ _)
    | (with_reducible exact ih2 _ _ _ _ _ _ _ _)
    | (with_reducible exact ih3 _ _ _ _ _ _ _ _ _)
    | (with_reducible exact estoversref39_Leaving.mono _ _ _)
    | (with_reducible exact estoversref39_Question.mono _ _ _ _)
    | (with_reducible exact estoversref39_guarded.mono _ _ _ _ _ _ _ _ _ _ _ _)
    | (with_reducible exact estoversref39_reason.mono _ _ _ _ _ _ _ _ _ _ _ _)
    | (with_reducible exact LeO.refl _)
    | (with_reducible exact LeO.none _)
    | (with_reducible refine LeO.ite ?_ ?_)
    | (with_reducible refine LeO.bind ?_ (fun _ => ?_))
    | exact ih0 _ _ _ _ _ _ _ _
    | exact ih1 _ _ _ _ _ _ _ _ _
    | exact ih2 _ _ _ _ _ _ _ _
    | exact ih3 _ _ _ _ _ _ _ _ _
    | exact estoversref39_Leaving.mono _ _ _
    | exact estoversref39_Question.mono _ _ _ _
    | exact estoversref39_guarded.mono _ _ _ _ _ _ _ _ _ _ _ _
    | exact estoversref39_reason.mono _ _ _ _ _ _ _ _ _ _ _ _
    | exact LeO.none _
    | refine LeO.ite ?_ ?_
    | refine LeO.bind ?_ (fun _ => ?_)
  ·
   intro y0 y1 y2 y3 y4 y5 y6 y7
   unfold estoversref39_Next.j2
   repeat' first
    | (with_reducible exact ih0 _ _ _ _ _ _ _ _)
    | (with_reducible exact ih1 _ _ _ _ _ _ _ _ _)
    | (with_reducible exact ih2 _ _ _ _ _ _ _ _)
    | (with_reducible exact ih3 _ _ _ _ _ _ _ _ _)
    | (with_reducible exact estoversref39_Leaving.mono _ _ _)
    | (with_reducible exact estoversref39_Question.mono _ _ _ _)
    | (with_reducible exact estoversref39_guarded.mono _ _ _ _ _ _ _ _ _ _ _ _)
    | (with_reducible exact estoversref39_reason.mono _ _ _ _ _ _ _ _ _ _ _ _)
    | (with_reducible exact LeO.refl _)
    | (with_reducible exact LeO.none _)
    | (with_reducible refine LeO.ite ?_ ?_)
    | (with_reducible refine LeO.bind ?_ (fun _ => ?_))
    | exact ih0 _ _ _ _ _ _ _ _
    | exact ih1 _ _ _ _ _ _ _ _ _
    | exact ih2 _ _ _ _ _ _ _ _
    | exact ih3 _ _ _ _ _ _ _ _ _
    | exact estoversref39_Leaving.mono _ _ _
    | exact estoversref39_Question.mono _ _ _ _
    | exact estoversref39_guarded.mono _ _ _ _ _ _ _ _ _ _ _ _
    | exact estoversref39_reason.mono _ _ _ _ _ _ _ _ _ _ _ _
    | exact LeO.none _
    | refine LeO.ite ?_ ?_
    | refine LeO.bind ?_ (fun _ => ?_)
  ·
   intro y0 y1 y2 y3 y4 y5 y6 y7 y8
   unfold estoversref39_Next.j3
   repeat' first
    | (with_reducible exact ih0 _ _ _ _ _ _ _ _)
    | (with_reducible exact ih1 _ _ _ _ _ _ _ _ _)
    | (with_reducible exact ih2 _ _ _ _ _ _ _ _)
    | (with_reducible exact ih3 _ _ _ _ _ _ _ _ _)
    | (with_reducible exact estoversref39_Leaving.mono _ _ _)
    | (with_reducible exact estoversref39_Question.mono _ _ _ _)
    | (with_reducible exact estoversref39_guarded.mono _ _ _ _ _ _ _ _ _ _ _ _)
    | (with_reducible exact estoversref39_reason.mono _ _ _ _ _ _ _ _ _ _ _ _)
    | (with_reducible exact LeO.refl _)
    | (with_reducible exact LeO.none _)
    | (with_reducible refine LeO.ite ?_ ?_)
    | (with_reducible refine LeO.bind ?_ (fun _ => ?_))
    | exact ih0 _ _ _ _ _ _ _ _
    | exact ih1 _ _ _ _ _ _ _ _ _
    | exact ih2 _ _ _ _ _ _ _ _
    | exact ih3 _ _ _ _ _ _ _ _ _
    | exact estoversref39_Leaving.mono _ _ _
    | exact estoversref39_Question.mono _ _ _ _
    | exact estoversref39_guarded.mono _ _ _ _ _ _ _ _ _ _ _ _
    | exact estoversref39_reason.mono _ _ _ _ _ _ _ _ _ _ _ _
    | exact LeO.none _
    | refine LeO.ite ?_ ?_
    | refine LeO.bind ?_ (fun _ => ?_)
theorem estoversref39_Next.mono : ∀ a0 a1 a2 a3 k,LeO (estoversref39_Next.f k a0 a1 a2 a3) (estoversref39_Next.f (k + 1) a0 a1 a2 a3):=by
 intro a0 a1 a2 a3 k;obtain ⟨ih0,ih1,ih2,ih3⟩:=estoversref39_Next.mono_l k
 unfold estoversref39_Next.f
 repeat' first
  | (with_reducible exact ih0 _ _ _ _ _ _ _ _)
  | (with_reducible exact ih1 _ _ _ _ _ _ _ _ _)
  | (with_reducible exact ih2 _ _ _ _ _ _ _ _)
  | (with_reducible exact ih3 _ _ _ _ _ _ _ _ _)
  | (with_reducible exact estoversref39_Leaving.mono _ _ _)
  | (with_reducible exact estoversref39_Question.mono _ _ _ _)
  | (with_reducible exact estoversref39_guarded.mono _ _ _ _ _ _ _ _ _ _ _ _)
  | (with_reducible exact estoversref39_reason.mono _ _ _ _ _ _ _ _ _ _ _ _)
  | (with_reducible exact LeO.refl _)
  | (with_reducible exact LeO.none _)
  | (with_reducible refine LeO.ite ?_ ?_)
  | (with_reducible refine LeO.bind ?_ (fun _ => ?_))
  | exact ih0 _ _ _ _ _ _ _ _
  | exact ih1 _ _ _ _ _ _ _ _ _
  | exact ih2 _ _ _ _ _ _ _ _
  | exact ih3 _ _ _ _ _ _ _ _ _
  | exact estoversref39_Leaving.mono _ _ _
  | exact estoversref39_Question.mono _ _ _ _
  | exact estoversref39_guarded.mono _ _ _ _ _ _ _ _ _ _ _ _
  | exact estoversref39_reason.mono _ _ _ _ _ _ _ _ _ _ _ _
  | exact LeO.none _
  | refine LeO.ite ?_ ?_
  | refine LeO.bind ?_ (fun _ => ?_)
def estoversref39_Next.T9 : Bool × List (List Nat × List Nat):=(true,[([],[]),([0],[0]),([1],[1]),([2],[2]),([2],[2]),([3,4,2],[2,3,4]),([5,2],[2,5]),([6,2],[2,6]),([2],[2]),([2],[2]),([8,9,2],[2,8,9]),([10,2],[2,10]),([11,2],[2,11]),([7,12,2],[2,7,12]),([2,13],[2,13])])
def estoversref39_Next.B9 : List Nat:=[0,1,3,7,7,31,63,127,7,7,775,1799,3847,8191,16383]
theorem estoversref39_Next.tab9 : rtab .any (opsOf Try.f37 9) = estoversref39_Next.T9:=by kernel_rfl
theorem estoversref39_Next.bits9 : waitsOk estoversref39_Next.T9.2 estoversref39_Next.B9 = true:=by kernel_rfl
def estoversref39_Next.T11 : Bool × List (List Nat × List Nat):=(true,[([],[]),([],[]),([0,1],[0,1]),([2],[2]),([],[]),([],[]),([],[]),([3,4,5,6],[3,4,5,6]),([7],[7]),([8,7],[8]),([9],[9]),([10,9],[9,10]),([11,9,9],[9,11]),([12],[12]),([12],[12]),([13,14,12],[12,13,14]),([15,12],[12,15]),([16,12],[12,16]),([12],[12]),([12],[12]),([18,19,12],[12,18,19]),([20,12],[12,20]),([21,12],[12,21]),([17,22,12],[12,17,22]),([12,23,9],[9,12,23]),([9,24],[9,24])])
def estoversref39_Next.B11 : List Nat:=[0,0,3,7,0,0,0,127,255,511,1023,2047,4095,8191,8191,32767,65535,131071,8191,8191,794623,1843199,3940351,8388607,16777215,33554431]
theorem estoversref39_Next.tab11 : rtab .any (opsOf Try.f37 11) = estoversref39_Next.T11:=by kernel_rfl
theorem estoversref39_Next.bits11 : waitsOk estoversref39_Next.T11.2 estoversref39_Next.B11 = true:=by kernel_rfl
set_option maxHeartbeats 8000000 in
set_option maxRecDepth 100000 in
theorem estoversref39_Next.calls (k : Nat) (A0 : Option Addr) (c0 : Nat) (l0 : List (S34)) (A1 : Option Addr) (c1 : Nat) (l1 : List (S30)) (a2 : Int) (a3 : Bool) (r : Int) (w : World) (hr0 : Kd.C k34 w A0 l0.length l0) (hc0 : l0.length≤c0) (hr1 : Kd.C k30 w A1 l1.length l1) (hc1 : l1.length≤c1) (h : estoversref39_Next.f k l0 l1 a2 a3 = some r) :
 Calls Try.prog 37 #[.slice A0 l0.length c0,.slice A1 l1.length c1,.int .i64 a2,.bool a3] w fun e w' => e = .returned (.int .i64 r)∧Below w.heap.size w w':=by
 have hu34:=Try.underlying34;have HR0:=Aside0.mk hr0;have HC0:=Aside0.mk hc0;clear hr0 hc0;have HR1:=Aside0.mk hr1;have HC1:=Aside0.mk hc1;clear hr1 hc1;have HB:=Aside0.mk (Below.refl w.heap.size w)
 have H : ((estoversref39_Question.f k l0 l1 a2).bind fun t318 => (if t318 = true then ((estoversref39_Leaving.f k l0 l1).bind fun t319 => (estoversref39_Next.l0 k l0 l1 a2 a3 t319 (-1) (-1) 0)) else (some (-1)))) = some r:=h;clear h;replace H:=Option.bind_eq_some_iff.mp H;obtain ⟨t318,A50,H⟩:=H
 replace H : (if t318 = true then ((estoversref39_Leaving.f k l0 l1).bind fun t319 => (estoversref39_Next.l0 k l0 l1 a2 a3 t319 (-1) (-1) 0)) else (some (-1))) = some r:=H;have A5:=Aside0.mk A50;clear A50;by_cases c6 : t318 = true
 rotate_left
 ·
  replace c6:=Bool.eq_false_iff.mpr c6;subst c6
  have H1 : (some (-1)) = some r:=by rw [if_neg (show ¬ (false = true) by decide)] at H;exact H
  clear H;have H:=H1;clear H1;obtain rfl:=Option.some.inj H
  go_enter Try.func37,Try.ntmps37
  go_wp2_with (first | ((with_reducible refine gate_callee (f:=63) rfl ?_);refine goesL_ (some 16) rfl rfl Try.func63 (by kernel_rfl) rfl #[.slice A0 l0.length c0,.slice A1 l1.length c1,.int .i64 a2] rfl (by (try simp only [z3_,z4_,z5_]);first | done | rfl | (simp only [z6_,z7_];rfl)) ?_;(with_reducible refine (estoversref39_Question.calls k _ _ l0 _ _ l1 a2 false _ ?side1 ?side2 ?side3 ?side4 A5.out).mono ?_);(case side1 => repeat (first | exact HR0.out | (with_reducible refine Kd.C_alloc ?_ _) | (with_reducible refine Kd.C_drewN ?_ _) | (with_reducible refine Kd.C_drew ?_)));(case side2 => exact HC0.out);(case side3 => repeat (first | exact HR1.out | (with_reducible refine Kd.C_alloc ?_ _) | (with_reducible refine Kd.C_drewN ?_ _) | (with_reducible refine Kd.C_drew ?_)));(case side4 => exact HC1.out);rintro e w42 ⟨rfl,hb⟩;refine ⟨_,rfl,?_⟩;have n0_:=Aside0.mk (below_step (by repeat (first | (with_reducible first | exact HB.out | apply b0_ | apply b1_ | apply b2_) | exact HB.out)) hb);clear HB;have HB:=n0_;clear n0_))
  go_ret;exact ⟨by first | rfl | (simp [errW_none,errW_some] <;> rfl) | (simp [*,errW_none,errW_some] <;> rfl),by repeat (first | (with_reducible first | exact HB.out | apply b0_ | apply b1_ | apply b2_) | exact HB.out)⟩
 subst c6
 have H1 : ((estoversref39_Leaving.f k l0 l1).bind fun t319 => (estoversref39_Next.l0 k l0 l1 a2 a3 t319 (-1) (-1) 0)) = some r:=by rw [if_pos rfl] at H;exact H
 clear H;have H:=H1;clear H1;replace H:=Option.bind_eq_some_iff.mp H;obtain ⟨t319,A70,H⟩:=H;replace H : (estoversref39_Next.l0 k l0 l1 a2 a3 t319 (-1) (-1) 0) = some r:=H;have A7:=Aside0.mk A70;clear A70;have H':=Aside0.mk H;clear H
 go_enter Try.func37,Try.ntmps37
 go_wp2_with (first | ((with_reducible refine gate_callee (f:=63) rfl ?_);refine goesL_ (some 16) rfl rfl Try.func63 (by kernel_rfl) rfl #[.slice A0 l0.length c0,.slice A1 l1.length c1,.int .i64 a2] rfl (by (try simp only [z3_,z4_,z5_]);first | done | rfl | (simp only [z6_,z7_];rfl)) ?_;(with_reducible refine (estoversref39_Question.calls k _ _ l0 _ _ l1 a2 true _ ?side1 ?side2 ?side3 ?side4 A5.out).mono ?_);(case side1 => repeat (first | exact HR0.out | (with_reducible refine Kd.C_alloc ?_ _) | (with_reducible refine Kd.C_drewN ?_ _) | (with_reducible refine Kd.C_drew ?_)));(case side2 => exact HC0.out);(case side3 => repeat (first | exact HR1.out | (with_reducible refine Kd.C_alloc ?_ _) | (with_reducible refine Kd.C_drewN ?_ _) | (with_reducible refine Kd.C_drew ?_)));(case side4 => exact HC1.out);rintro e w8 ⟨rfl,hb⟩;refine ⟨_,rfl,?_⟩;have n0_:=Aside0.mk (below_step (by repeat (first | (with_reducible first | exact HB.out | apply b0_ | apply b1_ | apply b2_) | exact HB.out)) hb);clear HB;have HB:=n0_;clear n0_) | ((with_reducible refine gate_callee (f:=65) rfl ?_);refine goesL_ (some 20) rfl rfl Try.func65 (by kernel_rfl) rfl #[.slice A0 l0.length c0,.slice A1 l1.length c1] rfl (by (try simp only [z3_,z4_,z5_]);first | done | rfl | (simp only [z6_,z7_];rfl)) ?_;(with_reducible refine (estoversref39_Leaving.calls k _ _ l0 _ _ l1 t319 _ ?side1 ?side2 ?side3 ?side4 A7.out).mono ?_);(case side1 => repeat (first | exact (Kd.C_below HR0.out HB.out) | (with_reducible refine Kd.C_alloc ?_ _) | (with_reducible refine Kd.C_drewN ?_ _) | (with_reducible refine Kd.C_drew ?_)));(case side2 => exact HC0.out);(case side3 => repeat (first | exact (Kd.C_below HR1.out HB.out) | (with_reducible refine Kd.C_alloc ?_ _) | (with_reducible refine Kd.C_drewN ?_ _) | (with_reducible refine Kd.C_drew ?_)));(case side4 => exact HC1.out);rintro e w9 ⟨v320,rfl,ho0,hb⟩;refine ⟨_,rfl,?_⟩;have n0_:=Aside0.mk (Kd.R_lower ho0 (below_size (by repeat (first | (with_reducible first | exact HB.out | apply b0_ | apply b1_ | apply b2_) | exact HB.out))));have n1_:=Aside0.mk (below_step (by repeat (first | (with_reducible first | exact HB.out | apply b0_ | apply b1_ | apply b2_) | exact HB.out)) hb);clear HB;have HO321:=n0_;have HB:=n1_;clear n0_ n1_;(try clear ho0)))
 go_loopg [10,11,12] k (fun kq v10 v11 v12 w' => ∃ (x10_1 : Int) (x11_1 : Int) (x12_1 : Int),v10 = .int .i64 x10_1∧v11 = .int .i64 x11_1∧v12 = .int .i64 x12_1∧Aside0 (estoversref39_Next.l0 kq l0 l1 a2 a3 t319 x10_1 x11_1 x12_1 = some r)∧Aside0 (kq≤k)∧Aside0 (Kd.R (Kd.int .i64) 3 w' w.heap.size (fun _ => True) v320 t319)∧Aside0 (Below w.heap.size w w'))
 case atStart => exact ⟨((-1)),((-1)),(0),(by first | rfl | (simp;done) | (simp [*];done)),(by first | rfl | (simp;done) | (simp [*];done)),(by first | rfl | (simp;done) | (simp [*];done)),H',⟨Nat.le_refl _⟩,⟨by (with_reducible repeat (first | apply Kd.R_alloc | apply Kd.R_drewN | apply Kd.R_drew));exact HO321.out⟩,⟨by repeat (first | (with_reducible first | exact HB.out | apply b0_ | apply b1_ | apply b2_) | exact HB.out)⟩⟩
 case round =>
  clear H';obtain ⟨x10_1,x11_1,x12_1,rfl,rfl,rfl,HA,HK1,HO_9,HB⟩:=hrel
  cases gk with
   | zero => exact absurd HA.out (by simp [estoversref39_Next.l0])
   | succ k1 =>
    have H:=HA.out;clear HA;simp only [estoversref39_Next.l0] at H;by_cases c10 : x12_1 < (l0.length : Int)
    rotate_left
    ·
     rw [if_neg c10] at H;have c10b0 : decide (x12_1 < (l0.length : Int)) = false:=decide_eq_false c10;clear c10;by_cases c41 : x10_1≥0
     rotate_left
     · rw [if_neg c41] at H;have c41b0 : decide (0≤x10_1) = false:=decide_eq_false c41;clear c41;obtain rfl:=Option.some.inj H;go_wp2;go_ret;exact ⟨by first | rfl | (simp [errW_none,errW_some] <;> rfl) | (simp [*,errW_none,errW_some] <;> rfl),by repeat (first | (with_reducible first | exact HB.out | apply b0_ | apply b1_ | apply b2_) | exact HB.out)⟩
     rw [if_pos c41] at H;have c41b0 : decide (0≤x10_1) = true:=decide_eq_true c41;clear c41;obtain rfl:=Option.some.inj H;go_wp2;go_ret;exact ⟨by first | rfl | (simp [errW_none,errW_some] <;> rfl) | (simp [*,errW_none,errW_some] <;> rfl),by repeat (first | (with_reducible first | exact HB.out | apply b0_ | apply b1_ | apply b2_) | exact HB.out)⟩
    rw [if_pos c10] at H;have c10b0 : decide (x12_1 < (l0.length : Int)) = true:=decide_eq_true c10;clear c10;by_cases c11 : 0≤x12_1
    rotate_left
    · rw [if_neg c11] at H;exact absurd H (by simp)
    rw [if_pos c11] at H;have c11b0 : decide (0≤x12_1) = true:=decide_eq_true c11;clear c11;replace H:=Option.bind_eq_some_iff.mp H;obtain ⟨t323,A120,H⟩:=H
    replace H : (if t323 = 0 then (if x11_1 < 0 then (estoversref39_Next.j1 k1 l0 l1 a2 a3 t319 x10_1 x11_1 x12_1 true) else (if 0≤x11_1 then (if x11_1 < (l0.length : Int) then (estoversref39_Next.j1 k1 l0 l1 a2 a3 t319 x10_1 x11_1 x12_1 (decide (((rd_T34 l0 x12_1).f2) < ((rd_T34 l0 x11_1).f2)))) else (none)) else (none))) else (estoversref39_Next.l0 k1 l0 l1 a2 a3 t319 x10_1 x11_1 (wrap64 (x12_1 + 1)))) = some r:=H
    have A12:=Aside0.mk A120;clear A120;by_cases c13 : t323 = 0
    rotate_left
    ·
     rw [if_neg c13] at H;have c13b0 : (t323 == 0) = false:=beq_eq_false_iff_ne.mpr c13;have c13b1 : (t323 != 0) = true:=bne_iff_ne.mpr c13;have H':=Aside0.mk H;clear H;have p322 : 0≤(x12_1 : Int):=of_decide_eq_true (by first | (with_reducible assumption) | assumption);have q322 : x12_1 < (l0.length : Int):=of_decide_eq_true (by first | (with_reducible assumption) | assumption)
     obtain ⟨ad322,e322,hx322_0,hx322_1,hx322_2,hx322_3,hx322_4,hx322_5,hx322_6⟩:=at_T34 HR0.out x12_1 p322 q322;cases e322;replace hx322_0:=(HB.out.cell (World.block_lt_of_cell? w _ hx322_0)).trans hx322_0;replace hx322_1:=(HB.out.cell (World.block_lt_of_cell? w _ hx322_1)).trans hx322_1;replace hx322_2:=(HB.out.cell (World.block_lt_of_cell? w _ hx322_2)).trans hx322_2
     replace hx322_3:=(HB.out.cell (World.block_lt_of_cell? w _ hx322_3)).trans hx322_3;replace hx322_4:=(HB.out.cell (World.block_lt_of_cell? w _ hx322_4)).trans hx322_4;replace hx322_5:=(HB.out.cell (World.block_lt_of_cell? w _ hx322_5)).trans hx322_5;replace hx322_6:=(HB.out.cell (World.block_lt_of_cell? w _ hx322_6)).trans hx322_6;replace p322:=eq_true p322
     replace q322:=eq_true q322;obtain ⟨Ao39,co39,eo39⟩:=Kd.R_slice HO_9.out;subst eo39
     go_wp2_with (first | ((with_reducible refine gate_callee (f:=64) rfl ?_);refine goesL_ (some 35) rfl rfl Try.func64 (by kernel_rfl) rfl #[.agg #[.int .i64 ((rd_T34 l0 x12_1).f0),.int .i64 ((rd_T34 l0 x12_1).f1),.int .i64 ((rd_T34 l0 x12_1).f2),.int .i64 ((rd_T34 l0 x12_1).f3),.int .i64 ((rd_T34 l0 x12_1).f4),.bool ((rd_T34 l0 x12_1).f5),.bool ((rd_T34 l0 x12_1).f6)],.slice A1 l1.length c1,.slice Ao39 t319.length co39,.int .i64 a2,.bool a3] rfl (by (try simp only [z3_,z4_,z5_]);first | done | rfl | (simp only [z6_,z7_];rfl)) ?_;(with_reducible refine (estoversref39_reason.calls k1 ((rd_T34 l0 x12_1).f0) ((rd_T34 l0 x12_1).f1) ((rd_T34 l0 x12_1).f2) ((rd_T34 l0 x12_1).f3) ((rd_T34 l0 x12_1).f4) ((rd_T34 l0 x12_1).f5) ((rd_T34 l0 x12_1).f6) _ _ l1 _ _ t319 a2 a3 t323 _ ?side1 ?side2 ?side3 ?side4 A12.out).mono ?_);(case side1 => repeat (first | exact (Kd.C_below HR1.out HB.out) | (with_reducible refine Kd.C_alloc ?_ _) | (with_reducible refine Kd.C_drewN ?_ _) | (with_reducible refine Kd.C_drew ?_)));(case side2 => exact HC1.out);(case side3 => repeat (first | exact (Kd.R_reads' HO_9.out).2.2 | (with_reducible refine Kd.C_alloc ?_ _) | (with_reducible refine Kd.C_drewN ?_ _) | (with_reducible refine Kd.C_drew ?_)));(case side4 => exact (Kd.R_reads' HO_9.out).2.1);rintro e w40 ⟨rfl,hb⟩;refine ⟨_,rfl,?_⟩;have n0_:=Aside0.mk (Kd.R_below (by (with_reducible repeat (first | apply Kd.R_alloc | apply Kd.R_drewN | apply Kd.R_drew));exact HO_9.out) hb);have n1_:=Aside0.mk (below_step (by repeat (first | (with_reducible first | exact HB.out | apply b0_ | apply b1_ | apply b2_) | exact HB.out)) hb);clear HO_9;clear HB;have HO_9:=n0_;have HB:=n1_;clear n0_ n1_))
     go_roundg k1
     case measure => have:=HK1.out;omega
     case rel => exact ⟨(x10_1),(x11_1),(wrap64 (x12_1 + 1)),(by first | rfl | (simp;done) | (simp [*];done)),(by first | rfl | (simp;done) | (simp [*];done)),(by first | rfl | (simp;done) | (simp [*];done)),H',⟨by have:=HK1.out;omega⟩,⟨by (with_reducible repeat (first | apply Kd.R_alloc | apply Kd.R_drewN | apply Kd.R_drew));exact HO_9.out⟩,⟨by repeat (first | (with_reducible first | exact HB.out | apply b0_ | apply b1_ | apply b2_) | exact HB.out)⟩⟩
    rw [if_pos c13] at H;have c13b0 : (t323 == 0) = true:=beq_iff_eq.mpr c13;have c13b1 : (t323 != 0) = false:=bne_eq_false_iff_eq.mpr c13;clear c13;have HC14:=Aside0.mk H;clear H;have p322 : 0≤(x12_1 : Int):=of_decide_eq_true (by first | (with_reducible assumption) | assumption)
    have q322 : x12_1 < (l0.length : Int):=of_decide_eq_true (by first | (with_reducible assumption) | assumption);obtain ⟨ad322,e322,hx322_0,hx322_1,hx322_2,hx322_3,hx322_4,hx322_5,hx322_6⟩:=at_T34 HR0.out x12_1 p322 q322;cases e322;replace hx322_0:=(HB.out.cell (World.block_lt_of_cell? w _ hx322_0)).trans hx322_0
    replace hx322_1:=(HB.out.cell (World.block_lt_of_cell? w _ hx322_1)).trans hx322_1;replace hx322_2:=(HB.out.cell (World.block_lt_of_cell? w _ hx322_2)).trans hx322_2;replace hx322_3:=(HB.out.cell (World.block_lt_of_cell? w _ hx322_3)).trans hx322_3;replace hx322_4:=(HB.out.cell (World.block_lt_of_cell? w _ hx322_4)).trans hx322_4
    replace hx322_5:=(HB.out.cell (World.block_lt_of_cell? w _ hx322_5)).trans hx322_5;replace hx322_6:=(HB.out.cell (World.block_lt_of_cell? w _ hx322_6)).trans hx322_6;replace p322:=eq_true p322;replace q322:=eq_true q322;obtain ⟨Ao15,co15,eo15⟩:=Kd.R_slice HO_9.out;subst eo15
    go_upto_region 9 with (first | ((with_reducible refine gate_callee (f:=64) rfl ?_);refine goesL_ (some 35) rfl rfl Try.func64 (by kernel_rfl) rfl #[.agg #[.int .i64 ((rd_T34 l0 x12_1).f0),.int .i64 ((rd_T34 l0 x12_1).f1),.int .i64 ((rd_T34 l0 x12_1).f2),.int .i64 ((rd_T34 l0 x12_1).f3),.int .i64 ((rd_T34 l0 x12_1).f4),.bool ((rd_T34 l0 x12_1).f5),.bool ((rd_T34 l0 x12_1).f6)],.slice A1 l1.length c1,.slice Ao15 t319.length co15,.int .i64 a2,.bool a3] rfl (by (try simp only [z3_,z4_,z5_]);first | done | rfl | (simp only [z6_,z7_];rfl)) ?_;(with_reducible refine (estoversref39_reason.calls k1 ((rd_T34 l0 x12_1).f0) ((rd_T34 l0 x12_1).f1) ((rd_T34 l0 x12_1).f2) ((rd_T34 l0 x12_1).f3) ((rd_T34 l0 x12_1).f4) ((rd_T34 l0 x12_1).f5) ((rd_T34 l0 x12_1).f6) _ _ l1 _ _ t319 a2 a3 t323 _ ?side1 ?side2 ?side3 ?side4 A12.out).mono ?_);(case side1 => repeat (first | exact (Kd.C_below HR1.out HB.out) | (with_reducible refine Kd.C_alloc ?_ _) | (with_reducible refine Kd.C_drewN ?_ _) | (with_reducible refine Kd.C_drew ?_)));(case side2 => exact HC1.out);(case side3 => repeat (first | exact (Kd.R_reads' HO_9.out).2.2 | (with_reducible refine Kd.C_alloc ?_ _) | (with_reducible refine Kd.C_drewN ?_ _) | (with_reducible refine Kd.C_drew ?_)));(case side4 => exact (Kd.R_reads' HO_9.out).2.1);rintro e w16 ⟨rfl,hb⟩;refine ⟨_,rfl,?_⟩;have n0_:=Aside0.mk (Kd.R_below (by (with_reducible repeat (first | apply Kd.R_alloc | apply Kd.R_drewN | apply Kd.R_drew));exact HO_9.out) hb);have n1_:=Aside0.mk (below_step (by repeat (first | (with_reducible first | exact HB.out | apply b0_ | apply b1_ | apply b2_) | exact HB.out)) hb);clear HO_9;clear HB;have HO_9:=n0_;have HB:=n1_;clear n0_ n1_))
    (try simp only [Act.put,List.setIfInBounds_toArray,List.set_cons_zero,List.set_cons_succ])
    go_cut [51] (fun v51 wc => ∃ (kq : Nat) (x51_13 : Bool),v51 = .bool x51_13∧Aside0 (estoversref39_Next.j1 kq l0 l1 a2 a3 t319 x10_1 x11_1 x12_1 x51_13 = some r)∧Aside0 (kq≤k1)∧Aside0 (Kd.R (Kd.int .i64) 3 wc w.heap.size (fun _ => True) (.slice Ao15 t319.length co15) t319)∧Aside0 (Below w.heap.size w wc))
    case first =>
     have H:=HC14.out;clear HC14;by_cases c17 : x11_1 < 0
     rotate_left
     ·
      rw [if_neg c17] at H;have c17b0 : decide (x11_1 < 0) = false:=decide_eq_false c17;clear c17
      (first | rw [c17b0] | (simp only [i64_w,i32_w];rw [c17b0]) | skip)
      by_cases c19 : 0≤x11_1
      rotate_left
      · rw [if_neg c19] at H;exact absurd H (by simp)
      rw [if_pos c19] at H;have c19b0 : decide (0≤x11_1) = true:=decide_eq_true c19;clear c19;by_cases c20 : x11_1 < (l0.length : Int)
      rotate_left
      · rw [if_neg c20] at H;exact absurd H (by simp)
      rw [if_pos c20] at H;have c20b0 : decide (x11_1 < (l0.length : Int)) = true:=decide_eq_true c20;clear c20;have H':=Aside0.mk H;clear H
      try go_wp2
      have n0_:=Aside0.mk (Kd.R_drew HO_9.out);have n1_:=Aside0.mk (b2_ HB.out);clear HO_9;clear HB;have HO_9:=n0_;have HB:=n1_;clear n0_ n1_;have p324 : 0≤(x12_1 : Int):=of_decide_eq_true (by first | (with_reducible assumption) | assumption);have q324 : x12_1 < (l0.length : Int):=of_decide_eq_true (by first | (with_reducible assumption) | assumption)
      obtain ⟨ad324,e324,hx324_0,hx324_1,hx324_2,hx324_3,hx324_4,hx324_5,hx324_6⟩:=at_T34 HR0.out x12_1 p324 q324;have hw324_6:=hx324_6;have hw324_5:=hx324_5;have hw324_4:=hx324_4;have hw324_3:=hx324_3;have hw324_2:=hx324_2;have hw324_1:=hx324_1;have hw324_0:=hx324_0;obtain rfl : ad322 = ad324:=(by injection e324)
      replace hx324_0:=(HB.out.cell (World.block_lt_of_cell? w _ hx324_0)).trans hx324_0;replace hx324_1:=(HB.out.cell (World.block_lt_of_cell? w _ hx324_1)).trans hx324_1;replace hx324_2:=(HB.out.cell (World.block_lt_of_cell? w _ hx324_2)).trans hx324_2;replace hx324_3:=(HB.out.cell (World.block_lt_of_cell? w _ hx324_3)).trans hx324_3
      replace hx324_4:=(HB.out.cell (World.block_lt_of_cell? w _ hx324_4)).trans hx324_4;replace hx324_5:=(HB.out.cell (World.block_lt_of_cell? w _ hx324_5)).trans hx324_5;replace hx324_6:=(HB.out.cell (World.block_lt_of_cell? w _ hx324_6)).trans hx324_6;replace p324:=eq_true p324;replace q324:=eq_true q324
      have p325 : 0≤(x11_1 : Int):=of_decide_eq_true (by first | (with_reducible assumption) | assumption);have q325 : x11_1 < (l0.length : Int):=of_decide_eq_true (by first | (with_reducible assumption) | assumption);obtain ⟨ad325,e325,hx325_0,hx325_1,hx325_2,hx325_3,hx325_4,hx325_5,hx325_6⟩:=at_T34 HR0.out x11_1 p325 q325;have hw325_6:=hx325_6;have hw325_5:=hx325_5
      have hw325_4:=hx325_4;have hw325_3:=hx325_3;have hw325_2:=hx325_2;have hw325_1:=hx325_1;have hw325_0:=hx325_0;obtain rfl : ad322 = ad325:=(by injection e325);replace hx325_0:=(HB.out.cell (World.block_lt_of_cell? w _ hx325_0)).trans hx325_0;replace hx325_1:=(HB.out.cell (World.block_lt_of_cell? w _ hx325_1)).trans hx325_1
      replace hx325_2:=(HB.out.cell (World.block_lt_of_cell? w _ hx325_2)).trans hx325_2;replace hx325_3:=(HB.out.cell (World.block_lt_of_cell? w _ hx325_3)).trans hx325_3;replace hx325_4:=(HB.out.cell (World.block_lt_of_cell? w _ hx325_4)).trans hx325_4;replace hx325_5:=(HB.out.cell (World.block_lt_of_cell? w _ hx325_5)).trans hx325_5
      replace hx325_6:=(HB.out.cell (World.block_lt_of_cell? w _ hx325_6)).trans hx325_6;replace p325:=eq_true p325;replace q325:=eq_true q325
      refine start_ (n:=15) (S:=fun w' => w'.cell? (ad322.add ((x12_1).toNat * 7)) = some (.int .i64 ((rd_T34 l0 x12_1).f0))∧w'.cell? ⟨(ad322.add ((x12_1).toNat * 7)).block,(ad322.add ((x12_1).toNat * 7)).off + 1,none⟩ = some (.int .i64 ((rd_T34 l0 x12_1).f1))∧w'.cell? ⟨(ad322.add ((x12_1).toNat * 7)).block,(ad322.add ((x12_1).toNat * 7)).off + 2,none⟩ = some (.int .i64 ((rd_T34 l0 x12_1).f2))∧w'.cell? ⟨(ad322.add ((x12_1).toNat * 7)).block,(ad322.add ((x12_1).toNat * 7)).off + 3,none⟩ = some (.int .i64 ((rd_T34 l0 x12_1).f3))∧w'.cell? ⟨(ad322.add ((x12_1).toNat * 7)).block,(ad322.add ((x12_1).toNat * 7)).off + 4,none⟩ = some (.int .i64 ((rd_T34 l0 x12_1).f4))∧w'.cell? ⟨(ad322.add ((x12_1).toNat * 7)).block,(ad322.add ((x12_1).toNat * 7)).off + 5,none⟩ = some (.bool ((rd_T34 l0 x12_1).f5))∧w'.cell? ⟨(ad322.add ((x12_1).toNat * 7)).block,(ad322.add ((x12_1).toNat * 7)).off + 6,none⟩ = some (.bool ((rd_T34 l0 x12_1).f6))∧w'.cell? (ad322.add ((x11_1).toNat * 7)) = some (.int .i64 ((rd_T34 l0 x11_1).f0))∧w'.cell? ⟨(ad322.add ((x11_1).toNat * 7)).block,(ad322.add ((x11_1).toNat * 7)).off + 1,none⟩ = some (.int .i64 ((rd_T34 l0 x11_1).f1))∧w'.cell? ⟨(ad322.add ((x11_1).toNat * 7)).block,(ad322.add ((x11_1).toNat * 7)).off + 2,none⟩ = some (.int .i64 ((rd_T34 l0 x11_1).f2))∧w'.cell? ⟨(ad322.add ((x11_1).toNat * 7)).block,(ad322.add ((x11_1).toNat * 7)).off + 3,none⟩ = some (.int .i64 ((rd_T34 l0 x11_1).f3))∧w'.cell? ⟨(ad322.add ((x11_1).toNat * 7)).block,(ad322.add ((x11_1).toNat * 7)).off + 4,none⟩ = some (.int .i64 ((rd_T34 l0 x11_1).f4))∧w'.cell? ⟨(ad322.add ((x11_1).toNat * 7)).block,(ad322.add ((x11_1).toNat * 7)).off + 5,none⟩ = some (.bool ((rd_T34 l0 x11_1).f5))∧w'.cell? ⟨(ad322.add ((x11_1).toNat * 7)).block,(ad322.add ((x11_1).toNat * 7)).off + 6,none⟩ = some (.bool ((rd_T34 l0 x11_1).f6))) (ds:=[]) #[F0,F0,F0,F0,F0,F0,F0,F0,F0,F0,F0,F0,F0,F0,F0] (by kernel_rfl) rfl rfl ⟨((HB.out.cell (World.block_lt_of_cell? w _ hw324_0)).trans hw324_0),((HB.out.cell (World.block_lt_of_cell? w _ hw324_1)).trans hw324_1),((HB.out.cell (World.block_lt_of_cell? w _ hw324_2)).trans hw324_2),((HB.out.cell (World.block_lt_of_cell? w _ hw324_3)).trans hw324_3),((HB.out.cell (World.block_lt_of_cell? w _ hw324_4)).trans hw324_4),((HB.out.cell (World.block_lt_of_cell? w _ hw324_5)).trans hw324_5),((HB.out.cell (World.block_lt_of_cell? w _ hw324_6)).trans hw324_6),((HB.out.cell (World.block_lt_of_cell? w _ hw325_0)).trans hw325_0),((HB.out.cell (World.block_lt_of_cell? w _ hw325_1)).trans hw325_1),((HB.out.cell (World.block_lt_of_cell? w _ hw325_2)).trans hw325_2),((HB.out.cell (World.block_lt_of_cell? w _ hw325_3)).trans hw325_3),((HB.out.cell (World.block_lt_of_cell? w _ hw325_4)).trans hw325_4),((HB.out.cell (World.block_lt_of_cell? w _ hw325_5)).trans hw325_5),((HB.out.cell (World.block_lt_of_cell? w _ hw325_6)).trans hw325_6)⟩ (fun hHeld => ?_);refine with_tabW estoversref39_Next.tab9 estoversref39_Next.bits9 (fun HT_ HW_ => ?_)
      generalize w16.drew = w21 at HO_9 HB hx324_0 hx324_1 hx324_2 hx324_3 hx324_4 hx324_5 hx324_6 hx325_0 hx325_1 hx325_2 hx325_3 hx325_4 hx325_5 hx325_6 hHeld ⊢;refine pure_ (i:=0) (N:=some 37) (v:=?_) (a':=?_) #[T0,F0,F0,F0,F0,F0,F0,F0,F0,F0,F0,F0,F0,F0,F0] rfl rfl (any_of HT_.out (by kernel_rfl)) (fun _ _ _ h => h) (Or.inl ⟨by rfl,?_⟩) ?_ ?_
      rotate_left
      · intro w';go_simp;with_reducible rfl
      rotate_left
      · simp only [Act.put,z0_,z1_,z2_,i64_w,i32_w];rfl
      refine pure_ (i:=1) (N:=some 38) (v:=?_) (a':=?_) #[T0,T0,F0,F0,F0,F0,F0,F0,F0,F0,F0,F0,F0,F0,F0] rfl rfl (any_of HT_.out (by kernel_rfl)) (fun _ _ _ h => h) (Or.inl ⟨by rfl,?_⟩) ?_ ?_
      rotate_left
      · intro w';go_simp;with_reducible rfl
      rotate_left
      · simp only [Act.put,z0_,z1_,z2_,i64_w,i32_w];rfl
      refine pure_ (i:=2) (N:=some 39) (v:=?_) (a':=?_) #[T0,T0,T0,F0,F0,F0,F0,F0,F0,F0,F0,F0,F0,F0,F0] rfl rfl (any_of HT_.out (by kernel_rfl)) (fun _ _ _ h => h) (Or.inl ⟨by rfl,?_⟩) ?_ ?_
      rotate_left
      · intro w';go_simp;with_reducible rfl
      rotate_left
      · simp only [Act.put,z0_,z1_,z2_,i64_w,i32_w];rfl
      refine pure_ (i:=3) (N:=some 40) (v:=?_) (a':=?_) #[T0,T0,T0,T0,F0,F0,F0,F0,F0,F0,F0,F0,F0,F0,F0] rfl rfl (any_of HT_.out (by kernel_rfl)) (fun _ _ _ h => h) (Or.inl ⟨by rfl,?_⟩) ?_ ?_
      rotate_left
      · intro w';go_simp;with_reducible rfl
      rotate_left
      · simp only [Act.put,z0_,z1_,z2_,i64_w,i32_w];rfl
      refine pure_ (i:=4) (N:=some 41) (v:=?_) (a':=?_) #[T0,T0,T0,T0,T0,F0,F0,F0,F0,F0,F0,F0,F0,F0,F0] rfl rfl (any_of HT_.out (by kernel_rfl)) (fun _ _ _ h => h) (Or.inl ⟨by rfl,?_⟩) ?_ ?_
      rotate_left
      · intro w';go_simp;with_reducible rfl
      rotate_left
      · simp only [Act.put,z0_,z1_,z2_,i64_w,i32_w];rfl
      refine pure_ (i:=5) (N:=some 42) (v:=?_) (a':=?_) #[T0,T0,T0,T0,T0,T0,F0,F0,F0,F0,F0,F0,F0,F0,F0] rfl rfl (any_of HT_.out (by kernel_rfl)) (fun _ _ _ h => h) (Or.inl ⟨by rfl,?_⟩) ?_ ?_
      rotate_left
      · intro w';go_simp;with_reducible rfl
      rotate_left
      · simp only [Act.put,z0_,z1_,z2_,i64_w,i32_w];rfl
      refine pure_ (i:=6) (N:=some 43) (v:=?_) (a':=?_) #[T0,T0,T0,T0,T0,T0,T0,F0,F0,F0,F0,F0,F0,F0,F0] rfl rfl (any_of HT_.out (by kernel_rfl)) (fun _ _ _ h => h) (Or.inl ⟨by rfl,?_⟩) ?_ ?_
      rotate_left
      · intro w';go_simp;with_reducible rfl
      rotate_left
      · simp only [Act.put,z0_,z1_,z2_,i64_w,i32_w];rfl
      refine pure_ (i:=8) (N:=some 45) (v:=?_) (a':=?_) #[T0,T0,T0,T0,T0,T0,T0,F0,T0,F0,F0,F0,F0,F0,F0] rfl rfl (any_of HT_.out (by kernel_rfl)) (fun _ _ _ h => h) (Or.inl ⟨by rfl,?_⟩) ?_ ?_
      rotate_left
      · intro w';go_simp;with_reducible rfl
      rotate_left
      · simp only [Act.put,z0_,z1_,z2_,i64_w,i32_w];rfl
      refine pure_ (i:=9) (N:=some 46) (v:=?_) (a':=?_) #[T0,T0,T0,T0,T0,T0,T0,F0,T0,T0,F0,F0,F0,F0,F0] rfl rfl (any_of HT_.out (by kernel_rfl)) (fun _ _ _ h => h) (Or.inl ⟨by rfl,?_⟩) ?_ ?_
      rotate_left
      · intro w';go_simp;with_reducible rfl
      rotate_left
      · simp only [Act.put,z0_,z1_,z2_,i64_w,i32_w];rfl
      refine pure_ (i:=10) (N:=some 47) (v:=?_) (a':=?_) #[T0,T0,T0,T0,T0,T0,T0,F0,T0,T0,T0,F0,F0,F0,F0] rfl rfl (any_of HT_.out (by kernel_rfl)) (fun _ _ _ h => h) (Or.inl ⟨by rfl,?_⟩) ?_ ?_
      rotate_left
      · intro w';go_simp;with_reducible rfl
      rotate_left
      · simp only [Act.put,z0_,z1_,z2_,i64_w,i32_w];rfl
      refine pure_ (i:=11) (N:=some 48) (v:=?_) (a':=?_) #[T0,T0,T0,T0,T0,T0,T0,F0,T0,T0,T0,T0,F0,F0,F0] rfl rfl (any_of HT_.out (by kernel_rfl)) (fun _ _ _ h => h) (Or.inl ⟨by rfl,?_⟩) ?_ ?_
      rotate_left
      · intro w';go_simp;with_reducible rfl
      rotate_left
      · simp only [Act.put,z0_,z1_,z2_,i64_w,i32_w];rfl
      refine take_ (i:=7) (N:=some 44) (v:=?_) (a':=?_) #[T0,T0,T0,T0,T0,T0,T0,T0,T0,T0,T0,T0,F0,F0,F0] rfl rfl (take_ofW HT_.out HW_.out (by kernel_rfl)) (fun _ _ _ h => h) (Or.inl ⟨by rfl,?_⟩) hHeld ?_ ?_
      rotate_left
      ·
       rintro w' ⟨s0,s1,s2,s3,s4,s5,s6,s7,s8,s9,s10,s11,s12,s13⟩
       go_simp;with_reducible rfl
      rotate_left
      · simp only [Act.put,z0_,z1_,z2_,i64_w,i32_w];rfl
      refine take_ (i:=12) (N:=some 49) (v:=?_) (a':=?_) #[T0,T0,T0,T0,T0,T0,T0,T0,T0,T0,T0,T0,T0,F0,F0] rfl rfl (take_ofW HT_.out HW_.out (by kernel_rfl)) (fun _ _ _ h => h) (Or.inl ⟨by rfl,?_⟩) hHeld ?_ ?_
      rotate_left
      ·
       rintro w' ⟨s0,s1,s2,s3,s4,s5,s6,s7,s8,s9,s10,s11,s12,s13⟩
       go_simp;with_reducible rfl
      rotate_left
      · simp only [Act.put,z0_,z1_,z2_,i64_w,i32_w];rfl
      refine pure_ (i:=13) (N:=some 50) (v:=?_) (a':=?_) #[T0,T0,T0,T0,T0,T0,T0,T0,T0,T0,T0,T0,T0,T0,F0] rfl rfl (any_of HT_.out (by kernel_rfl)) (fun _ _ _ h => h) (Or.inl ⟨by rfl,?_⟩) ?_ ?_
      rotate_left
      · intro w';go_simp;with_reducible rfl
      rotate_left
      · simp only [Act.put,z0_,z1_,z2_,i64_w,i32_w];rfl
      refine pure_ (i:=14) (N:=some 51) (v:=?_) (a':=?_) #[T0,T0,T0,T0,T0,T0,T0,T0,T0,T0,T0,T0,T0,T0,T0] rfl rfl (any_of HT_.out (by kernel_rfl)) (fun _ _ _ h => h) (Or.inl ⟨by rfl,?_⟩) ?_ ?_
      rotate_left
      · intro w';go_simp;with_reducible rfl
      rotate_left
      · simp only [Act.put,z0_,z1_,z2_,i64_w,i32_w];rfl
      refine done_ (done_of HT_.out (by kernel_rfl)) ?_
      try go_wp2
      go_meet
      case rel => exact ⟨_,(decide (((rd_T34 l0 x12_1).f2) < ((rd_T34 l0 x11_1).f2))),(by first | rfl | (simp;done) | (simp [*];done)),H',⟨by have:=HK1.out;first | omega | exact Nat.le_refl _⟩,⟨by (with_reducible repeat (first | apply Kd.R_alloc | apply Kd.R_drewN | apply Kd.R_drew));exact HO_9.out⟩,⟨by repeat (first | (with_reducible first | exact HB.out | apply b0_ | apply b1_ | apply b2_) | exact HB.out)⟩⟩
     rw [if_pos c17] at H;have c17b0 : decide (x11_1 < 0) = true:=decide_eq_true c17;clear c17
     (first | rw [c17b0] | (simp only [i64_w,i32_w];rw [c17b0]) | skip)
     have H':=Aside0.mk H;clear H
     try go_wp2
     have n0_:=Aside0.mk (Kd.R_drew HO_9.out);have n1_:=Aside0.mk (b2_ HB.out);clear HO_9;clear HB;have HO_9:=n0_;have HB:=n1_;clear n0_ n1_;refine start_ (n:=15) (S:=fun w' => True) (ds:=[]) #[F0,F0,F0,F0,F0,F0,F0,F0,F0,F0,F0,F0,F0,F0,F0] (by kernel_rfl) rfl rfl trivial (fun hHeld => ?_);refine with_tabW estoversref39_Next.tab9 estoversref39_Next.bits9 (fun HT_ HW_ => ?_)
     generalize w16.drew = w18 at HO_9 HB hHeld ⊢;refine pure_ (i:=0) (N:=some 37) (v:=?_) (a':=?_) #[T0,F0,F0,F0,F0,F0,F0,F0,F0,F0,F0,F0,F0,F0,F0] rfl rfl (any_of HT_.out (by kernel_rfl)) (fun _ _ _ h => h) (Or.inl ⟨by rfl,?_⟩) ?_ ?_
     rotate_left
     · intro w';go_simp;with_reducible rfl
     rotate_left
     · simp only [Act.put,z0_,z1_,z2_,i64_w,i32_w];rfl
     refine pure_ (i:=1) (N:=some 38) (v:=?_) (a':=?_) #[T0,T0,F0,F0,F0,F0,F0,F0,F0,F0,F0,F0,F0,F0,F0] rfl rfl (any_of HT_.out (by kernel_rfl)) (fun _ _ _ h => h) (Or.inl ⟨by rfl,?_⟩) ?_ ?_
     rotate_left
     · intro w';go_simp;with_reducible rfl
     rotate_left
     · simp only [Act.put,z0_,z1_,z2_,i64_w,i32_w];rfl
     refine pure_ (i:=2) (N:=some 39) (v:=?_) (a':=?_) #[T0,T0,T0,F0,F0,F0,F0,F0,F0,F0,F0,F0,F0,F0,F0] rfl rfl (any_of HT_.out (by kernel_rfl)) (fun _ _ _ h => h) (Or.inl ⟨by rfl,?_⟩) ?_ ?_
     rotate_left
     · intro w';go_simp;with_reducible rfl
     rotate_left
     · simp only [Act.put,z0_,z1_,z2_,i64_w,i32_w];rfl
     refine pure_ (i:=3) (N:=some 40) (v:=undef) (a':=?_) #[T0,T0,T0,T0,F0,F0,F0,F0,F0,F0,F0,F0,F0,F0,F0] rfl rfl (any_of HT_.out (by kernel_rfl)) (fun _ _ _ h => h) (Or.inr ⟨by rfl,rfl⟩) ?_ ?_
     rotate_left
     · simp only [Act.put,z0_,z1_,z2_,i64_w,i32_w];rfl
     refine pure_ (i:=4) (N:=some 41) (v:=undef) (a':=?_) #[T0,T0,T0,T0,T0,F0,F0,F0,F0,F0,F0,F0,F0,F0,F0] rfl rfl (any_of HT_.out (by kernel_rfl)) (fun _ _ _ h => h) (Or.inr ⟨by rfl,rfl⟩) ?_ ?_
     rotate_left
     · simp only [Act.put,z0_,z1_,z2_,i64_w,i32_w];rfl
     refine pure_ (i:=5) (N:=some 42) (v:=undef) (a':=?_) #[T0,T0,T0,T0,T0,T0,F0,F0,F0,F0,F0,F0,F0,F0,F0] rfl rfl (any_of HT_.out (by kernel_rfl)) (fun _ _ _ h => h) (Or.inr ⟨by rfl,rfl⟩) ?_ ?_
     rotate_left
     · simp only [Act.put,z0_,z1_,z2_,i64_w,i32_w];rfl
     refine pure_ (i:=6) (N:=some 43) (v:=undef) (a':=?_) #[T0,T0,T0,T0,T0,T0,T0,F0,F0,F0,F0,F0,F0,F0,F0] rfl rfl (any_of HT_.out (by kernel_rfl)) (fun _ _ _ h => h) (Or.inr ⟨by rfl,rfl⟩) ?_ ?_
     rotate_left
     · simp only [Act.put,z0_,z1_,z2_,i64_w,i32_w];rfl
     refine pure_ (i:=7) (N:=some 44) (v:=undef) (a':=?_) #[T0,T0,T0,T0,T0,T0,T0,T0,F0,F0,F0,F0,F0,F0,F0] rfl rfl (any_of HT_.out (by kernel_rfl)) (fun _ _ _ h => h) (Or.inr ⟨by rfl,rfl⟩) ?_ ?_
     rotate_left
     · simp only [Act.put,z0_,z1_,z2_,i64_w,i32_w];rfl
     refine pure_ (i:=8) (N:=some 45) (v:=undef) (a':=?_) #[T0,T0,T0,T0,T0,T0,T0,T0,T0,F0,F0,F0,F0,F0,F0] rfl rfl (any_of HT_.out (by kernel_rfl)) (fun _ _ _ h => h) (Or.inr ⟨by rfl,rfl⟩) ?_ ?_
     rotate_left
     · simp only [Act.put,z0_,z1_,z2_,i64_w,i32_w];rfl
     refine pure_ (i:=9) (N:=some 46) (v:=undef) (a':=?_) #[T0,T0,T0,T0,T0,T0,T0,T0,T0,T0,F0,F0,F0,F0,F0] rfl rfl (any_of HT_.out (by kernel_rfl)) (fun _ _ _ h => h) (Or.inr ⟨by rfl,rfl⟩) ?_ ?_
     rotate_left
     · simp only [Act.put,z0_,z1_,z2_,i64_w,i32_w];rfl
     refine pure_ (i:=10) (N:=some 47) (v:=undef) (a':=?_) #[T0,T0,T0,T0,T0,T0,T0,T0,T0,T0,T0,F0,F0,F0,F0] rfl rfl (any_of HT_.out (by kernel_rfl)) (fun _ _ _ h => h) (Or.inr ⟨by rfl,rfl⟩) ?_ ?_
     rotate_left
     · simp only [Act.put,z0_,z1_,z2_,i64_w,i32_w];rfl
     refine pure_ (i:=11) (N:=some 48) (v:=undef) (a':=?_) #[T0,T0,T0,T0,T0,T0,T0,T0,T0,T0,T0,T0,F0,F0,F0] rfl rfl (any_of HT_.out (by kernel_rfl)) (fun _ _ _ h => h) (Or.inr ⟨by rfl,rfl⟩) ?_ ?_
     rotate_left
     · simp only [Act.put,z0_,z1_,z2_,i64_w,i32_w];rfl
     refine pure_ (i:=12) (N:=some 49) (v:=undef) (a':=?_) #[T0,T0,T0,T0,T0,T0,T0,T0,T0,T0,T0,T0,T0,F0,F0] rfl rfl (any_of HT_.out (by kernel_rfl)) (fun _ _ _ h => h) (Or.inr ⟨by rfl,rfl⟩) ?_ ?_
     rotate_left
     · simp only [Act.put,z0_,z1_,z2_,i64_w,i32_w];rfl
     refine pure_ (i:=13) (N:=some 50) (v:=undef) (a':=?_) #[T0,T0,T0,T0,T0,T0,T0,T0,T0,T0,T0,T0,T0,T0,F0] rfl rfl (any_of HT_.out (by kernel_rfl)) (fun _ _ _ h => h) (Or.inr ⟨by rfl,rfl⟩) ?_ ?_
     rotate_left
     · simp only [Act.put,z0_,z1_,z2_,i64_w,i32_w];rfl
     refine pure_ (i:=14) (N:=some 51) (v:=?_) (a':=?_) #[T0,T0,T0,T0,T0,T0,T0,T0,T0,T0,T0,T0,T0,T0,T0] rfl rfl (any_of HT_.out (by kernel_rfl)) (fun _ _ _ h => h) (Or.inl ⟨by rfl,?_⟩) ?_ ?_
     rotate_left
     · intro w';go_simp;with_reducible rfl
     rotate_left
     · simp only [Act.put,z0_,z1_,z2_,i64_w,i32_w];rfl
     refine done_ (done_of HT_.out (by kernel_rfl)) ?_
     try go_wp2
     go_meet
     case rel => exact ⟨_,(true),(by first | rfl | (simp;done) | (simp [*];done)),H',⟨by have:=HK1.out;first | omega | exact Nat.le_refl _⟩,⟨by (with_reducible repeat (first | apply Kd.R_alloc | apply Kd.R_drewN | apply Kd.R_drew));exact HO_9.out⟩,⟨by repeat (first | (with_reducible first | exact HB.out | apply b0_ | apply b1_ | apply b2_) | exact HB.out)⟩⟩
    case rest =>
     clear HC14;obtain ⟨kq,x51_13,rfl,HA,HJ13,HO_9,HB⟩:=hcut
     cases kq with
      | zero => exact absurd HA.out (by simp [estoversref39_Next.j1])
      | succ kj13 =>
       have H:=HA.out;clear HA;simp only [estoversref39_Next.j1] at H;have HC22:=Aside0.mk H;clear H
       go_upto_if 51 with (fail)
       go_cut [11] (fun v11 wc => ∃ (kq : Nat) (x11_21 : Int),v11 = .int .i64 x11_21∧Aside0 (estoversref39_Next.j2 kq l0 l1 a2 a3 t319 x10_1 x11_21 x12_1 = some r)∧Aside0 (kq≤kj13)∧Aside0 (Kd.R (Kd.int .i64) 3 wc w.heap.size (fun _ => True) (.slice Ao15 t319.length co15) t319)∧Aside0 (Below w.heap.size w wc))
       case first =>
        have H:=HC22.out;clear HC22;by_cases c23 : x51_13 = true
        rotate_left
        ·
         replace c23:=Bool.eq_false_iff.mpr c23;subst c23
         have H1 : (estoversref39_Next.j2 kj13 l0 l1 a2 a3 t319 x10_1 x11_1 x12_1) = some r:=by rw [if_neg (show ¬ (false = true) by decide)] at H;exact H
         clear H;have H:=H1;clear H1;have H':=Aside0.mk H;clear H;go_wp2
         go_meet
         case rel => exact ⟨_,(x11_1),(by first | rfl | (simp;done) | (simp [*];done)),H',⟨by have:=HK1.out;have:=HJ13.out;first | omega | exact Nat.le_refl _⟩,⟨by (with_reducible repeat (first | apply Kd.R_alloc | apply Kd.R_drewN | apply Kd.R_drew));exact HO_9.out⟩,⟨by repeat (first | (with_reducible first | exact HB.out | apply b0_ | apply b1_ | apply b2_) | exact HB.out)⟩⟩
        subst c23
        have H1 : (estoversref39_Next.j2 kj13 l0 l1 a2 a3 t319 x10_1 x12_1 x12_1) = some r:=by rw [if_pos rfl] at H;exact H
        clear H;have H:=H1;clear H1;have H':=Aside0.mk H;clear H;go_wp2
        go_meet
        case rel => exact ⟨_,(x12_1),(by first | rfl | (simp;done) | (simp [*];done)),H',⟨by have:=HK1.out;have:=HJ13.out;first | omega | exact Nat.le_refl _⟩,⟨by (with_reducible repeat (first | apply Kd.R_alloc | apply Kd.R_drewN | apply Kd.R_drew));exact HO_9.out⟩,⟨by repeat (first | (with_reducible first | exact HB.out | apply b0_ | apply b1_ | apply b2_) | exact HB.out)⟩⟩
       case rest =>
        clear HC22;obtain ⟨kq,x11_21,rfl,HA,HJ21,HO_9,HB⟩:=hcut
        cases kq with
         | zero => exact absurd HA.out (by simp [estoversref39_Next.j2])
         | succ kj21 =>
          have H:=HA.out;clear HA;simp only [estoversref39_Next.j2] at H;have HC24:=Aside0.mk H;clear H
          go_upto_region 11 with (fail)
          go_cut [78] (fun v78 wc => ∃ (kq : Nat) (x78_23 : Bool),v78 = .bool x78_23∧Aside0 (estoversref39_Next.j3 kq l0 l1 a2 a3 t319 x10_1 x11_21 x12_1 x78_23 = some r)∧Aside0 (kq≤kj21)∧Aside0 (Kd.R (Kd.int .i64) 3 wc w.heap.size (fun _ => True) (.slice Ao15 t319.length co15) t319)∧Aside0 (Below w.heap.size w wc))
          case first =>
           have H:=HC24.out;clear HC24;by_cases c25 : 0≤x12_1
           rotate_left
           · rw [if_neg c25] at H;exact absurd H (by simp)
           rw [if_pos c25] at H;have c25b0 : decide (0≤x12_1) = true:=decide_eq_true c25;clear c25
           (first | rw [c25b0] | (simp only [i64_w,i32_w];rw [c25b0]) | skip)
           by_cases c26 : x12_1 < (l0.length : Int)
           rotate_left
           · rw [if_neg c26] at H;exact absurd H (by simp)
           rw [if_pos c26] at H;have c26b0 : decide (x12_1 < (l0.length : Int)) = true:=decide_eq_true c26;clear c26;replace H:=Option.bind_eq_some_iff.mp H;obtain ⟨t327,A270,H⟩:=H
           replace H : (if t327 = true then (estoversref39_Next.j3 kj21 l0 l1 a2 a3 t319 x10_1 x11_21 x12_1 false) else (if x10_1 < 0 then (estoversref39_Next.j3 kj21 l0 l1 a2 a3 t319 x10_1 x11_21 x12_1 true) else (if 0≤x10_1 then (if x10_1 < (l0.length : Int) then (estoversref39_Next.j3 kj21 l0 l1 a2 a3 t319 x10_1 x11_21 x12_1 (decide (((rd_T34 l0 x12_1).f2) < ((rd_T34 l0 x10_1).f2)))) else (none)) else (none)))) = some r:=H
           have A27:=Aside0.mk A270;clear A270;by_cases c28 : t327 = true
           rotate_left
           ·
            replace c28:=Bool.eq_false_iff.mpr c28;subst c28
            have H1 : (if x10_1 < 0 then (estoversref39_Next.j3 kj21 l0 l1 a2 a3 t319 x10_1 x11_21 x12_1 true) else (if 0≤x10_1 then (if x10_1 < (l0.length : Int) then (estoversref39_Next.j3 kj21 l0 l1 a2 a3 t319 x10_1 x11_21 x12_1 (decide (((rd_T34 l0 x12_1).f2) < ((rd_T34 l0 x10_1).f2)))) else (none)) else (none))) = some r:=by rw [if_neg (show ¬ (false = true) by decide)] at H;exact H
            clear H;have H:=H1;clear H1;by_cases c31 : x10_1 < 0
            rotate_left
            ·
             rw [if_neg c31] at H;have c31b0 : decide (x10_1 < 0) = false:=decide_eq_false c31;clear c31;by_cases c34 : 0≤x10_1
             rotate_left
             · rw [if_neg c34] at H;exact absurd H (by simp)
             rw [if_pos c34] at H;have c34b0 : decide (0≤x10_1) = true:=decide_eq_true c34;clear c34;by_cases c35 : x10_1 < (l0.length : Int)
             rotate_left
             · rw [if_neg c35] at H;exact absurd H (by simp)
             rw [if_pos c35] at H;have c35b0 : decide (x10_1 < (l0.length : Int)) = true:=decide_eq_true c35;clear c35;have H':=Aside0.mk H;clear H
             try go_wp2
             have n0_:=Aside0.mk (Kd.R_drew HO_9.out);have n1_:=Aside0.mk (b2_ HB.out);clear HO_9;clear HB;have HO_9:=n0_;have HB:=n1_;clear n0_ n1_;have p326 : 0≤(x12_1 : Int):=of_decide_eq_true (by first | (with_reducible assumption) | assumption);have q326 : x12_1 < (l0.length : Int):=of_decide_eq_true (by first | (with_reducible assumption) | assumption)
             obtain ⟨ad326,e326,hx326_0,hx326_1,hx326_2,hx326_3,hx326_4,hx326_5,hx326_6⟩:=at_T34 HR0.out x12_1 p326 q326;have hw326_6:=hx326_6;have hw326_5:=hx326_5;have hw326_4:=hx326_4;have hw326_3:=hx326_3;have hw326_2:=hx326_2;have hw326_1:=hx326_1;have hw326_0:=hx326_0;obtain rfl : ad322 = ad326:=(by injection e326)
             replace hx326_0:=(HB.out.cell (World.block_lt_of_cell? w _ hx326_0)).trans hx326_0;replace hx326_1:=(HB.out.cell (World.block_lt_of_cell? w _ hx326_1)).trans hx326_1;replace hx326_2:=(HB.out.cell (World.block_lt_of_cell? w _ hx326_2)).trans hx326_2;replace hx326_3:=(HB.out.cell (World.block_lt_of_cell? w _ hx326_3)).trans hx326_3
             replace hx326_4:=(HB.out.cell (World.block_lt_of_cell? w _ hx326_4)).trans hx326_4;replace hx326_5:=(HB.out.cell (World.block_lt_of_cell? w _ hx326_5)).trans hx326_5;replace hx326_6:=(HB.out.cell (World.block_lt_of_cell? w _ hx326_6)).trans hx326_6;replace p326:=eq_true p326;replace q326:=eq_true q326
             have p328 : 0≤(x12_1 : Int):=of_decide_eq_true (by first | (with_reducible assumption) | assumption);have q328 : x12_1 < (l0.length : Int):=of_decide_eq_true (by first | (with_reducible assumption) | assumption);obtain ⟨ad328,e328,hx328_0,hx328_1,hx328_2,hx328_3,hx328_4,hx328_5,hx328_6⟩:=at_T34 HR0.out x12_1 p328 q328;have hw328_6:=hx328_6;have hw328_5:=hx328_5
             have hw328_4:=hx328_4;have hw328_3:=hx328_3;have hw328_2:=hx328_2;have hw328_1:=hx328_1;have hw328_0:=hx328_0;obtain rfl : ad322 = ad328:=(by injection e328);replace hx328_0:=(HB.out.cell (World.block_lt_of_cell? w _ hx328_0)).trans hx328_0;replace hx328_1:=(HB.out.cell (World.block_lt_of_cell? w _ hx328_1)).trans hx328_1
             replace hx328_2:=(HB.out.cell (World.block_lt_of_cell? w _ hx328_2)).trans hx328_2;replace hx328_3:=(HB.out.cell (World.block_lt_of_cell? w _ hx328_3)).trans hx328_3;replace hx328_4:=(HB.out.cell (World.block_lt_of_cell? w _ hx328_4)).trans hx328_4;replace hx328_5:=(HB.out.cell (World.block_lt_of_cell? w _ hx328_5)).trans hx328_5
             replace hx328_6:=(HB.out.cell (World.block_lt_of_cell? w _ hx328_6)).trans hx328_6;replace p328:=eq_true p328;replace q328:=eq_true q328;have p329 : 0≤(x10_1 : Int):=of_decide_eq_true (by first | (with_reducible assumption) | assumption);have q329 : x10_1 < (l0.length : Int):=of_decide_eq_true (by first | (with_reducible assumption) | assumption)
             obtain ⟨ad329,e329,hx329_0,hx329_1,hx329_2,hx329_3,hx329_4,hx329_5,hx329_6⟩:=at_T34 HR0.out x10_1 p329 q329;have hw329_6:=hx329_6;have hw329_5:=hx329_5;have hw329_4:=hx329_4;have hw329_3:=hx329_3;have hw329_2:=hx329_2;have hw329_1:=hx329_1;have hw329_0:=hx329_0;obtain rfl : ad322 = ad329:=(by injection e329)
             replace hx329_0:=(HB.out.cell (World.block_lt_of_cell? w _ hx329_0)).trans hx329_0;replace hx329_1:=(HB.out.cell (World.block_lt_of_cell? w _ hx329_1)).trans hx329_1;replace hx329_2:=(HB.out.cell (World.block_lt_of_cell? w _ hx329_2)).trans hx329_2;replace hx329_3:=(HB.out.cell (World.block_lt_of_cell? w _ hx329_3)).trans hx329_3
             replace hx329_4:=(HB.out.cell (World.block_lt_of_cell? w _ hx329_4)).trans hx329_4;replace hx329_5:=(HB.out.cell (World.block_lt_of_cell? w _ hx329_5)).trans hx329_5;replace hx329_6:=(HB.out.cell (World.block_lt_of_cell? w _ hx329_6)).trans hx329_6;replace p329:=eq_true p329;replace q329:=eq_true q329
             refine start_ (n:=26) (S:=fun w' => w'.cell? (ad322.add ((x12_1).toNat * 7)) = some (.int .i64 ((rd_T34 l0 x12_1).f0))∧w'.cell? ⟨(ad322.add ((x12_1).toNat * 7)).block,(ad322.add ((x12_1).toNat * 7)).off + 1,none⟩ = some (.int .i64 ((rd_T34 l0 x12_1).f1))∧w'.cell? ⟨(ad322.add ((x12_1).toNat * 7)).block,(ad322.add ((x12_1).toNat * 7)).off + 2,none⟩ = some (.int .i64 ((rd_T34 l0 x12_1).f2))∧w'.cell? ⟨(ad322.add ((x12_1).toNat * 7)).block,(ad322.add ((x12_1).toNat * 7)).off + 3,none⟩ = some (.int .i64 ((rd_T34 l0 x12_1).f3))∧w'.cell? ⟨(ad322.add ((x12_1).toNat * 7)).block,(ad322.add ((x12_1).toNat * 7)).off + 4,none⟩ = some (.int .i64 ((rd_T34 l0 x12_1).f4))∧w'.cell? ⟨(ad322.add ((x12_1).toNat * 7)).block,(ad322.add ((x12_1).toNat * 7)).off + 5,none⟩ = some (.bool ((rd_T34 l0 x12_1).f5))∧w'.cell? ⟨(ad322.add ((x12_1).toNat * 7)).block,(ad322.add ((x12_1).toNat * 7)).off + 6,none⟩ = some (.bool ((rd_T34 l0 x12_1).f6))∧w'.cell? (ad322.add ((x12_1).toNat * 7)) = some (.int .i64 ((rd_T34 l0 x12_1).f0))∧w'.cell? ⟨(ad322.add ((x12_1).toNat * 7)).block,(ad322.add ((x12_1).toNat * 7)).off + 1,none⟩ = some (.int .i64 ((rd_T34 l0 x12_1).f1))∧w'.cell? ⟨(ad322.add ((x12_1).toNat * 7)).block,(ad322.add ((x12_1).toNat * 7)).off + 2,none⟩ = some (.int .i64 ((rd_T34 l0 x12_1).f2))∧w'.cell? ⟨(ad322.add ((x12_1).toNat * 7)).block,(ad322.add ((x12_1).toNat * 7)).off + 3,none⟩ = some (.int .i64 ((rd_T34 l0 x12_1).f3))∧w'.cell? ⟨(ad322.add ((x12_1).toNat * 7)).block,(ad322.add ((x12_1).toNat * 7)).off + 4,none⟩ = some (.int .i64 ((rd_T34 l0 x12_1).f4))∧w'.cell? ⟨(ad322.add ((x12_1).toNat * 7)).block,(ad322.add ((x12_1).toNat * 7)).off + 5,none⟩ = some (.bool ((rd_T34 l0 x12_1).f5))∧w'.cell? ⟨(ad322.add ((x12_1).toNat * 7)).block,(ad322.add ((x12_1).toNat * 7)).off + 6,none⟩ = some (.bool ((rd_T34 l0 x12_1).f6))∧w'.cell? (ad322.add ((x10_1).toNat * 7)) = some (.int .i64 ((rd_T34 l0 x10_1).f0))∧w'.cell? ⟨(ad322.add ((x10_1).toNat * 7)).block,(ad322.add ((x10_1).toNat * 7)).off + 1,none⟩ = some (.int .i64 ((rd_T34 l0 x10_1).f1))∧w'.cell? ⟨(ad322.add ((x10_1).toNat * 7)).block,(ad322.add ((x10_1).toNat * 7)).off + 2,none⟩ = some (.int .i64 ((rd_T34 l0 x10_1).f2))∧w'.cell? ⟨(ad322.add ((x10_1).toNat * 7)).block,(ad322.add ((x10_1).toNat * 7)).off + 3,none⟩ = some (.int .i64 ((rd_T34 l0 x10_1).f3))∧w'.cell? ⟨(ad322.add ((x10_1).toNat * 7)).block,(ad322.add ((x10_1).toNat * 7)).off + 4,none⟩ = some (.int .i64 ((rd_T34 l0 x10_1).f4))∧w'.cell? ⟨(ad322.add ((x10_1).toNat * 7)).block,(ad322.add ((x10_1).toNat * 7)).off + 5,none⟩ = some (.bool ((rd_T34 l0 x10_1).f5))∧w'.cell? ⟨(ad322.add ((x10_1).toNat * 7)).block,(ad322.add ((x10_1).toNat * 7)).off + 6,none⟩ = some (.bool ((rd_T34 l0 x10_1).f6))) (ds:=[]) #[F0,F0,F0,F0,F0,F0,F0,F0,F0,F0,F0,F0,F0,F0,F0,F0,F0,F0,F0,F0,F0,F0,F0,F0,F0,F0] (by kernel_rfl) rfl rfl ⟨((HB.out.cell (World.block_lt_of_cell? w _ hw326_0)).trans hw326_0),((HB.out.cell (World.block_lt_of_cell? w _ hw326_1)).trans hw326_1),((HB.out.cell (World.block_lt_of_cell? w _ hw326_2)).trans hw326_2),((HB.out.cell (World.block_lt_of_cell? w _ hw326_3)).trans hw326_3),((HB.out.cell (World.block_lt_of_cell? w _ hw326_4)).trans hw326_4),((HB.out.cell (World.block_lt_of_cell? w _ hw326_5)).trans hw326_5),((HB.out.cell (World.block_lt_of_cell? w _ hw326_6)).trans hw326_6),((HB.out.cell (World.block_lt_of_cell? w _ hw328_0)).trans hw328_0),((HB.out.cell (World.block_lt_of_cell? w _ hw328_1)).trans hw328_1),((HB.out.cell (World.block_lt_of_cell? w _ hw328_2)).trans hw328_2),((HB.out.cell (World.block_lt_of_cell? w _ hw328_3)).trans hw328_3),((HB.out.cell (World.block_lt_of_cell? w _ hw328_4)).trans hw328_4),((HB.out.cell (World.block_lt_of_cell? w _ hw328_5)).trans hw328_5),((HB.out.cell (World.block_lt_of_cell? w _ hw328_6)).trans hw328_6),((HB.out.cell (World.block_lt_of_cell? w _ hw329_0)).trans hw329_0),((HB.out.cell (World.block_lt_of_cell? w _ hw329_1)).trans hw329_1),((HB.out.cell (World.block_lt_of_cell? w _ hw329_2)).trans hw329_2),((HB.out.cell (World.block_lt_of_cell? w _ hw329_3)).trans hw329_3),((HB.out.cell (World.block_lt_of_cell? w _ hw329_4)).trans hw329_4),((HB.out.cell (World.block_lt_of_cell? w _ hw329_5)).trans hw329_5),((HB.out.cell (World.block_lt_of_cell? w _ hw329_6)).trans hw329_6)⟩ (fun hHeld => ?_);refine with_tabW estoversref39_Next.tab11 estoversref39_Next.bits11 (fun HT_ HW_ => ?_)
             generalize wc.drew = w36 at HO_9 HB hx326_0 hx326_1 hx326_2 hx326_3 hx326_4 hx326_5 hx326_6 hx328_0 hx328_1 hx328_2 hx328_3 hx328_4 hx328_5 hx328_6 hx329_0 hx329_1 hx329_2 hx329_3 hx329_4 hx329_5 hx329_6 hHeld ⊢
             refine pure_ (i:=0) (N:=some 53) (v:=?_) (a':=?_) #[T0,F0,F0,F0,F0,F0,F0,F0,F0,F0,F0,F0,F0,F0,F0,F0,F0,F0,F0,F0,F0,F0,F0,F0,F0,F0] rfl rfl (any_of HT_.out (by kernel_rfl)) (fun _ _ _ h => h) (Or.inl ⟨by rfl,?_⟩) ?_ ?_
             rotate_left
             · intro w';go_simp;with_reducible rfl
             rotate_left
             · simp only [Act.put,z0_,z1_,z2_,i64_w,i32_w];rfl
             refine pure_ (i:=1) (N:=some 54) (v:=?_) (a':=?_) #[T0,T0,F0,F0,F0,F0,F0,F0,F0,F0,F0,F0,F0,F0,F0,F0,F0,F0,F0,F0,F0,F0,F0,F0,F0,F0] rfl rfl (any_of HT_.out (by kernel_rfl)) (fun _ _ _ h => h) (Or.inl ⟨by rfl,?_⟩) ?_ ?_
             rotate_left
             · intro w';go_simp;with_reducible rfl
             rotate_left
             · simp only [Act.put,z0_,z1_,z2_,i64_w,i32_w];rfl
             refine pure_ (i:=2) (N:=some 55) (v:=?_) (a':=?_) #[T0,T0,T0,F0,F0,F0,F0,F0,F0,F0,F0,F0,F0,F0,F0,F0,F0,F0,F0,F0,F0,F0,F0,F0,F0,F0] rfl rfl (any_of HT_.out (by kernel_rfl)) (fun _ _ _ h => h) (Or.inl ⟨by rfl,?_⟩) ?_ ?_
             rotate_left
             · intro w';go_simp;with_reducible rfl
             rotate_left
             · simp only [Act.put,z0_,z1_,z2_,i64_w,i32_w];rfl
             refine pure_ (i:=4) (N:=some 57) (v:=?_) (a':=?_) #[T0,T0,T0,F0,T0,F0,F0,F0,F0,F0,F0,F0,F0,F0,F0,F0,F0,F0,F0,F0,F0,F0,F0,F0,F0,F0] rfl rfl (any_of HT_.out (by kernel_rfl)) (fun _ _ _ h => h) (Or.inl ⟨by rfl,?_⟩) ?_ ?_
             rotate_left
             · intro w';go_simp;with_reducible rfl
             rotate_left
             · simp only [Act.put,z0_,z1_,z2_,i64_w,i32_w];rfl
             refine pure_ (i:=5) (N:=some 58) (v:=?_) (a':=?_) #[T0,T0,T0,F0,T0,T0,F0,F0,F0,F0,F0,F0,F0,F0,F0,F0,F0,F0,F0,F0,F0,F0,F0,F0,F0,F0] rfl rfl (any_of HT_.out (by kernel_rfl)) (fun _ _ _ h => h) (Or.inl ⟨by rfl,?_⟩) ?_ ?_
             rotate_left
             · intro w';go_simp;with_reducible rfl
             rotate_left
             · simp only [Act.put,z0_,z1_,z2_,i64_w,i32_w];rfl
             refine pure_ (i:=6) (N:=some 59) (v:=?_) (a':=?_) #[T0,T0,T0,F0,T0,T0,T0,F0,F0,F0,F0,F0,F0,F0,F0,F0,F0,F0,F0,F0,F0,F0,F0,F0,F0,F0] rfl rfl (any_of HT_.out (by kernel_rfl)) (fun _ _ _ h => h) (Or.inl ⟨by rfl,?_⟩) ?_ ?_
             rotate_left
             · intro w';go_simp;with_reducible rfl
             rotate_left
             · simp only [Act.put,z0_,z1_,z2_,i64_w,i32_w];rfl
             refine take_ (i:=3) (N:=some 56) (v:=?_) (a':=?_) #[T0,T0,T0,T0,T0,T0,T0,F0,F0,F0,F0,F0,F0,F0,F0,F0,F0,F0,F0,F0,F0,F0,F0,F0,F0,F0] rfl rfl (take_ofW HT_.out HW_.out (by kernel_rfl)) (fun _ _ _ h => h) (Or.inl ⟨by rfl,?_⟩) hHeld ?_ ?_
             rotate_left
             ·
              rintro w' ⟨s0,s1,s2,s3,s4,s5,s6,s7,s8,s9,s10,s11,s12,s13,s14,s15,s16,s17,s18,s19,s20⟩
              go_simp;with_reducible rfl
             rotate_left
             · simp only [Act.put,z0_,z1_,z2_,i64_w,i32_w];rfl
             refine one_ (i:=7) (N:=some 60) #[T0,T0,T0,T0,T0,T0,T0,T0,F0,F0,F0,F0,F0,F0,F0,F0,F0,F0,F0,F0,F0,F0,F0,F0,F0,F0] rfl rfl (one_of HT_.out (by kernel_rfl)) (by decide) (fun K hK => ?_)
             refine goes_ Try.func66 (by kernel_rfl) rfl #[.agg #[.int .i64 ((rd_T34 l0 x12_1).f0),.int .i64 ((rd_T34 l0 x12_1).f1),.int .i64 ((rd_T34 l0 x12_1).f2),.int .i64 ((rd_T34 l0 x12_1).f3),.int .i64 ((rd_T34 l0 x12_1).f4),.bool ((rd_T34 l0 x12_1).f5),.bool ((rd_T34 l0 x12_1).f6)],.slice A1 l1.length c1,.slice Ao15 t319.length co15,.int .i64 a2,.bool true] (by rfl) rfl rfl (by (try simp only [z3_,z4_,z5_]);first | done | rfl | (simp only [z6_,z7_];rfl)) ?_
             with_reducible refine (estoversref39_guarded.calls kj21 ((rd_T34 l0 x12_1).f0) ((rd_T34 l0 x12_1).f1) ((rd_T34 l0 x12_1).f2) ((rd_T34 l0 x12_1).f3) ((rd_T34 l0 x12_1).f4) ((rd_T34 l0 x12_1).f5) ((rd_T34 l0 x12_1).f6) _ _ l1 _ _ t319 a2 true false _ ?side1 ?side2 ?side3 ?side4 A27.out).mono ?_
             (case side1 => repeat (first | exact (Kd.C_below HR1.out HB.out) | (with_reducible refine Kd.C_alloc ?_ _) | (with_reducible refine Kd.C_drewN ?_ _) | (with_reducible refine Kd.C_drew ?_)))
             (case side2 => exact HC1.out)
             (case side3 => repeat (first | exact (Kd.R_reads' HO_9.out).2.2 | (with_reducible refine Kd.C_alloc ?_ _) | (with_reducible refine Kd.C_drewN ?_ _) | (with_reducible refine Kd.C_drew ?_)))
             (case side4 => exact (Kd.R_reads' HO_9.out).2.1)
             rintro e w37 ⟨rfl,hb⟩
             refine ⟨_,rfl,?_⟩;have n0_:=Aside0.mk (Kd.R_below (by (with_reducible repeat (first | apply Kd.R_alloc | apply Kd.R_drewN | apply Kd.R_drew));exact HO_9.out) hb);have n1_:=Aside0.mk (below_step (by repeat (first | (with_reducible first | exact HB.out | apply b0_ | apply b1_ | apply b2_) | exact HB.out)) hb);clear HO_9;clear HB;have HO_9:=n0_;have HB:=n1_;clear n0_ n1_
             (try clear hb)
             (try clear hb2)
             (try clear hk)
             (try clear hi)
             refine hK.out _ _ ⟨((HB.out.cell (World.block_lt_of_cell? w _ hw326_0)).trans hw326_0),((HB.out.cell (World.block_lt_of_cell? w _ hw326_1)).trans hw326_1),((HB.out.cell (World.block_lt_of_cell? w _ hw326_2)).trans hw326_2),((HB.out.cell (World.block_lt_of_cell? w _ hw326_3)).trans hw326_3),((HB.out.cell (World.block_lt_of_cell? w _ hw326_4)).trans hw326_4),((HB.out.cell (World.block_lt_of_cell? w _ hw326_5)).trans hw326_5),((HB.out.cell (World.block_lt_of_cell? w _ hw326_6)).trans hw326_6),((HB.out.cell (World.block_lt_of_cell? w _ hw328_0)).trans hw328_0),((HB.out.cell (World.block_lt_of_cell? w _ hw328_1)).trans hw328_1),((HB.out.cell (World.block_lt_of_cell? w _ hw328_2)).trans hw328_2),((HB.out.cell (World.block_lt_of_cell? w _ hw328_3)).trans hw328_3),((HB.out.cell (World.block_lt_of_cell? w _ hw328_4)).trans hw328_4),((HB.out.cell (World.block_lt_of_cell? w _ hw328_5)).trans hw328_5),((HB.out.cell (World.block_lt_of_cell? w _ hw328_6)).trans hw328_6),((HB.out.cell (World.block_lt_of_cell? w _ hw329_0)).trans hw329_0),((HB.out.cell (World.block_lt_of_cell? w _ hw329_1)).trans hw329_1),((HB.out.cell (World.block_lt_of_cell? w _ hw329_2)).trans hw329_2),((HB.out.cell (World.block_lt_of_cell? w _ hw329_3)).trans hw329_3),((HB.out.cell (World.block_lt_of_cell? w _ hw329_4)).trans hw329_4),((HB.out.cell (World.block_lt_of_cell? w _ hw329_5)).trans hw329_5),((HB.out.cell (World.block_lt_of_cell? w _ hw329_6)).trans hw329_6)⟩ (fun hHeld => ?_)
             clear hK K;refine norm_ (a':=?_) ?_ ?_
             rotate_left
             ·
              show Act.put _ (some 60) _ = _
              simp only [Act.put,z0_,z1_,z2_,i64_w,i32_w];rfl
             refine pure_ (i:=8) (N:=some 61) (v:=?_) (a':=?_) #[T0,T0,T0,T0,T0,T0,T0,T0,T0,F0,F0,F0,F0,F0,F0,F0,F0,F0,F0,F0,F0,F0,F0,F0,F0,F0] rfl rfl (any_of HT_.out (by kernel_rfl)) (fun _ _ _ h => h) (Or.inl ⟨by rfl,?_⟩) ?_ ?_
             rotate_left
             · intro w';go_simp;with_reducible rfl
             rotate_left
             · simp only [Act.put,z0_,z1_,z2_,i64_w,i32_w];rfl
             refine pure_ (i:=9) (N:=some 62) (v:=?_) (a':=?_) #[T0,T0,T0,T0,T0,T0,T0,T0,T0,T0,F0,F0,F0,F0,F0,F0,F0,F0,F0,F0,F0,F0,F0,F0,F0,F0] rfl rfl (any_of HT_.out (by kernel_rfl)) (fun _ _ _ h => h) (Or.inl ⟨by rfl,?_⟩) ?_ ?_
             rotate_left
             · intro w';go_simp;with_reducible rfl
             rotate_left
             · simp only [Act.put,z0_,z1_,z2_,i64_w,i32_w];rfl
             refine pure_ (i:=10) (N:=some 63) (v:=?_) (a':=?_) #[T0,T0,T0,T0,T0,T0,T0,T0,T0,T0,T0,F0,F0,F0,F0,F0,F0,F0,F0,F0,F0,F0,F0,F0,F0,F0] rfl rfl (any_of HT_.out (by kernel_rfl)) (fun _ _ _ h => h) (Or.inl ⟨by rfl,?_⟩) ?_ ?_
             rotate_left
             · intro w';go_simp;with_reducible rfl
             rotate_left
             · simp only [Act.put,z0_,z1_,z2_,i64_w,i32_w];rfl
             refine pure_ (i:=11) (N:=some 64) (v:=?_) (a':=?_) #[T0,T0,T0,T0,T0,T0,T0,T0,T0,T0,T0,T0,F0,F0,F0,F0,F0,F0,F0,F0,F0,F0,F0,F0,F0,F0] rfl rfl (any_of HT_.out (by kernel_rfl)) (fun _ _ _ h => h) (Or.inl ⟨by rfl,?_⟩) ?_ ?_
             rotate_left
             · intro w';go_simp;with_reducible rfl
             rotate_left
             · simp only [Act.put,z0_,z1_,z2_,i64_w,i32_w];rfl
             refine pure_ (i:=12) (N:=some 65) (v:=?_) (a':=?_) #[T0,T0,T0,T0,T0,T0,T0,T0,T0,T0,T0,T0,T0,F0,F0,F0,F0,F0,F0,F0,F0,F0,F0,F0,F0,F0] rfl rfl (any_of HT_.out (by kernel_rfl)) (fun _ _ _ h => h) (Or.inl ⟨by rfl,?_⟩) ?_ ?_
             rotate_left
             · intro w';go_simp;with_reducible rfl
             rotate_left
             · simp only [Act.put,z0_,z1_,z2_,i64_w,i32_w];rfl
             refine pure_ (i:=13) (N:=some 66) (v:=?_) (a':=?_) #[T0,T0,T0,T0,T0,T0,T0,T0,T0,T0,T0,T0,T0,T0,F0,F0,F0,F0,F0,F0,F0,F0,F0,F0,F0,F0] rfl rfl (any_of HT_.out (by kernel_rfl)) (fun _ _ _ h => h) (Or.inl ⟨by rfl,?_⟩) ?_ ?_
             rotate_left
             · intro w';go_simp;with_reducible rfl
             rotate_left
             · simp only [Act.put,z0_,z1_,z2_,i64_w,i32_w];rfl
             refine pure_ (i:=14) (N:=some 67) (v:=?_) (a':=?_) #[T0,T0,T0,T0,T0,T0,T0,T0,T0,T0,T0,T0,T0,T0,T0,F0,F0,F0,F0,F0,F0,F0,F0,F0,F0,F0] rfl rfl (any_of HT_.out (by kernel_rfl)) (fun _ _ _ h => h) (Or.inl ⟨by rfl,?_⟩) ?_ ?_
             rotate_left
             · intro w';go_simp;with_reducible rfl
             rotate_left
             · simp only [Act.put,z0_,z1_,z2_,i64_w,i32_w];rfl
             refine pure_ (i:=15) (N:=some 68) (v:=?_) (a':=?_) #[T0,T0,T0,T0,T0,T0,T0,T0,T0,T0,T0,T0,T0,T0,T0,T0,F0,F0,F0,F0,F0,F0,F0,F0,F0,F0] rfl rfl (any_of HT_.out (by kernel_rfl)) (fun _ _ _ h => h) (Or.inl ⟨by rfl,?_⟩) ?_ ?_
             rotate_left
             · intro w';go_simp;with_reducible rfl
             rotate_left
             · simp only [Act.put,z0_,z1_,z2_,i64_w,i32_w];rfl
             refine pure_ (i:=16) (N:=some 69) (v:=?_) (a':=?_) #[T0,T0,T0,T0,T0,T0,T0,T0,T0,T0,T0,T0,T0,T0,T0,T0,T0,F0,F0,F0,F0,F0,F0,F0,F0,F0] rfl rfl (any_of HT_.out (by kernel_rfl)) (fun _ _ _ h => h) (Or.inl ⟨by rfl,?_⟩) ?_ ?_
             rotate_left
             · intro w';go_simp;with_reducible rfl
             rotate_left
             · simp only [Act.put,z0_,z1_,z2_,i64_w,i32_w];rfl
             refine pure_ (i:=18) (N:=some 71) (v:=?_) (a':=?_) #[T0,T0,T0,T0,T0,T0,T0,T0,T0,T0,T0,T0,T0,T0,T0,T0,T0,F0,T0,F0,F0,F0,F0,F0,F0,F0] rfl rfl (any_of HT_.out (by kernel_rfl)) (fun _ _ _ h => h) (Or.inl ⟨by rfl,?_⟩) ?_ ?_
             rotate_left
             · intro w';go_simp;with_reducible rfl
             rotate_left
             · simp only [Act.put,z0_,z1_,z2_,i64_w,i32_w];rfl
             refine pure_ (i:=19) (N:=some 72) (v:=?_) (a':=?_) #[T0,T0,T0,T0,T0,T0,T0,T0,T0,T0,T0,T0,T0,T0,T0,T0,T0,F0,T0,T0,F0,F0,F0,F0,F0,F0] rfl rfl (any_of HT_.out (by kernel_rfl)) (fun _ _ _ h => h) (Or.inl ⟨by rfl,?_⟩) ?_ ?_
             rotate_left
             · intro w';go_simp;with_reducible rfl
             rotate_left
             · simp only [Act.put,z0_,z1_,z2_,i64_w,i32_w];rfl
             refine pure_ (i:=20) (N:=some 73) (v:=?_) (a':=?_) #[T0,T0,T0,T0,T0,T0,T0,T0,T0,T0,T0,T0,T0,T0,T0,T0,T0,F0,T0,T0,T0,F0,F0,F0,F0,F0] rfl rfl (any_of HT_.out (by kernel_rfl)) (fun _ _ _ h => h) (Or.inl ⟨by rfl,?_⟩) ?_ ?_
             rotate_left
             · intro w';go_simp;with_reducible rfl
             rotate_left
             · simp only [Act.put,z0_,z1_,z2_,i64_w,i32_w];rfl
             refine pure_ (i:=21) (N:=some 74) (v:=?_) (a':=?_) #[T0,T0,T0,T0,T0,T0,T0,T0,T0,T0,T0,T0,T0,T0,T0,T0,T0,F0,T0,T0,T0,T0,F0,F0,F0,F0] rfl rfl (any_of HT_.out (by kernel_rfl)) (fun _ _ _ h => h) (Or.inl ⟨by rfl,?_⟩) ?_ ?_
             rotate_left
             · intro w';go_simp;with_reducible rfl
             rotate_left
             · simp only [Act.put,z0_,z1_,z2_,i64_w,i32_w];rfl
             refine take_ (i:=17) (N:=some 70) (v:=?_) (a':=?_) #[T0,T0,T0,T0,T0,T0,T0,T0,T0,T0,T0,T0,T0,T0,T0,T0,T0,T0,T0,T0,T0,T0,F0,F0,F0,F0] rfl rfl (take_ofW HT_.out HW_.out (by kernel_rfl)) (fun _ _ _ h => h) (Or.inl ⟨by rfl,?_⟩) hHeld ?_ ?_
             rotate_left
             ·
              rintro w' ⟨s0,s1,s2,s3,s4,s5,s6,s7,s8,s9,s10,s11,s12,s13,s14,s15,s16,s17,s18,s19,s20⟩
              go_simp;with_reducible rfl
             rotate_left
             · simp only [Act.put,z0_,z1_,z2_,i64_w,i32_w];rfl
             refine take_ (i:=22) (N:=some 75) (v:=?_) (a':=?_) #[T0,T0,T0,T0,T0,T0,T0,T0,T0,T0,T0,T0,T0,T0,T0,T0,T0,T0,T0,T0,T0,T0,T0,F0,F0,F0] rfl rfl (take_ofW HT_.out HW_.out (by kernel_rfl)) (fun _ _ _ h => h) (Or.inl ⟨by rfl,?_⟩) hHeld ?_ ?_
             rotate_left
             ·
              rintro w' ⟨s0,s1,s2,s3,s4,s5,s6,s7,s8,s9,s10,s11,s12,s13,s14,s15,s16,s17,s18,s19,s20⟩
              go_simp;with_reducible rfl
             rotate_left
             · simp only [Act.put,z0_,z1_,z2_,i64_w,i32_w];rfl
             refine pure_ (i:=23) (N:=some 76) (v:=?_) (a':=?_) #[T0,T0,T0,T0,T0,T0,T0,T0,T0,T0,T0,T0,T0,T0,T0,T0,T0,T0,T0,T0,T0,T0,T0,T0,F0,F0] rfl rfl (any_of HT_.out (by kernel_rfl)) (fun _ _ _ h => h) (Or.inl ⟨by rfl,?_⟩) ?_ ?_
             rotate_left
             · intro w';go_simp;with_reducible rfl
             rotate_left
             · simp only [Act.put,z0_,z1_,z2_,i64_w,i32_w];rfl
             refine pure_ (i:=24) (N:=some 77) (v:=?_) (a':=?_) #[T0,T0,T0,T0,T0,T0,T0,T0,T0,T0,T0,T0,T0,T0,T0,T0,T0,T0,T0,T0,T0,T0,T0,T0,T0,F0] rfl rfl (any_of HT_.out (by kernel_rfl)) (fun _ _ _ h => h) (Or.inl ⟨by rfl,?_⟩) ?_ ?_
             rotate_left
             · intro w';go_simp;with_reducible rfl
             rotate_left
             · simp only [Act.put,z0_,z1_,z2_,i64_w,i32_w];rfl
             refine pure_ (i:=25) (N:=some 78) (v:=?_) (a':=?_) #[T0,T0,T0,T0,T0,T0,T0,T0,T0,T0,T0,T0,T0,T0,T0,T0,T0,T0,T0,T0,T0,T0,T0,T0,T0,T0] rfl rfl (any_of HT_.out (by kernel_rfl)) (fun _ _ _ h => h) (Or.inl ⟨by rfl,?_⟩) ?_ ?_
             rotate_left
             · intro w';go_simp;with_reducible rfl
             rotate_left
             · simp only [Act.put,z0_,z1_,z2_,i64_w,i32_w];rfl
             refine done_ (done_of HT_.out (by kernel_rfl)) ?_
             try go_wp2
             go_meet
             case rel => exact ⟨_,(decide (((rd_T34 l0 x12_1).f2) < ((rd_T34 l0 x10_1).f2))),(by first | rfl | (simp;done) | (simp [*];done)),H',⟨by have:=HK1.out;have:=HJ13.out;have:=HJ21.out;first | omega | exact Nat.le_refl _⟩,⟨by (with_reducible repeat (first | apply Kd.R_alloc | apply Kd.R_drewN | apply Kd.R_drew));exact HO_9.out⟩,⟨by repeat (first | (with_reducible first | exact HB.out | apply b0_ | apply b1_ | apply b2_) | exact HB.out)⟩⟩
            rw [if_pos c31] at H;have c31b0 : decide (x10_1 < 0) = true:=decide_eq_true c31;clear c31;have H':=Aside0.mk H;clear H
            try go_wp2
            have n0_:=Aside0.mk (Kd.R_drew HO_9.out);have n1_:=Aside0.mk (b2_ HB.out);clear HO_9;clear HB;have HO_9:=n0_;have HB:=n1_;clear n0_ n1_;have p326 : 0≤(x12_1 : Int):=of_decide_eq_true (by first | (with_reducible assumption) | assumption);have q326 : x12_1 < (l0.length : Int):=of_decide_eq_true (by first | (with_reducible assumption) | assumption)
            obtain ⟨ad326,e326,hx326_0,hx326_1,hx326_2,hx326_3,hx326_4,hx326_5,hx326_6⟩:=at_T34 HR0.out x12_1 p326 q326;have hw326_6:=hx326_6;have hw326_5:=hx326_5;have hw326_4:=hx326_4;have hw326_3:=hx326_3;have hw326_2:=hx326_2;have hw326_1:=hx326_1;have hw326_0:=hx326_0;obtain rfl : ad322 = ad326:=(by injection e326)
            replace hx326_0:=(HB.out.cell (World.block_lt_of_cell? w _ hx326_0)).trans hx326_0;replace hx326_1:=(HB.out.cell (World.block_lt_of_cell? w _ hx326_1)).trans hx326_1;replace hx326_2:=(HB.out.cell (World.block_lt_of_cell? w _ hx326_2)).trans hx326_2;replace hx326_3:=(HB.out.cell (World.block_lt_of_cell? w _ hx326_3)).trans hx326_3
            replace hx326_4:=(HB.out.cell (World.block_lt_of_cell? w _ hx326_4)).trans hx326_4;replace hx326_5:=(HB.out.cell (World.block_lt_of_cell? w _ hx326_5)).trans hx326_5;replace hx326_6:=(HB.out.cell (World.block_lt_of_cell? w _ hx326_6)).trans hx326_6;replace p326:=eq_true p326;replace q326:=eq_true q326
            refine start_ (n:=26) (S:=fun w' => w'.cell? (ad322.add ((x12_1).toNat * 7)) = some (.int .i64 ((rd_T34 l0 x12_1).f0))∧w'.cell? ⟨(ad322.add ((x12_1).toNat * 7)).block,(ad322.add ((x12_1).toNat * 7)).off + 1,none⟩ = some (.int .i64 ((rd_T34 l0 x12_1).f1))∧w'.cell? ⟨(ad322.add ((x12_1).toNat * 7)).block,(ad322.add ((x12_1).toNat * 7)).off + 2,none⟩ = some (.int .i64 ((rd_T34 l0 x12_1).f2))∧w'.cell? ⟨(ad322.add ((x12_1).toNat * 7)).block,(ad322.add ((x12_1).toNat * 7)).off + 3,none⟩ = some (.int .i64 ((rd_T34 l0 x12_1).f3))∧w'.cell? ⟨(ad322.add ((x12_1).toNat * 7)).block,(ad322.add ((x12_1).toNat * 7)).off + 4,none⟩ = some (.int .i64 ((rd_T34 l0 x12_1).f4))∧w'.cell? ⟨(ad322.add ((x12_1).toNat * 7)).block,(ad322.add ((x12_1).toNat * 7)).off + 5,none⟩ = some (.bool ((rd_T34 l0 x12_1).f5))∧w'.cell? ⟨(ad322.add ((x12_1).toNat * 7)).block,(ad322.add ((x12_1).toNat * 7)).off + 6,none⟩ = some (.bool ((rd_T34 l0 x12_1).f6))) (ds:=[]) #[F0,F0,F0,F0,F0,F0,F0,F0,F0,F0,F0,F0,F0,F0,F0,F0,F0,F0,F0,F0,F0,F0,F0,F0,F0,F0] (by kernel_rfl) rfl rfl ⟨((HB.out.cell (World.block_lt_of_cell? w _ hw326_0)).trans hw326_0),((HB.out.cell (World.block_lt_of_cell? w _ hw326_1)).trans hw326_1),((HB.out.cell (World.block_lt_of_cell? w _ hw326_2)).trans hw326_2),((HB.out.cell (World.block_lt_of_cell? w _ hw326_3)).trans hw326_3),((HB.out.cell (World.block_lt_of_cell? w _ hw326_4)).trans hw326_4),((HB.out.cell (World.block_lt_of_cell? w _ hw326_5)).trans hw326_5),((HB.out.cell (World.block_lt_of_cell? w _ hw326_6)).trans hw326_6)⟩ (fun hHeld => ?_);refine with_tabW estoversref39_Next.tab11 estoversref39_Next.bits11 (fun HT_ HW_ => ?_)
            generalize wc.drew = w32 at HO_9 HB hx326_0 hx326_1 hx326_2 hx326_3 hx326_4 hx326_5 hx326_6 hHeld ⊢;refine pure_ (i:=0) (N:=some 53) (v:=?_) (a':=?_) #[T0,F0,F0,F0,F0,F0,F0,F0,F0,F0,F0,F0,F0,F0,F0,F0,F0,F0,F0,F0,F0,F0,F0,F0,F0,F0] rfl rfl (any_of HT_.out (by kernel_rfl)) (fun _ _ _ h => h) (Or.inl ⟨by rfl,?_⟩) ?_ ?_
            rotate_left
            · intro w';go_simp;with_reducible rfl
            rotate_left
            · simp only [Act.put,z0_,z1_,z2_,i64_w,i32_w];rfl
            refine pure_ (i:=1) (N:=some 54) (v:=?_) (a':=?_) #[T0,T0,F0,F0,F0,F0,F0,F0,F0,F0,F0,F0,F0,F0,F0,F0,F0,F0,F0,F0,F0,F0,F0,F0,F0,F0] rfl rfl (any_of HT_.out (by kernel_rfl)) (fun _ _ _ h => h) (Or.inl ⟨by rfl,?_⟩) ?_ ?_
            rotate_left
            · intro w';go_simp;with_reducible rfl
            rotate_left
            · simp only [Act.put,z0_,z1_,z2_,i64_w,i32_w];rfl
            refine pure_ (i:=2) (N:=some 55) (v:=?_) (a':=?_) #[T0,T0,T0,F0,F0,F0,F0,F0,F0,F0,F0,F0,F0,F0,F0,F0,F0,F0,F0,F0,F0,F0,F0,F0,F0,F0] rfl rfl (any_of HT_.out (by kernel_rfl)) (fun _ _ _ h => h) (Or.inl ⟨by rfl,?_⟩) ?_ ?_
            rotate_left
            · intro w';go_simp;with_reducible rfl
            rotate_left
            · simp only [Act.put,z0_,z1_,z2_,i64_w,i32_w];rfl
            refine pure_ (i:=4) (N:=some 57) (v:=?_) (a':=?_) #[T0,T0,T0,F0,T0,F0,F0,F0,F0,F0,F0,F0,F0,F0,F0,F0,F0,F0,F0,F0,F0,F0,F0,F0,F0,F0] rfl rfl (any_of HT_.out (by kernel_rfl)) (fun _ _ _ h => h) (Or.inl ⟨by rfl,?_⟩) ?_ ?_
            rotate_left
            · intro w';go_simp;with_reducible rfl
            rotate_left
            · simp only [Act.put,z0_,z1_,z2_,i64_w,i32_w];rfl
            refine pure_ (i:=5) (N:=some 58) (v:=?_) (a':=?_) #[T0,T0,T0,F0,T0,T0,F0,F0,F0,F0,F0,F0,F0,F0,F0,F0,F0,F0,F0,F0,F0,F0,F0,F0,F0,F0] rfl rfl (any_of HT_.out (by kernel_rfl)) (fun _ _ _ h => h) (Or.inl ⟨by rfl,?_⟩) ?_ ?_
            rotate_left
            · intro w';go_simp;with_reducible rfl
            rotate_left
            · simp only [Act.put,z0_,z1_,z2_,i64_w,i32_w];rfl
            refine pure_ (i:=6) (N:=some 59) (v:=?_) (a':=?_) #[T0,T0,T0,F0,T0,T0,T0,F0,F0,F0,F0,F0,F0,F0,F0,F0,F0,F0,F0,F0,F0,F0,F0,F0,F0,F0] rfl rfl (any_of HT_.out (by kernel_rfl)) (fun _ _ _ h => h) (Or.inl ⟨by rfl,?_⟩) ?_ ?_
            rotate_left
            · intro w';go_simp;with_reducible rfl
            rotate_left
            · simp only [Act.put,z0_,z1_,z2_,i64_w,i32_w];rfl
            refine take_ (i:=3) (N:=some 56) (v:=?_) (a':=?_) #[T0,T0,T0,T0,T0,T0,T0,F0,F0,F0,F0,F0,F0,F0,F0,F0,F0,F0,F0,F0,F0,F0,F0,F0,F0,F0] rfl rfl (take_ofW HT_.out HW_.out (by kernel_rfl)) (fun _ _ _ h => h) (Or.inl ⟨by rfl,?_⟩) hHeld ?_ ?_
            rotate_left
            ·
             rintro w' ⟨s0,s1,s2,s3,s4,s5,s6⟩
             go_simp;with_reducible rfl
            rotate_left
            · simp only [Act.put,z0_,z1_,z2_,i64_w,i32_w];rfl
            refine one_ (i:=7) (N:=some 60) #[T0,T0,T0,T0,T0,T0,T0,T0,F0,F0,F0,F0,F0,F0,F0,F0,F0,F0,F0,F0,F0,F0,F0,F0,F0,F0] rfl rfl (one_of HT_.out (by kernel_rfl)) (by decide) (fun K hK => ?_)
            refine goes_ Try.func66 (by kernel_rfl) rfl #[.agg #[.int .i64 ((rd_T34 l0 x12_1).f0),.int .i64 ((rd_T34 l0 x12_1).f1),.int .i64 ((rd_T34 l0 x12_1).f2),.int .i64 ((rd_T34 l0 x12_1).f3),.int .i64 ((rd_T34 l0 x12_1).f4),.bool ((rd_T34 l0 x12_1).f5),.bool ((rd_T34 l0 x12_1).f6)],.slice A1 l1.length c1,.slice Ao15 t319.length co15,.int .i64 a2,.bool true] (by rfl) rfl rfl (by (try simp only [z3_,z4_,z5_]);first | done | rfl | (simp only [z6_,z7_];rfl)) ?_
            with_reducible refine (estoversref39_guarded.calls kj21 ((rd_T34 l0 x12_1).f0) ((rd_T34 l0 x12_1).f1) ((rd_T34 l0 x12_1).f2) ((rd_T34 l0 x12_1).f3) ((rd_T34 l0 x12_1).f4) ((rd_T34 l0 x12_1).f5) ((rd_T34 l0 x12_1).f6) _ _ l1 _ _ t319 a2 true false _ ?side1 ?side2 ?side3 ?side4 A27.out).mono ?_
            (case side1 => repeat (first | exact (Kd.C_below HR1.out HB.out) | (with_reducible refine Kd.C_alloc ?_ _) | (with_reducible refine Kd.C_drewN ?_ _) | (with_reducible refine Kd.C_drew ?_)))
            (case side2 => exact HC1.out)
            (case side3 => repeat (first | exact (Kd.R_reads' HO_9.out).2.2 | (with_reducible refine Kd.C_alloc ?_ _) | (with_reducible refine Kd.C_drewN ?_ _) | (with_reducible refine Kd.C_drew ?_)))
            (case side4 => exact (Kd.R_reads' HO_9.out).2.1)
            rintro e w33 ⟨rfl,hb⟩
            refine ⟨_,rfl,?_⟩;have n0_:=Aside0.mk (Kd.R_below (by (with_reducible repeat (first | apply Kd.R_alloc | apply Kd.R_drewN | apply Kd.R_drew));exact HO_9.out) hb);have n1_:=Aside0.mk (below_step (by repeat (first | (with_reducible first | exact HB.out | apply b0_ | apply b1_ | apply b2_) | exact HB.out)) hb);clear HO_9;clear HB;have HO_9:=n0_;have HB:=n1_;clear n0_ n1_
            (try clear hb)
            (try clear hb2)
            (try clear hk)
            (try clear hi)
            refine hK.out _ _ ⟨((HB.out.cell (World.block_lt_of_cell? w _ hw326_0)).trans hw326_0),((HB.out.cell (World.block_lt_of_cell? w _ hw326_1)).trans hw326_1),((HB.out.cell (World.block_lt_of_cell? w _ hw326_2)).trans hw326_2),((HB.out.cell (World.block_lt_of_cell? w _ hw326_3)).trans hw326_3),((HB.out.cell (World.block_lt_of_cell? w _ hw326_4)).trans hw326_4),((HB.out.cell (World.block_lt_of_cell? w _ hw326_5)).trans hw326_5),((HB.out.cell (World.block_lt_of_cell? w _ hw326_6)).trans hw326_6)⟩ (fun hHeld => ?_)
            clear hK K;refine norm_ (a':=?_) ?_ ?_
            rotate_left
            ·
             show Act.put _ (some 60) _ = _
             simp only [Act.put,z0_,z1_,z2_,i64_w,i32_w];rfl
            refine pure_ (i:=8) (N:=some 61) (v:=?_) (a':=?_) #[T0,T0,T0,T0,T0,T0,T0,T0,T0,F0,F0,F0,F0,F0,F0,F0,F0,F0,F0,F0,F0,F0,F0,F0,F0,F0] rfl rfl (any_of HT_.out (by kernel_rfl)) (fun _ _ _ h => h) (Or.inl ⟨by rfl,?_⟩) ?_ ?_
            rotate_left
            · intro w';go_simp;with_reducible rfl
            rotate_left
            · simp only [Act.put,z0_,z1_,z2_,i64_w,i32_w];rfl
            refine pure_ (i:=9) (N:=some 62) (v:=?_) (a':=?_) #[T0,T0,T0,T0,T0,T0,T0,T0,T0,T0,F0,F0,F0,F0,F0,F0,F0,F0,F0,F0,F0,F0,F0,F0,F0,F0] rfl rfl (any_of HT_.out (by kernel_rfl)) (fun _ _ _ h => h) (Or.inl ⟨by rfl,?_⟩) ?_ ?_
            rotate_left
            · intro w';go_simp;with_reducible rfl
            rotate_left
            · simp only [Act.put,z0_,z1_,z2_,i64_w,i32_w];rfl
            refine pure_ (i:=10) (N:=some 63) (v:=?_) (a':=?_) #[T0,T0,T0,T0,T0,T0,T0,T0,T0,T0,T0,F0,F0,F0,F0,F0,F0,F0,F0,F0,F0,F0,F0,F0,F0,F0] rfl rfl (any_of HT_.out (by kernel_rfl)) (fun _ _ _ h => h) (Or.inl ⟨by rfl,?_⟩) ?_ ?_
            rotate_left
            · intro w';go_simp;with_reducible rfl
            rotate_left
            · simp only [Act.put,z0_,z1_,z2_,i64_w,i32_w];rfl
            refine pure_ (i:=11) (N:=some 64) (v:=?_) (a':=?_) #[T0,T0,T0,T0,T0,T0,T0,T0,T0,T0,T0,T0,F0,F0,F0,F0,F0,F0,F0,F0,F0,F0,F0,F0,F0,F0] rfl rfl (any_of HT_.out (by kernel_rfl)) (fun _ _ _ h => h) (Or.inl ⟨by rfl,?_⟩) ?_ ?_
            rotate_left
            · intro w';go_simp;with_reducible rfl
            rotate_left
            · simp only [Act.put,z0_,z1_,z2_,i64_w,i32_w];rfl
            refine pure_ (i:=12) (N:=some 65) (v:=?_) (a':=?_) #[T0,T0,T0,T0,T0,T0,T0,T0,T0,T0,T0,T0,T0,F0,F0,F0,F0,F0,F0,F0,F0,F0,F0,F0,F0,F0] rfl rfl (any_of HT_.out (by kernel_rfl)) (fun _ _ _ h => h) (Or.inl ⟨by rfl,?_⟩) ?_ ?_
            rotate_left
            · intro w';go_simp;with_reducible rfl
            rotate_left
            · simp only [Act.put,z0_,z1_,z2_,i64_w,i32_w];rfl
            refine pure_ (i:=13) (N:=some 66) (v:=undef) (a':=?_) #[T0,T0,T0,T0,T0,T0,T0,T0,T0,T0,T0,T0,T0,T0,F0,F0,F0,F0,F0,F0,F0,F0,F0,F0,F0,F0] rfl rfl (any_of HT_.out (by kernel_rfl)) (fun _ _ _ h => h) (Or.inr ⟨by rfl,rfl⟩) ?_ ?_
            rotate_left
            · simp only [Act.put,z0_,z1_,z2_,i64_w,i32_w];rfl
            refine pure_ (i:=14) (N:=some 67) (v:=undef) (a':=?_) #[T0,T0,T0,T0,T0,T0,T0,T0,T0,T0,T0,T0,T0,T0,T0,F0,F0,F0,F0,F0,F0,F0,F0,F0,F0,F0] rfl rfl (any_of HT_.out (by kernel_rfl)) (fun _ _ _ h => h) (Or.inr ⟨by rfl,rfl⟩) ?_ ?_
            rotate_left
            · simp only [Act.put,z0_,z1_,z2_,i64_w,i32_w];rfl
            refine pure_ (i:=15) (N:=some 68) (v:=undef) (a':=?_) #[T0,T0,T0,T0,T0,T0,T0,T0,T0,T0,T0,T0,T0,T0,T0,T0,F0,F0,F0,F0,F0,F0,F0,F0,F0,F0] rfl rfl (any_of HT_.out (by kernel_rfl)) (fun _ _ _ h => h) (Or.inr ⟨by rfl,rfl⟩) ?_ ?_
            rotate_left
            · simp only [Act.put,z0_,z1_,z2_,i64_w,i32_w];rfl
            refine pure_ (i:=16) (N:=some 69) (v:=undef) (a':=?_) #[T0,T0,T0,T0,T0,T0,T0,T0,T0,T0,T0,T0,T0,T0,T0,T0,T0,F0,F0,F0,F0,F0,F0,F0,F0,F0] rfl rfl (any_of HT_.out (by kernel_rfl)) (fun _ _ _ h => h) (Or.inr ⟨by rfl,rfl⟩) ?_ ?_
            rotate_left
            · simp only [Act.put,z0_,z1_,z2_,i64_w,i32_w];rfl
            refine pure_ (i:=17) (N:=some 70) (v:=undef) (a':=?_) #[T0,T0,T0,T0,T0,T0,T0,T0,T0,T0,T0,T0,T0,T0,T0,T0,T0,T0,F0,F0,F0,F0,F0,F0,F0,F0] rfl rfl (any_of HT_.out (by kernel_rfl)) (fun _ _ _ h => h) (Or.inr ⟨by rfl,rfl⟩) ?_ ?_
            rotate_left
            · simp only [Act.put,z0_,z1_,z2_,i64_w,i32_w];rfl
            refine pure_ (i:=18) (N:=some 71) (v:=undef) (a':=?_) #[T0,T0,T0,T0,T0,T0,T0,T0,T0,T0,T0,T0,T0,T0,T0,T0,T0,T0,T0,F0,F0,F0,F0,F0,F0,F0] rfl rfl (any_of HT_.out (by kernel_rfl)) (fun _ _ _ h => h) (Or.inr ⟨by rfl,rfl⟩) ?_ ?_
            rotate_left
            · simp only [Act.put,z0_,z1_,z2_,i64_w,i32_w];rfl
            refine pure_ (i:=19) (N:=some 72) (v:=undef) (a':=?_) #[T0,T0,T0,T0,T0,T0,T0,T0,T0,T0,T0,T0,T0,T0,T0,T0,T0,T0,T0,T0,F0,F0,F0,F0,F0,F0] rfl rfl (any_of HT_.out (by kernel_rfl)) (fun _ _ _ h => h) (Or.inr ⟨by rfl,rfl⟩) ?_ ?_
            rotate_left
            · simp only [Act.put,z0_,z1_,z2_,i64_w,i32_w];rfl
            refine pure_ (i:=20) (N:=some 73) (v:=undef) (a':=?_) #[T0,T0,T0,T0,T0,T0,T0,T0,T0,T0,T0,T0,T0,T0,T0,T0,T0,T0,T0,T0,T0,F0,F0,F0,F0,F0] rfl rfl (any_of HT_.out (by kernel_rfl)) (fun _ _ _ h => h) (Or.inr ⟨by rfl,rfl⟩) ?_ ?_
            rotate_left
            · simp only [Act.put,z0_,z1_,z2_,i64_w,i32_w];rfl
            refine pure_ (i:=21) (N:=some 74) (v:=undef) (a':=?_) #[T0,T0,T0,T0,T0,T0,T0,T0,T0,T0,T0,T0,T0,T0,T0,T0,T0,T0,T0,T0,T0,T0,F0,F0,F0,F0] rfl rfl (any_of HT_.out (by kernel_rfl)) (fun _ _ _ h => h) (Or.inr ⟨by rfl,rfl⟩) ?_ ?_
            rotate_left
            · simp only [Act.put,z0_,z1_,z2_,i64_w,i32_w];rfl
            refine pure_ (i:=22) (N:=some 75) (v:=undef) (a':=?_) #[T0,T0,T0,T0,T0,T0,T0,T0,T0,T0,T0,T0,T0,T0,T0,T0,T0,T0,T0,T0,T0,T0,T0,F0,F0,F0] rfl rfl (any_of HT_.out (by kernel_rfl)) (fun _ _ _ h => h) (Or.inr ⟨by rfl,rfl⟩) ?_ ?_
            rotate_left
            · simp only [Act.put,z0_,z1_,z2_,i64_w,i32_w];rfl
            refine pure_ (i:=23) (N:=some 76) (v:=undef) (a':=?_) #[T0,T0,T0,T0,T0,T0,T0,T0,T0,T0,T0,T0,T0,T0,T0,T0,T0,T0,T0,T0,T0,T0,T0,T0,F0,F0] rfl rfl (any_of HT_.out (by kernel_rfl)) (fun _ _ _ h => h) (Or.inr ⟨by rfl,rfl⟩) ?_ ?_
            rotate_left
            · simp only [Act.put,z0_,z1_,z2_,i64_w,i32_w];rfl
            refine pure_ (i:=24) (N:=some 77) (v:=?_) (a':=?_) #[T0,T0,T0,T0,T0,T0,T0,T0,T0,T0,T0,T0,T0,T0,T0,T0,T0,T0,T0,T0,T0,T0,T0,T0,T0,F0] rfl rfl (any_of HT_.out (by kernel_rfl)) (fun _ _ _ h => h) (Or.inl ⟨by rfl,?_⟩) ?_ ?_
            rotate_left
            · intro w';go_simp;with_reducible rfl
            rotate_left
            · simp only [Act.put,z0_,z1_,z2_,i64_w,i32_w];rfl
            refine pure_ (i:=25) (N:=some 78) (v:=?_) (a':=?_) #[T0,T0,T0,T0,T0,T0,T0,T0,T0,T0,T0,T0,T0,T0,T0,T0,T0,T0,T0,T0,T0,T0,T0,T0,T0,T0] rfl rfl (any_of HT_.out (by kernel_rfl)) (fun _ _ _ h => h) (Or.inl ⟨by rfl,?_⟩) ?_ ?_
            rotate_left
            · intro w';go_simp;with_reducible rfl
            rotate_left
            · simp only [Act.put,z0_,z1_,z2_,i64_w,i32_w];rfl
            refine done_ (done_of HT_.out (by kernel_rfl)) ?_
            try go_wp2
            go_meet
            case rel => exact ⟨_,(true),(by first | rfl | (simp;done) | (simp [*];done)),H',⟨by have:=HK1.out;have:=HJ13.out;have:=HJ21.out;first | omega | exact Nat.le_refl _⟩,⟨by (with_reducible repeat (first | apply Kd.R_alloc | apply Kd.R_drewN | apply Kd.R_drew));exact HO_9.out⟩,⟨by repeat (first | (with_reducible first | exact HB.out | apply b0_ | apply b1_ | apply b2_) | exact HB.out)⟩⟩
           subst c28
           have H1 : (estoversref39_Next.j3 kj21 l0 l1 a2 a3 t319 x10_1 x11_21 x12_1 false) = some r:=by rw [if_pos rfl] at H;exact H
           clear H;have H:=H1;clear H1;have H':=Aside0.mk H;clear H
           try go_wp2
           have n0_:=Aside0.mk (Kd.R_drew HO_9.out);have n1_:=Aside0.mk (b2_ HB.out);clear HO_9;clear HB;have HO_9:=n0_;have HB:=n1_;clear n0_ n1_;have p326 : 0≤(x12_1 : Int):=of_decide_eq_true (by first | (with_reducible assumption) | assumption);have q326 : x12_1 < (l0.length : Int):=of_decide_eq_true (by first | (with_reducible assumption) | assumption)
           obtain ⟨ad326,e326,hx326_0,hx326_1,hx326_2,hx326_3,hx326_4,hx326_5,hx326_6⟩:=at_T34 HR0.out x12_1 p326 q326;have hw326_6:=hx326_6;have hw326_5:=hx326_5;have hw326_4:=hx326_4;have hw326_3:=hx326_3;have hw326_2:=hx326_2;have hw326_1:=hx326_1;have hw326_0:=hx326_0;obtain rfl : ad322 = ad326:=(by injection e326)
           replace hx326_0:=(HB.out.cell (World.block_lt_of_cell? w _ hx326_0)).trans hx326_0;replace hx326_1:=(HB.out.cell (World.block_lt_of_cell? w _ hx326_1)).trans hx326_1;replace hx326_2:=(HB.out.cell (World.block_lt_of_cell? w _ hx326_2)).trans hx326_2;replace hx326_3:=(HB.out.cell (World.block_lt_of_cell? w _ hx326_3)).trans hx326_3
           replace hx326_4:=(HB.out.cell (World.block_lt_of_cell? w _ hx326_4)).trans hx326_4;replace hx326_5:=(HB.out.cell (World.block_lt_of_cell? w _ hx326_5)).trans hx326_5;replace hx326_6:=(HB.out.cell (World.block_lt_of_cell? w _ hx326_6)).trans hx326_6;replace p326:=eq_true p326;replace q326:=eq_true q326
           refine start_ (n:=26) (S:=fun w' => w'.cell? (ad322.add ((x12_1).toNat * 7)) = some (.int .i64 ((rd_T34 l0 x12_1).f0))∧w'.cell? ⟨(ad322.add ((x12_1).toNat * 7)).block,(ad322.add ((x12_1).toNat * 7)).off + 1,none⟩ = some (.int .i64 ((rd_T34 l0 x12_1).f1))∧w'.cell? ⟨(ad322.add ((x12_1).toNat * 7)).block,(ad322.add ((x12_1).toNat * 7)).off + 2,none⟩ = some (.int .i64 ((rd_T34 l0 x12_1).f2))∧w'.cell? ⟨(ad322.add ((x12_1).toNat * 7)).block,(ad322.add ((x12_1).toNat * 7)).off + 3,none⟩ = some (.int .i64 ((rd_T34 l0 x12_1).f3))∧w'.cell? ⟨(ad322.add ((x12_1).toNat * 7)).block,(ad322.add ((x12_1).toNat * 7)).off + 4,none⟩ = some (.int .i64 ((rd_T34 l0 x12_1).f4))∧w'.cell? ⟨(ad322.add ((x12_1).toNat * 7)).block,(ad322.add ((x12_1).toNat * 7)).off + 5,none⟩ = some (.bool ((rd_T34 l0 x12_1).f5))∧w'.cell? ⟨(ad322.add ((x12_1).toNat * 7)).block,(ad322.add ((x12_1).toNat * 7)).off + 6,none⟩ = some (.bool ((rd_T34 l0 x12_1).f6))) (ds:=[]) #[F0,F0,F0,F0,F0,F0,F0,F0,F0,F0,F0,F0,F0,F0,F0,F0,F0,F0,F0,F0,F0,F0,F0,F0,F0,F0] (by kernel_rfl) rfl rfl ⟨((HB.out.cell (World.block_lt_of_cell? w _ hw326_0)).trans hw326_0),((HB.out.cell (World.block_lt_of_cell? w _ hw326_1)).trans hw326_1),((HB.out.cell (World.block_lt_of_cell? w _ hw326_2)).trans hw326_2),((HB.out.cell (World.block_lt_of_cell? w _ hw326_3)).trans hw326_3),((HB.out.cell (World.block_lt_of_cell? w _ hw326_4)).trans hw326_4),((HB.out.cell (World.block_lt_of_cell? w _ hw326_5)).trans hw326_5),((HB.out.cell (World.block_lt_of_cell? w _ hw326_6)).trans hw326_6)⟩ (fun hHeld => ?_);refine with_tabW estoversref39_Next.tab11 estoversref39_Next.bits11 (fun HT_ HW_ => ?_)
           generalize wc.drew = w29 at HO_9 HB hx326_0 hx326_1 hx326_2 hx326_3 hx326_4 hx326_5 hx326_6 hHeld ⊢;refine pure_ (i:=0) (N:=some 53) (v:=?_) (a':=?_) #[T0,F0,F0,F0,F0,F0,F0,F0,F0,F0,F0,F0,F0,F0,F0,F0,F0,F0,F0,F0,F0,F0,F0,F0,F0,F0] rfl rfl (any_of HT_.out (by kernel_rfl)) (fun _ _ _ h => h) (Or.inl ⟨by rfl,?_⟩) ?_ ?_
           rotate_left
           · intro w';go_simp;with_reducible rfl
           rotate_left
           · simp only [Act.put,z0_,z1_,z2_,i64_w,i32_w];rfl
           refine pure_ (i:=1) (N:=some 54) (v:=?_) (a':=?_) #[T0,T0,F0,F0,F0,F0,F0,F0,F0,F0,F0,F0,F0,F0,F0,F0,F0,F0,F0,F0,F0,F0,F0,F0,F0,F0] rfl rfl (any_of HT_.out (by kernel_rfl)) (fun _ _ _ h => h) (Or.inl ⟨by rfl,?_⟩) ?_ ?_
           rotate_left
           · intro w';go_simp;with_reducible rfl
           rotate_left
           · simp only [Act.put,z0_,z1_,z2_,i64_w,i32_w];rfl
           refine pure_ (i:=2) (N:=some 55) (v:=?_) (a':=?_) #[T0,T0,T0,F0,F0,F0,F0,F0,F0,F0,F0,F0,F0,F0,F0,F0,F0,F0,F0,F0,F0,F0,F0,F0,F0,F0] rfl rfl (any_of HT_.out (by kernel_rfl)) (fun _ _ _ h => h) (Or.inl ⟨by rfl,?_⟩) ?_ ?_
           rotate_left
           · intro w';go_simp;with_reducible rfl
           rotate_left
           · simp only [Act.put,z0_,z1_,z2_,i64_w,i32_w];rfl
           refine pure_ (i:=4) (N:=some 57) (v:=?_) (a':=?_) #[T0,T0,T0,F0,T0,F0,F0,F0,F0,F0,F0,F0,F0,F0,F0,F0,F0,F0,F0,F0,F0,F0,F0,F0,F0,F0] rfl rfl (any_of HT_.out (by kernel_rfl)) (fun _ _ _ h => h) (Or.inl ⟨by rfl,?_⟩) ?_ ?_
           rotate_left
           · intro w';go_simp;with_reducible rfl
           rotate_left
           · simp only [Act.put,z0_,z1_,z2_,i64_w,i32_w];rfl
           refine pure_ (i:=5) (N:=some 58) (v:=?_) (a':=?_) #[T0,T0,T0,F0,T0,T0,F0,F0,F0,F0,F0,F0,F0,F0,F0,F0,F0,F0,F0,F0,F0,F0,F0,F0,F0,F0] rfl rfl (any_of HT_.out (by kernel_rfl)) (fun _ _ _ h => h) (Or.inl ⟨by rfl,?_⟩) ?_ ?_
           rotate_left
           · intro w';go_simp;with_reducible rfl
           rotate_left
           · simp only [Act.put,z0_,z1_,z2_,i64_w,i32_w];rfl
           refine pure_ (i:=6) (N:=some 59) (v:=?_) (a':=?_) #[T0,T0,T0,F0,T0,T0,T0,F0,F0,F0,F0,F0,F0,F0,F0,F0,F0,F0,F0,F0,F0,F0,F0,F0,F0,F0] rfl rfl (any_of HT_.out (by kernel_rfl)) (fun _ _ _ h => h) (Or.inl ⟨by rfl,?_⟩) ?_ ?_
           rotate_left
           · intro w';go_simp;with_reducible rfl
           rotate_left
           · simp only [Act.put,z0_,z1_,z2_,i64_w,i32_w];rfl
           refine take_ (i:=3) (N:=some 56) (v:=?_) (a':=?_) #[T0,T0,T0,T0,T0,T0,T0,F0,F0,F0,F0,F0,F0,F0,F0,F0,F0,F0,F0,F0,F0,F0,F0,F0,F0,F0] rfl rfl (take_ofW HT_.out HW_.out (by kernel_rfl)) (fun _ _ _ h => h) (Or.inl ⟨by rfl,?_⟩) hHeld ?_ ?_
           rotate_left
           ·
            rintro w' ⟨s0,s1,s2,s3,s4,s5,s6⟩
            go_simp;with_reducible rfl
           rotate_left
           · simp only [Act.put,z0_,z1_,z2_,i64_w,i32_w];rfl
           refine one_ (i:=7) (N:=some 60) #[T0,T0,T0,T0,T0,T0,T0,T0,F0,F0,F0,F0,F0,F0,F0,F0,F0,F0,F0,F0,F0,F0,F0,F0,F0,F0] rfl rfl (one_of HT_.out (by kernel_rfl)) (by decide) (fun K hK => ?_)
           refine goes_ Try.func66 (by kernel_rfl) rfl #[.agg #[.int .i64 ((rd_T34 l0 x12_1).f0),.int .i64 ((rd_T34 l0 x12_1).f1),.int .i64 ((rd_T34 l0 x12_1).f2),.int .i64 ((rd_T34 l0 x12_1).f3),.int .i64 ((rd_T34 l0 x12_1).f4),.bool ((rd_T34 l0 x12_1).f5),.bool ((rd_T34 l0 x12_1).f6)],.slice A1 l1.length c1,.slice Ao15 t319.length co15,.int .i64 a2,.bool true] (by rfl) rfl rfl (by (try simp only [z3_,z4_,z5_]);first | done | rfl | (simp only [z6_,z7_];rfl)) ?_
           with_reducible refine (estoversref39_guarded.calls kj21 ((rd_T34 l0 x12_1).f0) ((rd_T34 l0 x12_1).f1) ((rd_T34 l0 x12_1).f2) ((rd_T34 l0 x12_1).f3) ((rd_T34 l0 x12_1).f4) ((rd_T34 l0 x12_1).f5) ((rd_T34 l0 x12_1).f6) _ _ l1 _ _ t319 a2 true true _ ?side1 ?side2 ?side3 ?side4 A27.out).mono ?_
           (case side1 => repeat (first | exact (Kd.C_below HR1.out HB.out) | (with_reducible refine Kd.C_alloc ?_ _) | (with_reducible refine Kd.C_drewN ?_ _) | (with_reducible refine Kd.C_drew ?_)))
           (case side2 => exact HC1.out)
           (case side3 => repeat (first | exact (Kd.R_reads' HO_9.out).2.2 | (with_reducible refine Kd.C_alloc ?_ _) | (with_reducible refine Kd.C_drewN ?_ _) | (with_reducible refine Kd.C_drew ?_)))
           (case side4 => exact (Kd.R_reads' HO_9.out).2.1)
           rintro e w30 ⟨rfl,hb⟩
           refine ⟨_,rfl,?_⟩;have n0_:=Aside0.mk (Kd.R_below (by (with_reducible repeat (first | apply Kd.R_alloc | apply Kd.R_drewN | apply Kd.R_drew));exact HO_9.out) hb);have n1_:=Aside0.mk (below_step (by repeat (first | (with_reducible first | exact HB.out | apply b0_ | apply b1_ | apply b2_) | exact HB.out)) hb);clear HO_9;clear HB;have HO_9:=n0_;have HB:=n1_;clear n0_ n1_
           (try clear hb)
           (try clear hb2)
           (try clear hk)
           (try clear hi)
           refine hK.out _ _ ⟨((HB.out.cell (World.block_lt_of_cell? w _ hw326_0)).trans hw326_0),((HB.out.cell (World.block_lt_of_cell? w _ hw326_1)).trans hw326_1),((HB.out.cell (World.block_lt_of_cell? w _ hw326_2)).trans hw326_2),((HB.out.cell (World.block_lt_of_cell? w _ hw326_3)).trans hw326_3),((HB.out.cell (World.block_lt_of_cell? w _ hw326_4)).trans hw326_4),((HB.out.cell (World.block_lt_of_cell? w _ hw326_5)).trans hw326_5),((HB.out.cell (World.block_lt_of_cell? w _ hw326_6)).trans hw326_6)⟩ (fun hHeld => ?_)
           clear hK K;refine norm_ (a':=?_) ?_ ?_
           rotate_left
           ·
            show Act.put _ (some 60) _ = _
            simp only [Act.put,z0_,z1_,z2_,i64_w,i32_w];rfl
           refine pure_ (i:=8) (N:=some 61) (v:=?_) (a':=?_) #[T0,T0,T0,T0,T0,T0,T0,T0,T0,F0,F0,F0,F0,F0,F0,F0,F0,F0,F0,F0,F0,F0,F0,F0,F0,F0] rfl rfl (any_of HT_.out (by kernel_rfl)) (fun _ _ _ h => h) (Or.inl ⟨by rfl,?_⟩) ?_ ?_
           rotate_left
           · intro w';go_simp;with_reducible rfl
           rotate_left
           · simp only [Act.put,z0_,z1_,z2_,i64_w,i32_w];rfl
           refine pure_ (i:=9) (N:=some 62) (v:=?_) (a':=?_) #[T0,T0,T0,T0,T0,T0,T0,T0,T0,T0,F0,F0,F0,F0,F0,F0,F0,F0,F0,F0,F0,F0,F0,F0,F0,F0] rfl rfl (any_of HT_.out (by kernel_rfl)) (fun _ _ _ h => h) (Or.inl ⟨by rfl,?_⟩) ?_ ?_
           rotate_left
           · intro w';go_simp;with_reducible rfl
           rotate_left
           · simp only [Act.put,z0_,z1_,z2_,i64_w,i32_w];rfl
           refine pure_ (i:=10) (N:=some 63) (v:=undef) (a':=?_) #[T0,T0,T0,T0,T0,T0,T0,T0,T0,T0,T0,F0,F0,F0,F0,F0,F0,F0,F0,F0,F0,F0,F0,F0,F0,F0] rfl rfl (any_of HT_.out (by kernel_rfl)) (fun _ _ _ h => h) (Or.inr ⟨by rfl,rfl⟩) ?_ ?_
           rotate_left
           · simp only [Act.put,z0_,z1_,z2_,i64_w,i32_w];rfl
           refine pure_ (i:=11) (N:=some 64) (v:=undef) (a':=?_) #[T0,T0,T0,T0,T0,T0,T0,T0,T0,T0,T0,T0,F0,F0,F0,F0,F0,F0,F0,F0,F0,F0,F0,F0,F0,F0] rfl rfl (any_of HT_.out (by kernel_rfl)) (fun _ _ _ h => h) (Or.inr ⟨by rfl,rfl⟩) ?_ ?_
           rotate_left
           · simp only [Act.put,z0_,z1_,z2_,i64_w,i32_w];rfl
           refine pure_ (i:=12) (N:=some 65) (v:=undef) (a':=?_) #[T0,T0,T0,T0,T0,T0,T0,T0,T0,T0,T0,T0,T0,F0,F0,F0,F0,F0,F0,F0,F0,F0,F0,F0,F0,F0] rfl rfl (any_of HT_.out (by kernel_rfl)) (fun _ _ _ h => h) (Or.inr ⟨by rfl,rfl⟩) ?_ ?_
           rotate_left
           · simp only [Act.put,z0_,z1_,z2_,i64_w,i32_w];rfl
           refine pure_ (i:=13) (N:=some 66) (v:=undef) (a':=?_) #[T0,T0,T0,T0,T0,T0,T0,T0,T0,T0,T0,T0,T0,T0,F0,F0,F0,F0,F0,F0,F0,F0,F0,F0,F0,F0] rfl rfl (any_of HT_.out (by kernel_rfl)) (fun _ _ _ h => h) (Or.inr ⟨by rfl,rfl⟩) ?_ ?_
           rotate_left
           · simp only [Act.put,z0_,z1_,z2_,i64_w,i32_w];rfl
           refine pure_ (i:=14) (N:=some 67) (v:=undef) (a':=?_) #[T0,T0,T0,T0,T0,T0,T0,T0,T0,T0,T0,T0,T0,T0,T0,F0,F0,F0,F0,F0,F0,F0,F0,F0,F0,F0] rfl rfl (any_of HT_.out (by kernel_rfl)) (fun _ _ _ h => h) (Or.inr ⟨by rfl,rfl⟩) ?_ ?_
           rotate_left
           · simp only [Act.put,z0_,z1_,z2_,i64_w,i32_w];rfl
           refine pure_ (i:=15) (N:=some 68) (v:=undef) (a':=?_) #[T0,T0,T0,T0,T0,T0,T0,T0,T0,T0,T0,T0,T0,T0,T0,T0,F0,F0,F0,F0,F0,F0,F0,F0,F0,F0] rfl rfl (any_of HT_.out (by kernel_rfl)) (fun _ _ _ h => h) (Or.inr ⟨by rfl,rfl⟩) ?_ ?_
           rotate_left
           · simp only [Act.put,z0_,z1_,z2_,i64_w,i32_w];rfl
           refine pure_ (i:=16) (N:=some 69) (v:=undef) (a':=?_) #[T0,T0,T0,T0,T0,T0,T0,T0,T0,T0,T0,T0,T0,T0,T0,T0,T0,F0,F0,F0,F0,F0,F0,F0,F0,F0] rfl rfl (any_of HT_.out (by kernel_rfl)) (fun _ _ _ h => h) (Or.inr ⟨by rfl,rfl⟩) ?_ ?_
           rotate_left
           · simp only [Act.put,z0_,z1_,z2_,i64_w,i32_w];rfl
           refine pure_ (i:=17) (N:=some 70) (v:=undef) (a':=?_) #[T0,T0,T0,T0,T0,T0,T0,T0,T0,T0,T0,T0,T0,T0,T0,T0,T0,T0,F0,F0,F0,F0,F0,F0,F0,F0] rfl rfl (any_of HT_.out (by kernel_rfl)) (fun _ _ _ h => h) (Or.inr ⟨by rfl,rfl⟩) ?_ ?_
           rotate_left
           · simp only [Act.put,z0_,z1_,z2_,i64_w,i32_w];rfl
           refine pure_ (i:=18) (N:=some 71) (v:=undef) (a':=?_) #[T0,T0,T0,T0,T0,T0,T0,T0,T0,T0,T0,T0,T0,T0,T0,T0,T0,T0,T0,F0,F0,F0,F0,F0,F0,F0] rfl rfl (any_of HT_.out (by kernel_rfl)) (fun _ _ _ h => h) (Or.inr ⟨by rfl,rfl⟩) ?_ ?_
           rotate_left
           · simp only [Act.put,z0_,z1_,z2_,i64_w,i32_w];rfl
           refine pure_ (i:=19) (N:=some 72) (v:=undef) (a':=?_) #[T0,T0,T0,T0,T0,T0,T0,T0,T0,T0,T0,T0,T0,T0,T0,T0,T0,T0,T0,T0,F0,F0,F0,F0,F0,F0] rfl rfl (any_of HT_.out (by kernel_rfl)) (fun _ _ _ h => h) (Or.inr ⟨by rfl,rfl⟩) ?_ ?_
           rotate_left
           · simp only [Act.put,z0_,z1_,z2_,i64_w,i32_w];rfl
           refine pure_ (i:=20) (N:=some 73) (v:=undef) (a':=?_) #[T0,T0,T0,T0,T0,T0,T0,T0,T0,T0,T0,T0,T0,T0,T0,T0,T0,T0,T0,T0,T0,F0,F0,F0,F0,F0] rfl rfl (any_of HT_.out (by kernel_rfl)) (fun _ _ _ h => h) (Or.inr ⟨by rfl,rfl⟩) ?_ ?_
           rotate_left
           · simp only [Act.put,z0_,z1_,z2_,i64_w,i32_w];rfl
           refine pure_ (i:=21) (N:=some 74) (v:=undef) (a':=?_) #[T0,T0,T0,T0,T0,T0,T0,T0,T0,T0,T0,T0,T0,T0,T0,T0,T0,T0,T0,T0,T0,T0,F0,F0,F0,F0] rfl rfl (any_of HT_.out (by kernel_rfl)) (fun _ _ _ h => h) (Or.inr ⟨by rfl,rfl⟩) ?_ ?_
           rotate_left
           · simp only [Act.put,z0_,z1_,z2_,i64_w,i32_w];rfl
           refine pure_ (i:=22) (N:=some 75) (v:=undef) (a':=?_) #[T0,T0,T0,T0,T0,T0,T0,T0,T0,T0,T0,T0,T0,T0,T0,T0,T0,T0,T0,T0,T0,T0,T0,F0,F0,F0] rfl rfl (any_of HT_.out (by kernel_rfl)) (fun _ _ _ h => h) (Or.inr ⟨by rfl,rfl⟩) ?_ ?_
           rotate_left
           · simp only [Act.put,z0_,z1_,z2_,i64_w,i32_w];rfl
           refine pure_ (i:=23) (N:=some 76) (v:=undef) (a':=?_) #[T0,T0,T0,T0,T0,T0,T0,T0,T0,T0,T0,T0,T0,T0,T0,T0,T0,T0,T0,T0,T0,T0,T0,T0,F0,F0] rfl rfl (any_of HT_.out (by kernel_rfl)) (fun _ _ _ h => h) (Or.inr ⟨by rfl,rfl⟩) ?_ ?_
           rotate_left
           · simp only [Act.put,z0_,z1_,z2_,i64_w,i32_w];rfl
           refine pure_ (i:=24) (N:=some 77) (v:=undef) (a':=?_) #[T0,T0,T0,T0,T0,T0,T0,T0,T0,T0,T0,T0,T0,T0,T0,T0,T0,T0,T0,T0,T0,T0,T0,T0,T0,F0] rfl rfl (any_of HT_.out (by kernel_rfl)) (fun _ _ _ h => h) (Or.inr ⟨by rfl,rfl⟩) ?_ ?_
           rotate_left
           · simp only [Act.put,z0_,z1_,z2_,i64_w,i32_w];rfl
           refine pure_ (i:=25) (N:=some 78) (v:=?_) (a':=?_) #[T0,T0,T0,T0,T0,T0,T0,T0,T0,T0,T0,T0,T0,T0,T0,T0,T0,T0,T0,T0,T0,T0,T0,T0,T0,T0] rfl rfl (any_of HT_.out (by kernel_rfl)) (fun _ _ _ h => h) (Or.inl ⟨by rfl,?_⟩) ?_ ?_
           rotate_left
           · intro w';go_simp;with_reducible rfl
           rotate_left
           · simp only [Act.put,z0_,z1_,z2_,i64_w,i32_w];rfl
           refine done_ (done_of HT_.out (by kernel_rfl)) ?_
           try go_wp2
           go_meet
           case rel => exact ⟨_,(false),(by first | rfl | (simp;done) | (simp [*];done)),H',⟨by have:=HK1.out;have:=HJ13.out;have:=HJ21.out;first | omega | exact Nat.le_refl _⟩,⟨by (with_reducible repeat (first | apply Kd.R_alloc | apply Kd.R_drewN | apply Kd.R_drew));exact HO_9.out⟩,⟨by repeat (first | (with_reducible first | exact HB.out | apply b0_ | apply b1_ | apply b2_) | exact HB.out)⟩⟩
          case rest =>
           clear HC24;obtain ⟨kq,x78_23,rfl,HA,HJ23,HO_9,HB⟩:=hcut
           cases kq with
            | zero => exact absurd HA.out (by simp [estoversref39_Next.j3])
            | succ kj23 =>
             have H:=HA.out;clear HA;simp only [estoversref39_Next.j3] at H;by_cases c38 : x78_23 = true
             rotate_left
             ·
              replace c38:=Bool.eq_false_iff.mpr c38;subst c38
              have H1 : (estoversref39_Next.l0 kj23 l0 l1 a2 a3 t319 x10_1 x11_21 (wrap64 (x12_1 + 1))) = some r:=by rw [if_neg (show ¬ (false = true) by decide)] at H;exact H
              clear H;have H:=H1;clear H1;have H':=Aside0.mk H;clear H;go_wp2
              go_roundg kj23
              case measure => have:=HK1.out;have:=HJ13.out;have:=HJ21.out;have:=HJ23.out;omega
              case rel => exact ⟨(x10_1),(x11_21),(wrap64 (x12_1 + 1)),(by first | rfl | (simp;done) | (simp [*];done)),(by first | rfl | (simp;done) | (simp [*];done)),(by first | rfl | (simp;done) | (simp [*];done)),H',⟨by have:=HK1.out;have:=HJ13.out;have:=HJ21.out;have:=HJ23.out;omega⟩,⟨by (with_reducible repeat (first | apply Kd.R_alloc | apply Kd.R_drewN | apply Kd.R_drew));exact HO_9.out⟩,⟨by repeat (first | (with_reducible first | exact HB.out | apply b0_ | apply b1_ | apply b2_) | exact HB.out)⟩⟩
             subst c38
             have H1 : (estoversref39_Next.l0 kj23 l0 l1 a2 a3 t319 x12_1 x11_21 (wrap64 (x12_1 + 1))) = some r:=by rw [if_pos rfl] at H;exact H
             clear H;have H:=H1;clear H1;have H':=Aside0.mk H;clear H;go_wp2
             go_roundg kj23
             case measure => have:=HK1.out;have:=HJ13.out;have:=HJ21.out;have:=HJ23.out;omega
             case rel => exact ⟨(x12_1),(x11_21),(wrap64 (x12_1 + 1)),(by first | rfl | (simp;done) | (simp [*];done)),(by first | rfl | (simp;done) | (simp [*];done)),(by first | rfl | (simp;done) | (simp [*];done)),H',⟨by have:=HK1.out;have:=HJ13.out;have:=HJ21.out;have:=HJ23.out;omega⟩,⟨by (with_reducible repeat (first | apply Kd.R_alloc | apply Kd.R_drewN | apply Kd.R_drew));exact HO_9.out⟩,⟨by repeat (first | (with_reducible first | exact HB.out | apply b0_ | apply b1_ | apply b2_) | exact HB.out)⟩⟩
end Go.Proofs.Ytnmenfkmndnoaaa.Pr
