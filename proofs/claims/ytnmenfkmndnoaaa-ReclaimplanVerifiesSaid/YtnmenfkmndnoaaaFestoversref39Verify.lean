-- Written by a program of this session (a changed copy of the kit's printer). Not trusted: Lean checks it.
import Derived.Test.YtnmenfkmndnoaaaM0
import Derived.Test.YtnmenfkmndnoaaaFestoversref39Check
import Derived.Test.YtnmenfkmndnoaaaFestoversref39Leaving
import Derived.Test.YtnmenfkmndnoaaaFestoversref39holds
import Derived.Test.YtnmenfkmndnoaaaM1
namespace Go.Proofs.Ytnmenfkmndnoaaa.Pr
open Go.RowKit Go.Proofs.YtnmenfkmndnoaaaW.PrintWords Go.Proofs.YtnmenfkmndnoaaaW.PrintLast Go.Proofs.YtnmenfkmndnoaaaW.PrintMore
attribute [local go_sem] max2_int min2_int max_two min_two max_three min_three max_four min_four
set_option linter.unusedVariables false
set_option linter.unusedSimpArgs false
section
attribute [local go_sem high] eqA34
mutual
def estoversref39_Verify.j0 : Nat→List (S34)→List (S30)→Int→Bool→List (S34)→Bool→Option (Int)
 | 0,_,_,_,_,_,_ => none
 | k + 1,x0,x1,x2,x3,x4,x29 => if x29 = true then (some 2) else (if (x4.length : Int) = (x0.length : Int) then (estoversref39_Verify.l0 k x0 x1 x2 x3 x4 0) else (some 3))
def estoversref39_Verify.l0 : Nat→List (S34)→List (S30)→Int→Bool→List (S34)→Int→Option (Int)
 | 0,_,_,_,_,_,_ => none
 | k + 1,x0,x1,x2,x3,x4,x12 => if x12 < (x0.length : Int) then (if 0≤x12 then (if x12 < (x4.length : Int) then (if (!(((rd_T34 x0 x12).f0) == ((rd_T34 x4 x12).f0)) || (!(((rd_T34 x0 x12).f1) == ((rd_T34 x4 x12).f1)) || (!(((rd_T34 x0 x12).f2) == ((rd_T34 x4 x12).f2)) || (!(((rd_T34 x0 x12).f4) == ((rd_T34 x4 x12).f4)) || (!(((rd_T34 x0 x12).f5) == ((rd_T34 x4 x12).f5)) || (!(((rd_T34 x0 x12).f6) == ((rd_T34 x4 x12).f6)))))))) = true then (some 3) else (estoversref39_Verify.l0 k x0 x1 x2 x3 x4 (wrap64 (x12 + 1)))) else (none)) else (none)) else ((estoversref39_Leaving.f k x0 x1).bind fun t363 => (estoversref39_Verify.l1 k x0 x1 x2 x3 x4 t363 0))
def estoversref39_Verify.l1 : Nat→List (S34)→List (S30)→Int→Bool→List (S34)→List Int→Int→Option (Int)
 | 0,_,_,_,_,_,_,_ => none
 | k + 1,x0,x1,x2,x3,x4,x14,x15 => if x15 < (x0.length : Int) then (if 0≤x15 then (if x15 < (x4.length : Int) then ((estoversref39_holds.f k ((rd_T34 x0 x15).f0) ((rd_T34 x0 x15).f1) ((rd_T34 x0 x15).f2) ((rd_T34 x0 x15).f3) ((rd_T34 x0 x15).f4) ((rd_T34 x0 x15).f5) ((rd_T34 x0 x15).f6) x1 x14 x2 x3 ((rd_T34 x4 x15).f3)).bind fun t368 => (if t368 = true then (estoversref39_Verify.l1 k x0 x1 x2 x3 x4 x14 (wrap64 (x15 + 1))) else (some 19))) else (none)) else (none)) else (some 0)
end
def estoversref39_Verify.f (k : Nat) (l0 : List (S34)) (l1 : List (S30)) (a2 : Int) (a3 : Bool) (l4 : List (S34)) : Option (Int):=(estoversref39_Check.f k l0 l1).bind fun t358 => (if t358 = 0 then (if a2 < (-1) then (estoversref39_Verify.j0 k l0 l1 a2 a3 l4 true) else (estoversref39_Verify.j0 k l0 l1 a2 a3 l4 (decide (a2≥(l1.length : Int))))) else (some t358))
theorem estoversref39_Verify.mono_l : ∀ k,(∀ y0 y1 y2 y3 y4 y5,LeO (estoversref39_Verify.j0 k y0 y1 y2 y3 y4 y5) (estoversref39_Verify.j0 (k + 1) y0 y1 y2 y3 y4 y5))∧(∀ y0 y1 y2 y3 y4 y5,LeO (estoversref39_Verify.l0 k y0 y1 y2 y3 y4 y5) (estoversref39_Verify.l0 (k + 1) y0 y1 y2 y3 y4 y5))∧(∀ y0 y1 y2 y3 y4 y5 y6,LeO (estoversref39_Verify.l1 k y0 y1 y2 y3 y4 y5 y6) (estoversref39_Verify.l1 (k + 1) y0 y1 y2 y3 y4 y5 y6))
 | 0 => ⟨fun _ _ _ _ _ _ r h => by simp [estoversref39_Verify.j0] at h,fun _ _ _ _ _ _ r h => by simp [estoversref39_Verify.l0] at h,fun _ _ _ _ _ _ _ r h => by simp [estoversref39_Verify.l1] at h⟩
 | k + 1 => by
  obtain ⟨ih0,ih1,ih2⟩:=estoversref39_Verify.mono_l k;refine ⟨?_,?_,?_⟩
  ·
   intro y0 y1 y2 y3 y4 y5
   unfold estoversref39_Verify.j0
   repeat' first
    | (with_reducible exact ih0 _ _ _ _ _ _)
    | (with_reducible exact ih1 _ _ _ _ _ _)
    | (with_reducible exact ih2 _ _ _ _ _ _ _)
    | (with_reducible exact estoversref39_Check.mono _ _ _)
    | (with_reducible exact estoversref39_Leaving.mono _ _ _)
    | (with_reducible exact estoversref39_holds.mono _ _ _ _ _ _ _ _ _ _ _ _ _)
    | (with_reducible exact LeO.refl _)
    | (with_reducible exact LeO.none _)
    | (with_reducible refine LeO.ite ?_ ?_)
    | (with_reducible refine LeO.bind ?_ (fun _ => ?_))
    | exact ih0 _ _ _ _ _ _
    | exact ih1 _ _ _ _ _ _
    | exact ih2 _ _ _ _ _ _ _
    | exact estoversref39_Check.mono _ _ _
    | exact estoversref39_Leaving.mono _ _ _
    | exact estoversref39_holds.mono _ _ _ _ _ _ _ _ _ _ _ _ _
    | exact LeO.none _
    | refine LeO.ite ?_ ?_
    | refine LeO.bind ?_ (fun _ => ?_)
  ·
   intro y0 y1 y2 y3 y4 y5
   unfold estoversref39_Verify.l0
   repeat' first
    | (with_reducible exact ih0 _ _ _ _ _ _)
    | (with_reducible exact ih1 _ _ _ _ _ _)
    | (with_reducible exact ih2 _ _ _ _ _ _ _)
    | (with_reducible exact estoversref39_Check.mono _ _ _)
    | (with_reducible exact estoversref39_Leaving.mono _ _ _)
    | (with_reducible exact estoversref39_holds.mono _ _ _ _ _ _ _ _ _ _ _ _ _)
    | (with_reducible exact LeO.refl _)
    | (with_reducible exact LeO.none _)
    | (with_reducible refine LeO.ite ?_ ?_)
    | (with_reducible refine LeO.bind ?_ (fun _ => ?_))
    | exact ih0 _ _ _ _ _ _
    | exact ih1 _ _ _ _ _ _
    | exact ih2 _ _ _ _ _ _ _
    | exact estoversref39_Check.mono _ _ _
    | exact estoversref39_Leaving.mono _ _ _
    | exact estoversref39_holds.mono _ _ _ _ _ _ _ _ _ _ _ _ _
    | exact LeO.none _
    | refine LeO.ite ?_ ?_
    | refine LeO.bind ?_ (fun _ => ?_)
  ·
   intro y0 y1 y2 y3 y4 y5 y6
   unfold estoversref39_Verify.l1
   repeat' first
    | (with_reducible exact ih0 _ _ _ _ _ _)
    | (with_reducible exact ih1 _ _ _ _ _ _)
    | (with_reducible exact ih2 _ _ _ _ _ _ _)
    | (with_reducible exact estoversref39_Check.mono _ _ _)
    | (with_reducible exact estoversref39_Leaving.mono _ _ _)
    | (with_reducible exact estoversref39_holds.mono _ _ _ _ _ _ _ _ _ _ _ _ _)
    | (with_reducible exact LeO.refl _)
    | (with_reducible exact LeO.none _)
    | (with_reducible refine LeO.ite ?_ ?_)
    | (with_reducible refine LeO.bind ?_ (fun _ => ?_))
    | exact ih0 _ _ _ _ _ _
    | exact ih1 _ _ _ _ _ _
    | exact ih2 _ _ _ _ _ _ _
    | exact estoversref39_Check.mono _ _ _
    | exact estoversref39_Leaving.mono _ _ _
    | exact estoversref39_holds.mono _ _ _ _ _ _ _ _ _ _ _ _ _
    | exact LeO.none _
    | refine LeO.ite ?_ ?_
    | refine LeO.bind ?_ (fun _ => ?_)
theorem estoversref39_Verify.mono : ∀ a0 a1 a2 a3 a4 k,LeO (estoversref39_Verify.f k a0 a1 a2 a3 a4) (estoversref39_Verify.f (k + 1) a0 a1 a2 a3 a4):=by
 intro a0 a1 a2 a3 a4 k;obtain ⟨ih0,ih1,ih2⟩:=estoversref39_Verify.mono_l k
 unfold estoversref39_Verify.f
 repeat' first
  | (with_reducible exact ih0 _ _ _ _ _ _)
  | (with_reducible exact ih1 _ _ _ _ _ _)
  | (with_reducible exact ih2 _ _ _ _ _ _ _)
  | (with_reducible exact estoversref39_Check.mono _ _ _)
  | (with_reducible exact estoversref39_Leaving.mono _ _ _)
  | (with_reducible exact estoversref39_holds.mono _ _ _ _ _ _ _ _ _ _ _ _ _)
  | (with_reducible exact LeO.refl _)
  | (with_reducible exact LeO.none _)
  | (with_reducible refine LeO.ite ?_ ?_)
  | (with_reducible refine LeO.bind ?_ (fun _ => ?_))
  | exact ih0 _ _ _ _ _ _
  | exact ih1 _ _ _ _ _ _
  | exact ih2 _ _ _ _ _ _ _
  | exact estoversref39_Check.mono _ _ _
  | exact estoversref39_Leaving.mono _ _ _
  | exact estoversref39_holds.mono _ _ _ _ _ _ _ _ _ _ _ _ _
  | exact LeO.none _
  | refine LeO.ite ?_ ?_
  | refine LeO.bind ?_ (fun _ => ?_)
def estoversref39_Verify.T19 : Bool × List (List Nat × List Nat):=(true,[([],[]),([],[]),([0,1],[0,1]),([2],[2]),([],[]),([],[]),([],[]),([],[]),([],[]),([],[]),([8,9],[8,9]),([10],[10]),([11],[11]),([3,4,5,6,7,12],[3,4,5,6,7,12]),([13],[13])])
def estoversref39_Verify.B19 : List Nat:=[0,0,3,7,0,0,0,0,0,0,768,1792,3840,8191,16383]
theorem estoversref39_Verify.tab19 : rtab .any (opsOf Try.f41 19) = estoversref39_Verify.T19:=by kernel_rfl
theorem estoversref39_Verify.bits19 : waitsOk estoversref39_Verify.T19.2 estoversref39_Verify.B19 = true:=by kernel_rfl
set_option maxHeartbeats 8000000 in
set_option maxRecDepth 100000 in
theorem estoversref39_Verify.calls (k : Nat) (A0 : Option Addr) (c0 : Nat) (l0 : List (S34)) (A1 : Option Addr) (c1 : Nat) (l1 : List (S30)) (a2 : Int) (a3 : Bool) (A4 : Option Addr) (c4 : Nat) (l4 : List (S34)) (r : Int) (w : World) (hr0 : Kd.C k34 w A0 l0.length l0) (hc0 : l0.length≤c0) (hr1 : Kd.C k30 w A1 l1.length l1) (hc1 : l1.length≤c1) (hr4 : Kd.C k34 w A4 l4.length l4) (hc4 : l4.length≤c4) (h : estoversref39_Verify.f k l0 l1 a2 a3 l4 = some r) :
 Calls Try.prog 41 #[.slice A0 l0.length c0,.slice A1 l1.length c1,.int .i64 a2,.bool a3,.slice A4 l4.length c4] w fun e w' => e = .returned (.int .i64 r)∧Below w.heap.size w w':=by
 have hu34:=Try.underlying34;have HR0:=Aside0.mk hr0;have HC0:=Aside0.mk hc0;clear hr0 hc0;have HR1:=Aside0.mk hr1;have HC1:=Aside0.mk hc1;clear hr1 hc1;have HR4:=Aside0.mk hr4;have HC4:=Aside0.mk hc4;clear hr4 hc4;have HB:=Aside0.mk (Below.refl w.heap.size w)
 have H : ((estoversref39_Check.f k l0 l1).bind fun t358 => (if t358 = 0 then (if a2 < (-1) then (estoversref39_Verify.j0 k l0 l1 a2 a3 l4 true) else (estoversref39_Verify.j0 k l0 l1 a2 a3 l4 (decide (a2≥(l1.length : Int))))) else (some t358))) = some r:=h;clear h;replace H:=Option.bind_eq_some_iff.mp H;obtain ⟨t358,A60,H⟩:=H
 replace H : (if t358 = 0 then (if a2 < (-1) then (estoversref39_Verify.j0 k l0 l1 a2 a3 l4 true) else (estoversref39_Verify.j0 k l0 l1 a2 a3 l4 (decide (a2≥(l1.length : Int))))) else (some t358)) = some r:=H;have A6:=Aside0.mk A60;clear A60;by_cases c7 : t358 = 0
 rotate_left
 ·
  rw [if_neg c7] at H;have c7b0 : (t358 == 0) = false:=beq_eq_false_iff_ne.mpr c7;have c7b1 : (t358 != 0) = true:=bne_iff_ne.mpr c7;obtain rfl:=Option.some.inj H
  go_enter Try.func41,Try.ntmps41
  go_wp2_with (first | ((with_reducible refine gate_callee (f:=32) rfl ?_);refine goesL_ (some 18) rfl rfl Try.func32 (by kernel_rfl) rfl #[.slice A0 l0.length c0,.slice A1 l1.length c1] rfl (by (try simp only [z3_,z4_,z5_]);first | done | rfl | (simp only [z6_,z7_];rfl)) ?_;(with_reducible refine (estoversref39_Check.calls k _ _ l0 _ _ l1 t358 _ ?side1 ?side2 ?side3 ?side4 A6.out).mono ?_);(case side1 => repeat (first | exact HR0.out | (with_reducible refine Kd.C_alloc ?_ _) | (with_reducible refine Kd.C_drewN ?_ _) | (with_reducible refine Kd.C_drew ?_)));(case side2 => exact HC0.out);(case side3 => repeat (first | exact HR1.out | (with_reducible refine Kd.C_alloc ?_ _) | (with_reducible refine Kd.C_drewN ?_ _) | (with_reducible refine Kd.C_drew ?_)));(case side4 => exact HC1.out);rintro e w38 ⟨rfl,hb⟩;refine ⟨_,rfl,?_⟩;have n0_:=Aside0.mk (below_step (by repeat (first | (with_reducible first | exact HB.out | apply b0_ | apply b1_ | apply b2_) | exact HB.out)) hb);clear HB;have HB:=n0_;clear n0_))
  go_ret;exact ⟨by first | rfl | (simp [errW_none,errW_some] <;> rfl) | (simp [*,errW_none,errW_some] <;> rfl),by repeat (first | (with_reducible first | exact HB.out | apply b0_ | apply b1_ | apply b2_) | exact HB.out)⟩
 rw [if_pos c7] at H;have c7b0 : (t358 == 0) = true:=beq_iff_eq.mpr c7;have c7b1 : (t358 != 0) = false:=bne_eq_false_iff_eq.mpr c7;clear c7;have HC8:=Aside0.mk H;clear H
 go_enter Try.func41,Try.ntmps41
 go_upto_region 4 with (first | ((with_reducible refine gate_callee (f:=32) rfl ?_);refine goesL_ (some 18) rfl rfl Try.func32 (by kernel_rfl) rfl #[.slice A0 l0.length c0,.slice A1 l1.length c1] rfl (by (try simp only [z3_,z4_,z5_]);first | done | rfl | (simp only [z6_,z7_];rfl)) ?_;(with_reducible refine (estoversref39_Check.calls k _ _ l0 _ _ l1 t358 _ ?side1 ?side2 ?side3 ?side4 A6.out).mono ?_);(case side1 => repeat (first | exact HR0.out | (with_reducible refine Kd.C_alloc ?_ _) | (with_reducible refine Kd.C_drewN ?_ _) | (with_reducible refine Kd.C_drew ?_)));(case side2 => exact HC0.out);(case side3 => repeat (first | exact HR1.out | (with_reducible refine Kd.C_alloc ?_ _) | (with_reducible refine Kd.C_drewN ?_ _) | (with_reducible refine Kd.C_drew ?_)));(case side4 => exact HC1.out);rintro e w9 ⟨rfl,hb⟩;refine ⟨_,rfl,?_⟩;have n0_:=Aside0.mk (below_step (by repeat (first | (with_reducible first | exact HB.out | apply b0_ | apply b1_ | apply b2_) | exact HB.out)) hb);clear HB;have HB:=n0_;clear n0_))
 (try simp only [Act.put,List.setIfInBounds_toArray,List.set_cons_zero,List.set_cons_succ])
 go_cut [29] (fun v29 wc => ∃ (kq : Nat) (x29_7 : Bool),v29 = .bool x29_7∧Aside0 (estoversref39_Verify.j0 kq l0 l1 a2 a3 l4 x29_7 = some r)∧Aside0 (kq≤k)∧Aside0 (Below w.heap.size w wc))
 case first =>
  have H:=HC8.out;clear HC8;by_cases c10 : a2 < (-1)
  rotate_left
  ·
   rw [if_neg c10] at H;have c10b0 : decide (a2 < (-1)) = false:=decide_eq_false c10;clear c10
   (first | rw [c10b0] | (simp only [i64_w,i32_w];rw [c10b0]) | skip)
   have H':=Aside0.mk H;clear H;go_wp2
   go_meet
   case rel => exact ⟨_,(decide (a2≥(l1.length : Int))),(by first | rfl | (simp;done) | (simp [*];done)),H',⟨by first | omega | exact Nat.le_refl _⟩,⟨by repeat (first | (with_reducible first | exact HB.out | apply b0_ | apply b1_ | apply b2_) | exact HB.out)⟩⟩
  rw [if_pos c10] at H;have c10b0 : decide (a2 < (-1)) = true:=decide_eq_true c10;clear c10
  (first | rw [c10b0] | (simp only [i64_w,i32_w];rw [c10b0]) | skip)
  have H':=Aside0.mk H;clear H;go_wp2
  go_meet
  case rel => exact ⟨_,(true),(by first | rfl | (simp;done) | (simp [*];done)),H',⟨by first | omega | exact Nat.le_refl _⟩,⟨by repeat (first | (with_reducible first | exact HB.out | apply b0_ | apply b1_ | apply b2_) | exact HB.out)⟩⟩
 case rest =>
  clear HC8;obtain ⟨kq,x29_7,rfl,HA,HJ7,HB⟩:=hcut
  cases kq with
   | zero => exact absurd HA.out (by simp [estoversref39_Verify.j0])
   | succ kj7 =>
    have H:=HA.out;clear HA;simp only [estoversref39_Verify.j0] at H;by_cases c11 : x29_7 = true
    rotate_left
    ·
     replace c11:=Bool.eq_false_iff.mpr c11;subst c11
     have H1 : (if (l4.length : Int) = (l0.length : Int) then (estoversref39_Verify.l0 kj7 l0 l1 a2 a3 l4 0) else (some 3)) = some r:=by rw [if_neg (show ¬ (false = true) by decide)] at H;exact H
     clear H;have H:=H1;clear H1;by_cases c12 : (l4.length : Int) = (l0.length : Int)
     rotate_left
     ·
      rw [if_neg c12] at H;have c12b0 : ((l4.length : Int) == (l0.length : Int)) = false:=beq_eq_false_iff_ne.mpr c12;have c12b1 : ((l4.length : Int) != (l0.length : Int)) = true:=bne_iff_ne.mpr c12
      have c12b2 : (l4.length == l0.length) = false:=by first | simpa using c12 | (simp at c12 ⊢;omega)
      obtain rfl:=Option.some.inj H;go_wp2;go_ret;exact ⟨by first | rfl | (simp [errW_none,errW_some] <;> rfl) | (simp [*,errW_none,errW_some] <;> rfl),by repeat (first | (with_reducible first | exact HB.out | apply b0_ | apply b1_ | apply b2_) | exact HB.out)⟩
     rw [if_pos c12] at H;have c12b0 : ((l4.length : Int) == (l0.length : Int)) = true:=beq_iff_eq.mpr c12;have c12b1 : ((l4.length : Int) != (l0.length : Int)) = false:=bne_eq_false_iff_eq.mpr c12
     have c12b2 : (l4.length == l0.length) = true:=by first | simpa using c12 | (simp at c12 ⊢;omega)
     clear c12;have H':=Aside0.mk H;clear H;go_wp2
     go_loopg [12] kj7 (fun kq v12 w' => ∃ (x12_2 : Int),v12 = .int .i64 x12_2∧Aside0 (estoversref39_Verify.l0 kq l0 l1 a2 a3 l4 x12_2 = some r)∧Aside0 (kq≤kj7)∧Aside0 (Below w.heap.size w w'))
     case atStart => exact ⟨(0),(by first | rfl | (simp;done) | (simp [*];done)),H',⟨Nat.le_refl _⟩,⟨by repeat (first | (with_reducible first | exact HB.out | apply b0_ | apply b1_ | apply b2_) | exact HB.out)⟩⟩
     case round =>
      clear H';obtain ⟨x12_2,rfl,HA,HK2,HB⟩:=hrel
      cases gk with
       | zero => exact absurd HA.out (by simp [estoversref39_Verify.l0])
       | succ k2 =>
        have H:=HA.out;clear HA;simp only [estoversref39_Verify.l0] at H;by_cases c13 : x12_2 < (l0.length : Int)
        rotate_left
        ·
         rw [if_neg c13] at H;have c13b0 : decide (x12_2 < (l0.length : Int)) = false:=decide_eq_false c13;clear c13;replace H:=Option.bind_eq_some_iff.mp H;obtain ⟨t363,A250,H⟩:=H;replace H : (estoversref39_Verify.l1 k2 l0 l1 a2 a3 l4 t363 0) = some r:=H;have A25:=Aside0.mk A250;clear A250;have H':=Aside0.mk H;clear H
         go_wp2_with (first | ((with_reducible refine gate_callee (f:=65) rfl ?_);refine goesL_ (some 59) rfl rfl Try.func65 (by kernel_rfl) rfl #[.slice A0 l0.length c0,.slice A1 l1.length c1] rfl (by (try simp only [z3_,z4_,z5_]);first | done | rfl | (simp only [z6_,z7_];rfl)) ?_;(with_reducible refine (estoversref39_Leaving.calls k2 _ _ l0 _ _ l1 t363 _ ?side1 ?side2 ?side3 ?side4 A25.out).mono ?_);(case side1 => repeat (first | exact (Kd.C_below HR0.out HB.out) | (with_reducible refine Kd.C_alloc ?_ _) | (with_reducible refine Kd.C_drewN ?_ _) | (with_reducible refine Kd.C_drew ?_)));(case side2 => exact HC0.out);(case side3 => repeat (first | exact (Kd.C_below HR1.out HB.out) | (with_reducible refine Kd.C_alloc ?_ _) | (with_reducible refine Kd.C_drewN ?_ _) | (with_reducible refine Kd.C_drew ?_)));(case side4 => exact HC1.out);rintro e w26 ⟨v364,rfl,ho0,hb⟩;refine ⟨_,rfl,?_⟩;have n0_:=Aside0.mk (Kd.R_lower ho0 (below_size (by repeat (first | (with_reducible first | exact HB.out | apply b0_ | apply b1_ | apply b2_) | exact HB.out))));have n1_:=Aside0.mk (below_step (by repeat (first | (with_reducible first | exact HB.out | apply b0_ | apply b1_ | apply b2_) | exact HB.out)) hb);clear HB;have HO365:=n0_;have HB:=n1_;clear n0_ n1_;(try clear ho0)))
         go_loopg [15] k2 (fun kq v15 w' => ∃ (x15_3 : Int),v15 = .int .i64 x15_3∧Aside0 (estoversref39_Verify.l1 kq l0 l1 a2 a3 l4 t363 x15_3 = some r)∧Aside0 (kq≤k2)∧Aside0 (Kd.R (Kd.int .i64) 3 w' w.heap.size (fun _ => True) v364 t363)∧Aside0 (Below w.heap.size w w'))
         case atStart => exact ⟨(0),(by first | rfl | (simp;done) | (simp [*];done)),H',⟨Nat.le_refl _⟩,⟨by (with_reducible repeat (first | apply Kd.R_alloc | apply Kd.R_drewN | apply Kd.R_drew));exact HO365.out⟩,⟨by repeat (first | (with_reducible first | exact HB.out | apply b0_ | apply b1_ | apply b2_) | exact HB.out)⟩⟩
         case round =>
          clear H';obtain ⟨x15_3,rfl,HA,HK3,HO_14,HB⟩:=hrel
          cases gk with
           | zero => exact absurd HA.out (by simp [estoversref39_Verify.l1])
           | succ k3 =>
            have H:=HA.out;clear HA;simp only [estoversref39_Verify.l1] at H;by_cases c27 : x15_3 < (l0.length : Int)
            rotate_left
            · rw [if_neg c27] at H;have c27b0 : decide (x15_3 < (l0.length : Int)) = false:=decide_eq_false c27;clear c27;obtain rfl:=Option.some.inj H;go_wp2;go_ret;exact ⟨by first | rfl | (simp [errW_none,errW_some] <;> rfl) | (simp [*,errW_none,errW_some] <;> rfl),by repeat (first | (with_reducible first | exact HB.out | apply b0_ | apply b1_ | apply b2_) | exact HB.out)⟩
            rw [if_pos c27] at H;have c27b0 : decide (x15_3 < (l0.length : Int)) = true:=decide_eq_true c27;clear c27;by_cases c28 : 0≤x15_3
            rotate_left
            · rw [if_neg c28] at H;exact absurd H (by simp)
            rw [if_pos c28] at H;have c28b0 : decide (0≤x15_3) = true:=decide_eq_true c28;clear c28;by_cases c29 : x15_3 < (l4.length : Int)
            rotate_left
            · rw [if_neg c29] at H;exact absurd H (by simp)
            rw [if_pos c29] at H;have c29b0 : decide (x15_3 < (l4.length : Int)) = true:=decide_eq_true c29;clear c29;replace H:=Option.bind_eq_some_iff.mp H;obtain ⟨t368,A300,H⟩:=H;replace H : (if t368 = true then (estoversref39_Verify.l1 k3 l0 l1 a2 a3 l4 t363 (wrap64 (x15_3 + 1))) else (some 19)) = some r:=H;have A30:=Aside0.mk A300;clear A300;by_cases c31 : t368 = true
            rotate_left
            ·
             replace c31:=Bool.eq_false_iff.mpr c31;subst c31
             have H1 : (some 19) = some r:=by rw [if_neg (show ¬ (false = true) by decide)] at H;exact H
             clear H;have H:=H1;clear H1;obtain rfl:=Option.some.inj H
             try go_wp2
             have n0_:=Aside0.mk (Kd.R_drew HO_14.out);have n1_:=Aside0.mk (b2_ HB.out);clear HO_14;clear HB;have HO_14:=n0_;have HB:=n1_;clear n0_ n1_;have p366 : 0≤(x15_3 : Int):=of_decide_eq_true (by first | (with_reducible assumption) | assumption);have q366 : x15_3 < (l0.length : Int):=of_decide_eq_true (by first | (with_reducible assumption) | assumption)
             obtain ⟨ad366,e366,hx366_0,hx366_1,hx366_2,hx366_3,hx366_4,hx366_5,hx366_6⟩:=at_T34 HR0.out x15_3 p366 q366;have hw366_6:=hx366_6;have hw366_5:=hx366_5;have hw366_4:=hx366_4;have hw366_3:=hx366_3;have hw366_2:=hx366_2;have hw366_1:=hx366_1;have hw366_0:=hx366_0;cases e366;replace hx366_0:=(HB.out.cell (World.block_lt_of_cell? w _ hx366_0)).trans hx366_0
             replace hx366_1:=(HB.out.cell (World.block_lt_of_cell? w _ hx366_1)).trans hx366_1;replace hx366_2:=(HB.out.cell (World.block_lt_of_cell? w _ hx366_2)).trans hx366_2;replace hx366_3:=(HB.out.cell (World.block_lt_of_cell? w _ hx366_3)).trans hx366_3;replace hx366_4:=(HB.out.cell (World.block_lt_of_cell? w _ hx366_4)).trans hx366_4
             replace hx366_5:=(HB.out.cell (World.block_lt_of_cell? w _ hx366_5)).trans hx366_5;replace hx366_6:=(HB.out.cell (World.block_lt_of_cell? w _ hx366_6)).trans hx366_6;replace p366:=eq_true p366;replace q366:=eq_true q366;have p367 : 0≤(x15_3 : Int):=of_decide_eq_true (by first | (with_reducible assumption) | assumption)
             have q367 : x15_3 < (l4.length : Int):=of_decide_eq_true (by first | (with_reducible assumption) | assumption);obtain ⟨ad367,e367,hx367_0,hx367_1,hx367_2,hx367_3,hx367_4,hx367_5,hx367_6⟩:=at_T34 HR4.out x15_3 p367 q367;have hw367_6:=hx367_6;have hw367_5:=hx367_5;have hw367_4:=hx367_4;have hw367_3:=hx367_3;have hw367_2:=hx367_2;have hw367_1:=hx367_1
             have hw367_0:=hx367_0;cases e367;replace hx367_0:=(HB.out.cell (World.block_lt_of_cell? w _ hx367_0)).trans hx367_0;replace hx367_1:=(HB.out.cell (World.block_lt_of_cell? w _ hx367_1)).trans hx367_1;replace hx367_2:=(HB.out.cell (World.block_lt_of_cell? w _ hx367_2)).trans hx367_2;replace hx367_3:=(HB.out.cell (World.block_lt_of_cell? w _ hx367_3)).trans hx367_3
             replace hx367_4:=(HB.out.cell (World.block_lt_of_cell? w _ hx367_4)).trans hx367_4;replace hx367_5:=(HB.out.cell (World.block_lt_of_cell? w _ hx367_5)).trans hx367_5;replace hx367_6:=(HB.out.cell (World.block_lt_of_cell? w _ hx367_6)).trans hx367_6;replace p367:=eq_true p367;replace q367:=eq_true q367;obtain ⟨Ao36,co36,eo36⟩:=Kd.R_slice HO_14.out
             (first | subst eo36 | (injection eo36 with f1_ f2_ f3_;have f4_:=f1_.symm;have f5_:=f3_.symm;clear f1_ f2_ f3_;subst f4_;subst f5_))
             refine start_ (n:=15) (S:=fun w' => w'.cell? (ad366.add ((x15_3).toNat * 7)) = some (.int .i64 ((rd_T34 l0 x15_3).f0))∧w'.cell? ⟨(ad366.add ((x15_3).toNat * 7)).block,(ad366.add ((x15_3).toNat * 7)).off + 1,none⟩ = some (.int .i64 ((rd_T34 l0 x15_3).f1))∧w'.cell? ⟨(ad366.add ((x15_3).toNat * 7)).block,(ad366.add ((x15_3).toNat * 7)).off + 2,none⟩ = some (.int .i64 ((rd_T34 l0 x15_3).f2))∧w'.cell? ⟨(ad366.add ((x15_3).toNat * 7)).block,(ad366.add ((x15_3).toNat * 7)).off + 3,none⟩ = some (.int .i64 ((rd_T34 l0 x15_3).f3))∧w'.cell? ⟨(ad366.add ((x15_3).toNat * 7)).block,(ad366.add ((x15_3).toNat * 7)).off + 4,none⟩ = some (.int .i64 ((rd_T34 l0 x15_3).f4))∧w'.cell? ⟨(ad366.add ((x15_3).toNat * 7)).block,(ad366.add ((x15_3).toNat * 7)).off + 5,none⟩ = some (.bool ((rd_T34 l0 x15_3).f5))∧w'.cell? ⟨(ad366.add ((x15_3).toNat * 7)).block,(ad366.add ((x15_3).toNat * 7)).off + 6,none⟩ = some (.bool ((rd_T34 l0 x15_3).f6))∧w'.cell? (ad367.add ((x15_3).toNat * 7)) = some (.int .i64 ((rd_T34 l4 x15_3).f0))∧w'.cell? ⟨(ad367.add ((x15_3).toNat * 7)).block,(ad367.add ((x15_3).toNat * 7)).off + 1,none⟩ = some (.int .i64 ((rd_T34 l4 x15_3).f1))∧w'.cell? ⟨(ad367.add ((x15_3).toNat * 7)).block,(ad367.add ((x15_3).toNat * 7)).off + 2,none⟩ = some (.int .i64 ((rd_T34 l4 x15_3).f2))∧w'.cell? ⟨(ad367.add ((x15_3).toNat * 7)).block,(ad367.add ((x15_3).toNat * 7)).off + 3,none⟩ = some (.int .i64 ((rd_T34 l4 x15_3).f3))∧w'.cell? ⟨(ad367.add ((x15_3).toNat * 7)).block,(ad367.add ((x15_3).toNat * 7)).off + 4,none⟩ = some (.int .i64 ((rd_T34 l4 x15_3).f4))∧w'.cell? ⟨(ad367.add ((x15_3).toNat * 7)).block,(ad367.add ((x15_3).toNat * 7)).off + 5,none⟩ = some (.bool ((rd_T34 l4 x15_3).f5))∧w'.cell? ⟨(ad367.add ((x15_3).toNat * 7)).block,(ad367.add ((x15_3).toNat * 7)).off + 6,none⟩ = some (.bool ((rd_T34 l4 x15_3).f6))) (ds:=[]) #[F0,F0,F0,F0,F0,F0,F0,F0,F0,F0,F0,F0,F0,F0,F0] (by kernel_rfl) rfl rfl ⟨((HB.out.cell (World.block_lt_of_cell? w _ hw366_0)).trans hw366_0),((HB.out.cell (World.block_lt_of_cell? w _ hw366_1)).trans hw366_1),((HB.out.cell (World.block_lt_of_cell? w _ hw366_2)).trans hw366_2),((HB.out.cell (World.block_lt_of_cell? w _ hw366_3)).trans hw366_3),((HB.out.cell (World.block_lt_of_cell? w _ hw366_4)).trans hw366_4),((HB.out.cell (World.block_lt_of_cell? w _ hw366_5)).trans hw366_5),((HB.out.cell (World.block_lt_of_cell? w _ hw366_6)).trans hw366_6),((HB.out.cell (World.block_lt_of_cell? w _ hw367_0)).trans hw367_0),((HB.out.cell (World.block_lt_of_cell? w _ hw367_1)).trans hw367_1),((HB.out.cell (World.block_lt_of_cell? w _ hw367_2)).trans hw367_2),((HB.out.cell (World.block_lt_of_cell? w _ hw367_3)).trans hw367_3),((HB.out.cell (World.block_lt_of_cell? w _ hw367_4)).trans hw367_4),((HB.out.cell (World.block_lt_of_cell? w _ hw367_5)).trans hw367_5),((HB.out.cell (World.block_lt_of_cell? w _ hw367_6)).trans hw367_6)⟩ (fun hHeld => ?_);refine with_tabW estoversref39_Verify.tab19 estoversref39_Verify.bits19 (fun HT_ HW_ => ?_)
             generalize wr.drew = w35 at HO_14 HB hx366_0 hx366_1 hx366_2 hx366_3 hx366_4 hx366_5 hx366_6 hx367_0 hx367_1 hx367_2 hx367_3 hx367_4 hx367_5 hx367_6 hHeld ⊢;refine pure_ (i:=0) (N:=some 66) (v:=?_) (a':=?_) #[T0,F0,F0,F0,F0,F0,F0,F0,F0,F0,F0,F0,F0,F0,F0] rfl rfl (any_of HT_.out (by kernel_rfl)) (fun _ _ _ h => h) (Or.inl ⟨by rfl,?_⟩) ?_ ?_
             rotate_left
             · intro w';go_simp;with_reducible rfl
             rotate_left
             · simp only [Act.put,z0_,z1_,z2_,i64_w,i32_w];rfl
             refine pure_ (i:=1) (N:=some 67) (v:=?_) (a':=?_) #[T0,T0,F0,F0,F0,F0,F0,F0,F0,F0,F0,F0,F0,F0,F0] rfl rfl (any_of HT_.out (by kernel_rfl)) (fun _ _ _ h => h) (Or.inl ⟨by rfl,?_⟩) ?_ ?_
             rotate_left
             · intro w';go_simp;with_reducible rfl
             rotate_left
             · simp only [Act.put,z0_,z1_,z2_,i64_w,i32_w];rfl
             refine pure_ (i:=2) (N:=some 68) (v:=?_) (a':=?_) #[T0,T0,T0,F0,F0,F0,F0,F0,F0,F0,F0,F0,F0,F0,F0] rfl rfl (any_of HT_.out (by kernel_rfl)) (fun _ _ _ h => h) (Or.inl ⟨by rfl,?_⟩) ?_ ?_
             rotate_left
             · intro w';go_simp;with_reducible rfl
             rotate_left
             · simp only [Act.put,z0_,z1_,z2_,i64_w,i32_w];rfl
             refine pure_ (i:=4) (N:=some 70) (v:=?_) (a':=?_) #[T0,T0,T0,F0,T0,F0,F0,F0,F0,F0,F0,F0,F0,F0,F0] rfl rfl (any_of HT_.out (by kernel_rfl)) (fun _ _ _ h => h) (Or.inl ⟨by rfl,?_⟩) ?_ ?_
             rotate_left
             · intro w';go_simp;with_reducible rfl
             rotate_left
             · simp only [Act.put,z0_,z1_,z2_,i64_w,i32_w];rfl
             refine pure_ (i:=5) (N:=some 71) (v:=?_) (a':=?_) #[T0,T0,T0,F0,T0,T0,F0,F0,F0,F0,F0,F0,F0,F0,F0] rfl rfl (any_of HT_.out (by kernel_rfl)) (fun _ _ _ h => h) (Or.inl ⟨by rfl,?_⟩) ?_ ?_
             rotate_left
             · intro w';go_simp;with_reducible rfl
             rotate_left
             · simp only [Act.put,z0_,z1_,z2_,i64_w,i32_w];rfl
             refine pure_ (i:=6) (N:=some 72) (v:=?_) (a':=?_) #[T0,T0,T0,F0,T0,T0,T0,F0,F0,F0,F0,F0,F0,F0,F0] rfl rfl (any_of HT_.out (by kernel_rfl)) (fun _ _ _ h => h) (Or.inl ⟨by rfl,?_⟩) ?_ ?_
             rotate_left
             · intro w';go_simp;with_reducible rfl
             rotate_left
             · simp only [Act.put,z0_,z1_,z2_,i64_w,i32_w];rfl
             refine pure_ (i:=7) (N:=some 73) (v:=?_) (a':=?_) #[T0,T0,T0,F0,T0,T0,T0,T0,F0,F0,F0,F0,F0,F0,F0] rfl rfl (any_of HT_.out (by kernel_rfl)) (fun _ _ _ h => h) (Or.inl ⟨by rfl,?_⟩) ?_ ?_
             rotate_left
             · intro w';go_simp;with_reducible rfl
             rotate_left
             · simp only [Act.put,z0_,z1_,z2_,i64_w,i32_w];rfl
             refine pure_ (i:=8) (N:=some 74) (v:=?_) (a':=?_) #[T0,T0,T0,F0,T0,T0,T0,T0,T0,F0,F0,F0,F0,F0,F0] rfl rfl (any_of HT_.out (by kernel_rfl)) (fun _ _ _ h => h) (Or.inl ⟨by rfl,?_⟩) ?_ ?_
             rotate_left
             · intro w';go_simp;with_reducible rfl
             rotate_left
             · simp only [Act.put,z0_,z1_,z2_,i64_w,i32_w];rfl
             refine pure_ (i:=9) (N:=some 75) (v:=?_) (a':=?_) #[T0,T0,T0,F0,T0,T0,T0,T0,T0,T0,F0,F0,F0,F0,F0] rfl rfl (any_of HT_.out (by kernel_rfl)) (fun _ _ _ h => h) (Or.inl ⟨by rfl,?_⟩) ?_ ?_
             rotate_left
             · intro w';go_simp;with_reducible rfl
             rotate_left
             · simp only [Act.put,z0_,z1_,z2_,i64_w,i32_w];rfl
             refine pure_ (i:=10) (N:=some 76) (v:=?_) (a':=?_) #[T0,T0,T0,F0,T0,T0,T0,T0,T0,T0,T0,F0,F0,F0,F0] rfl rfl (any_of HT_.out (by kernel_rfl)) (fun _ _ _ h => h) (Or.inl ⟨by rfl,?_⟩) ?_ ?_
             rotate_left
             · intro w';go_simp;with_reducible rfl
             rotate_left
             · simp only [Act.put,z0_,z1_,z2_,i64_w,i32_w];rfl
             refine pure_ (i:=11) (N:=some 77) (v:=?_) (a':=?_) #[T0,T0,T0,F0,T0,T0,T0,T0,T0,T0,T0,T0,F0,F0,F0] rfl rfl (any_of HT_.out (by kernel_rfl)) (fun _ _ _ h => h) (Or.inl ⟨by rfl,?_⟩) ?_ ?_
             rotate_left
             · intro w';go_simp;with_reducible rfl
             rotate_left
             · simp only [Act.put,z0_,z1_,z2_,i64_w,i32_w];rfl
             refine take_ (i:=3) (N:=some 69) (v:=?_) (a':=?_) #[T0,T0,T0,T0,T0,T0,T0,T0,T0,T0,T0,T0,F0,F0,F0] rfl rfl (take_ofW HT_.out HW_.out (by kernel_rfl)) (fun _ _ _ h => h) (Or.inl ⟨by rfl,?_⟩) hHeld ?_ ?_
             rotate_left
             ·
              rintro w' ⟨s0,s1,s2,s3,s4,s5,s6,s7,s8,s9,s10,s11,s12,s13⟩
              go_simp;with_reducible rfl
             rotate_left
             · simp only [Act.put,z0_,z1_,z2_,i64_w,i32_w];rfl
             refine take_ (i:=12) (N:=some 78) (v:=?_) (a':=?_) #[T0,T0,T0,T0,T0,T0,T0,T0,T0,T0,T0,T0,T0,F0,F0] rfl rfl (take_ofW HT_.out HW_.out (by kernel_rfl)) (fun _ _ _ h => h) (Or.inl ⟨by rfl,?_⟩) hHeld ?_ ?_
             rotate_left
             ·
              rintro w' ⟨s0,s1,s2,s3,s4,s5,s6,s7,s8,s9,s10,s11,s12,s13⟩
              go_simp;with_reducible rfl
             rotate_left
             · simp only [Act.put,z0_,z1_,z2_,i64_w,i32_w];rfl
             refine one_ (i:=13) (N:=some 79) #[T0,T0,T0,T0,T0,T0,T0,T0,T0,T0,T0,T0,T0,T0,F0] rfl rfl (one_of HT_.out (by kernel_rfl)) (by decide) (fun K hK => ?_)
             refine goes_ Try.func68 (by kernel_rfl) rfl #[.agg #[.int .i64 ((rd_T34 l0 x15_3).f0),.int .i64 ((rd_T34 l0 x15_3).f1),.int .i64 ((rd_T34 l0 x15_3).f2),.int .i64 ((rd_T34 l0 x15_3).f3),.int .i64 ((rd_T34 l0 x15_3).f4),.bool ((rd_T34 l0 x15_3).f5),.bool ((rd_T34 l0 x15_3).f6)],.slice A1 l1.length c1,.slice Ao36 t363.length co36,.int .i64 a2,.bool a3,.int .i64 ((rd_T34 l4 x15_3).f3)] (by rfl) rfl rfl (by (try simp only [z3_,z4_,z5_]);first | done | rfl | (simp only [z6_,z7_];rfl)) ?_
             with_reducible refine (estoversref39_holds.calls k3 ((rd_T34 l0 x15_3).f0) ((rd_T34 l0 x15_3).f1) ((rd_T34 l0 x15_3).f2) ((rd_T34 l0 x15_3).f3) ((rd_T34 l0 x15_3).f4) ((rd_T34 l0 x15_3).f5) ((rd_T34 l0 x15_3).f6) _ _ l1 _ _ t363 a2 a3 ((rd_T34 l4 x15_3).f3) false _ ?side1 ?side2 ?side3 ?side4 A30.out).mono ?_
             (case side1 => repeat (first | exact (Kd.C_below HR1.out HB.out) | (with_reducible refine Kd.C_alloc ?_ _) | (with_reducible refine Kd.C_drewN ?_ _) | (with_reducible refine Kd.C_drew ?_)))
             (case side2 => exact HC1.out)
             (case side3 => repeat (first | exact (Kd.R_reads' HO_14.out).2.2 | (with_reducible refine Kd.C_alloc ?_ _) | (with_reducible refine Kd.C_drewN ?_ _) | (with_reducible refine Kd.C_drew ?_)))
             (case side4 => exact (Kd.R_reads' HO_14.out).2.1)
             rintro e w37 ⟨rfl,hb⟩
             refine ⟨_,rfl,?_⟩;have n0_:=Aside0.mk (Kd.R_below (by (with_reducible repeat (first | apply Kd.R_alloc | apply Kd.R_drewN | apply Kd.R_drew));exact HO_14.out) hb);have n1_:=Aside0.mk (below_step (by repeat (first | (with_reducible first | exact HB.out | apply b0_ | apply b1_ | apply b2_) | exact HB.out)) hb);clear HO_14;clear HB;have HO_14:=n0_;have HB:=n1_;clear n0_ n1_
             (try clear hb)
             (try clear hb2)
             (try clear hk)
             (try clear hi)
             refine hK.out _ _ ⟨((HB.out.cell (World.block_lt_of_cell? w _ hw366_0)).trans hw366_0),((HB.out.cell (World.block_lt_of_cell? w _ hw366_1)).trans hw366_1),((HB.out.cell (World.block_lt_of_cell? w _ hw366_2)).trans hw366_2),((HB.out.cell (World.block_lt_of_cell? w _ hw366_3)).trans hw366_3),((HB.out.cell (World.block_lt_of_cell? w _ hw366_4)).trans hw366_4),((HB.out.cell (World.block_lt_of_cell? w _ hw366_5)).trans hw366_5),((HB.out.cell (World.block_lt_of_cell? w _ hw366_6)).trans hw366_6),((HB.out.cell (World.block_lt_of_cell? w _ hw367_0)).trans hw367_0),((HB.out.cell (World.block_lt_of_cell? w _ hw367_1)).trans hw367_1),((HB.out.cell (World.block_lt_of_cell? w _ hw367_2)).trans hw367_2),((HB.out.cell (World.block_lt_of_cell? w _ hw367_3)).trans hw367_3),((HB.out.cell (World.block_lt_of_cell? w _ hw367_4)).trans hw367_4),((HB.out.cell (World.block_lt_of_cell? w _ hw367_5)).trans hw367_5),((HB.out.cell (World.block_lt_of_cell? w _ hw367_6)).trans hw367_6)⟩ (fun hHeld => ?_)
             clear hK K;refine norm_ (a':=?_) ?_ ?_
             rotate_left
             ·
              show Act.put _ (some 79) _ = _
              simp only [Act.put,z0_,z1_,z2_,i64_w,i32_w];rfl
             refine pure_ (i:=14) (N:=some 80) (v:=?_) (a':=?_) #[T0,T0,T0,T0,T0,T0,T0,T0,T0,T0,T0,T0,T0,T0,T0] rfl rfl (any_of HT_.out (by kernel_rfl)) (fun _ _ _ h => h) (Or.inl ⟨by rfl,?_⟩) ?_ ?_
             rotate_left
             · intro w';go_simp;with_reducible rfl
             rotate_left
             · simp only [Act.put,z0_,z1_,z2_,i64_w,i32_w];rfl
             refine done_ (done_of HT_.out (by kernel_rfl)) ?_
             try go_wp2
             go_ret;exact ⟨by first | rfl | (simp [errW_none,errW_some] <;> rfl) | (simp [*,errW_none,errW_some] <;> rfl),by repeat (first | (with_reducible first | exact HB.out | apply b0_ | apply b1_ | apply b2_) | exact HB.out)⟩
            subst c31
            have H1 : (estoversref39_Verify.l1 k3 l0 l1 a2 a3 l4 t363 (wrap64 (x15_3 + 1))) = some r:=by rw [if_pos rfl] at H;exact H
            clear H;have H:=H1;clear H1;have H':=Aside0.mk H;clear H
            try go_wp2
            have n0_:=Aside0.mk (Kd.R_drew HO_14.out);have n1_:=Aside0.mk (b2_ HB.out);clear HO_14;clear HB;have HO_14:=n0_;have HB:=n1_;clear n0_ n1_;have p366 : 0≤(x15_3 : Int):=of_decide_eq_true (by first | (with_reducible assumption) | assumption);have q366 : x15_3 < (l0.length : Int):=of_decide_eq_true (by first | (with_reducible assumption) | assumption)
            obtain ⟨ad366,e366,hx366_0,hx366_1,hx366_2,hx366_3,hx366_4,hx366_5,hx366_6⟩:=at_T34 HR0.out x15_3 p366 q366;have hw366_6:=hx366_6;have hw366_5:=hx366_5;have hw366_4:=hx366_4;have hw366_3:=hx366_3;have hw366_2:=hx366_2;have hw366_1:=hx366_1;have hw366_0:=hx366_0;cases e366;replace hx366_0:=(HB.out.cell (World.block_lt_of_cell? w _ hx366_0)).trans hx366_0
            replace hx366_1:=(HB.out.cell (World.block_lt_of_cell? w _ hx366_1)).trans hx366_1;replace hx366_2:=(HB.out.cell (World.block_lt_of_cell? w _ hx366_2)).trans hx366_2;replace hx366_3:=(HB.out.cell (World.block_lt_of_cell? w _ hx366_3)).trans hx366_3;replace hx366_4:=(HB.out.cell (World.block_lt_of_cell? w _ hx366_4)).trans hx366_4
            replace hx366_5:=(HB.out.cell (World.block_lt_of_cell? w _ hx366_5)).trans hx366_5;replace hx366_6:=(HB.out.cell (World.block_lt_of_cell? w _ hx366_6)).trans hx366_6;replace p366:=eq_true p366;replace q366:=eq_true q366;have p367 : 0≤(x15_3 : Int):=of_decide_eq_true (by first | (with_reducible assumption) | assumption)
            have q367 : x15_3 < (l4.length : Int):=of_decide_eq_true (by first | (with_reducible assumption) | assumption);obtain ⟨ad367,e367,hx367_0,hx367_1,hx367_2,hx367_3,hx367_4,hx367_5,hx367_6⟩:=at_T34 HR4.out x15_3 p367 q367;have hw367_6:=hx367_6;have hw367_5:=hx367_5;have hw367_4:=hx367_4;have hw367_3:=hx367_3;have hw367_2:=hx367_2;have hw367_1:=hx367_1
            have hw367_0:=hx367_0;cases e367;replace hx367_0:=(HB.out.cell (World.block_lt_of_cell? w _ hx367_0)).trans hx367_0;replace hx367_1:=(HB.out.cell (World.block_lt_of_cell? w _ hx367_1)).trans hx367_1;replace hx367_2:=(HB.out.cell (World.block_lt_of_cell? w _ hx367_2)).trans hx367_2;replace hx367_3:=(HB.out.cell (World.block_lt_of_cell? w _ hx367_3)).trans hx367_3
            replace hx367_4:=(HB.out.cell (World.block_lt_of_cell? w _ hx367_4)).trans hx367_4;replace hx367_5:=(HB.out.cell (World.block_lt_of_cell? w _ hx367_5)).trans hx367_5;replace hx367_6:=(HB.out.cell (World.block_lt_of_cell? w _ hx367_6)).trans hx367_6;replace p367:=eq_true p367;replace q367:=eq_true q367;obtain ⟨Ao33,co33,eo33⟩:=Kd.R_slice HO_14.out
            (first | subst eo33 | (injection eo33 with f1_ f2_ f3_;have f4_:=f1_.symm;have f5_:=f3_.symm;clear f1_ f2_ f3_;subst f4_;subst f5_))
            refine start_ (n:=15) (S:=fun w' => w'.cell? (ad366.add ((x15_3).toNat * 7)) = some (.int .i64 ((rd_T34 l0 x15_3).f0))∧w'.cell? ⟨(ad366.add ((x15_3).toNat * 7)).block,(ad366.add ((x15_3).toNat * 7)).off + 1,none⟩ = some (.int .i64 ((rd_T34 l0 x15_3).f1))∧w'.cell? ⟨(ad366.add ((x15_3).toNat * 7)).block,(ad366.add ((x15_3).toNat * 7)).off + 2,none⟩ = some (.int .i64 ((rd_T34 l0 x15_3).f2))∧w'.cell? ⟨(ad366.add ((x15_3).toNat * 7)).block,(ad366.add ((x15_3).toNat * 7)).off + 3,none⟩ = some (.int .i64 ((rd_T34 l0 x15_3).f3))∧w'.cell? ⟨(ad366.add ((x15_3).toNat * 7)).block,(ad366.add ((x15_3).toNat * 7)).off + 4,none⟩ = some (.int .i64 ((rd_T34 l0 x15_3).f4))∧w'.cell? ⟨(ad366.add ((x15_3).toNat * 7)).block,(ad366.add ((x15_3).toNat * 7)).off + 5,none⟩ = some (.bool ((rd_T34 l0 x15_3).f5))∧w'.cell? ⟨(ad366.add ((x15_3).toNat * 7)).block,(ad366.add ((x15_3).toNat * 7)).off + 6,none⟩ = some (.bool ((rd_T34 l0 x15_3).f6))∧w'.cell? (ad367.add ((x15_3).toNat * 7)) = some (.int .i64 ((rd_T34 l4 x15_3).f0))∧w'.cell? ⟨(ad367.add ((x15_3).toNat * 7)).block,(ad367.add ((x15_3).toNat * 7)).off + 1,none⟩ = some (.int .i64 ((rd_T34 l4 x15_3).f1))∧w'.cell? ⟨(ad367.add ((x15_3).toNat * 7)).block,(ad367.add ((x15_3).toNat * 7)).off + 2,none⟩ = some (.int .i64 ((rd_T34 l4 x15_3).f2))∧w'.cell? ⟨(ad367.add ((x15_3).toNat * 7)).block,(ad367.add ((x15_3).toNat * 7)).off + 3,none⟩ = some (.int .i64 ((rd_T34 l4 x15_3).f3))∧w'.cell? ⟨(ad367.add ((x15_3).toNat * 7)).block,(ad367.add ((x15_3).toNat * 7)).off + 4,none⟩ = some (.int .i64 ((rd_T34 l4 x15_3).f4))∧w'.cell? ⟨(ad367.add ((x15_3).toNat * 7)).block,(ad367.add ((x15_3).toNat * 7)).off + 5,none⟩ = some (.bool ((rd_T34 l4 x15_3).f5))∧w'.cell? ⟨(ad367.add ((x15_3).toNat * 7)).block,(ad367.add ((x15_3).toNat * 7)).off + 6,none⟩ = some (.bool ((rd_T34 l4 x15_3).f6))) (ds:=[]) #[F0,F0,F0,F0,F0,F0,F0,F0,F0,F0,F0,F0,F0,F0,F0] (by kernel_rfl) rfl rfl ⟨((HB.out.cell (World.block_lt_of_cell? w _ hw366_0)).trans hw366_0),((HB.out.cell (World.block_lt_of_cell? w _ hw366_1)).trans hw366_1),((HB.out.cell (World.block_lt_of_cell? w _ hw366_2)).trans hw366_2),((HB.out.cell (World.block_lt_of_cell? w _ hw366_3)).trans hw366_3),((HB.out.cell (World.block_lt_of_cell? w _ hw366_4)).trans hw366_4),((HB.out.cell (World.block_lt_of_cell? w _ hw366_5)).trans hw366_5),((HB.out.cell (World.block_lt_of_cell? w _ hw366_6)).trans hw366_6),((HB.out.cell (World.block_lt_of_cell? w _ hw367_0)).trans hw367_0),((HB.out.cell (World.block_lt_of_cell? w _ hw367_1)).trans hw367_1),((HB.out.cell (World.block_lt_of_cell? w _ hw367_2)).trans hw367_2),((HB.out.cell (World.block_lt_of_cell? w _ hw367_3)).trans hw367_3),((HB.out.cell (World.block_lt_of_cell? w _ hw367_4)).trans hw367_4),((HB.out.cell (World.block_lt_of_cell? w _ hw367_5)).trans hw367_5),((HB.out.cell (World.block_lt_of_cell? w _ hw367_6)).trans hw367_6)⟩ (fun hHeld => ?_);refine with_tabW estoversref39_Verify.tab19 estoversref39_Verify.bits19 (fun HT_ HW_ => ?_)
            generalize wr.drew = w32 at HO_14 HB hx366_0 hx366_1 hx366_2 hx366_3 hx366_4 hx366_5 hx366_6 hx367_0 hx367_1 hx367_2 hx367_3 hx367_4 hx367_5 hx367_6 hHeld ⊢;refine pure_ (i:=0) (N:=some 66) (v:=?_) (a':=?_) #[T0,F0,F0,F0,F0,F0,F0,F0,F0,F0,F0,F0,F0,F0,F0] rfl rfl (any_of HT_.out (by kernel_rfl)) (fun _ _ _ h => h) (Or.inl ⟨by rfl,?_⟩) ?_ ?_
            rotate_left
            · intro w';go_simp;with_reducible rfl
            rotate_left
            · simp only [Act.put,z0_,z1_,z2_,i64_w,i32_w];rfl
            refine pure_ (i:=1) (N:=some 67) (v:=?_) (a':=?_) #[T0,T0,F0,F0,F0,F0,F0,F0,F0,F0,F0,F0,F0,F0,F0] rfl rfl (any_of HT_.out (by kernel_rfl)) (fun _ _ _ h => h) (Or.inl ⟨by rfl,?_⟩) ?_ ?_
            rotate_left
            · intro w';go_simp;with_reducible rfl
            rotate_left
            · simp only [Act.put,z0_,z1_,z2_,i64_w,i32_w];rfl
            refine pure_ (i:=2) (N:=some 68) (v:=?_) (a':=?_) #[T0,T0,T0,F0,F0,F0,F0,F0,F0,F0,F0,F0,F0,F0,F0] rfl rfl (any_of HT_.out (by kernel_rfl)) (fun _ _ _ h => h) (Or.inl ⟨by rfl,?_⟩) ?_ ?_
            rotate_left
            · intro w';go_simp;with_reducible rfl
            rotate_left
            · simp only [Act.put,z0_,z1_,z2_,i64_w,i32_w];rfl
            refine pure_ (i:=4) (N:=some 70) (v:=?_) (a':=?_) #[T0,T0,T0,F0,T0,F0,F0,F0,F0,F0,F0,F0,F0,F0,F0] rfl rfl (any_of HT_.out (by kernel_rfl)) (fun _ _ _ h => h) (Or.inl ⟨by rfl,?_⟩) ?_ ?_
            rotate_left
            · intro w';go_simp;with_reducible rfl
            rotate_left
            · simp only [Act.put,z0_,z1_,z2_,i64_w,i32_w];rfl
            refine pure_ (i:=5) (N:=some 71) (v:=?_) (a':=?_) #[T0,T0,T0,F0,T0,T0,F0,F0,F0,F0,F0,F0,F0,F0,F0] rfl rfl (any_of HT_.out (by kernel_rfl)) (fun _ _ _ h => h) (Or.inl ⟨by rfl,?_⟩) ?_ ?_
            rotate_left
            · intro w';go_simp;with_reducible rfl
            rotate_left
            · simp only [Act.put,z0_,z1_,z2_,i64_w,i32_w];rfl
            refine pure_ (i:=6) (N:=some 72) (v:=?_) (a':=?_) #[T0,T0,T0,F0,T0,T0,T0,F0,F0,F0,F0,F0,F0,F0,F0] rfl rfl (any_of HT_.out (by kernel_rfl)) (fun _ _ _ h => h) (Or.inl ⟨by rfl,?_⟩) ?_ ?_
            rotate_left
            · intro w';go_simp;with_reducible rfl
            rotate_left
            · simp only [Act.put,z0_,z1_,z2_,i64_w,i32_w];rfl
            refine pure_ (i:=7) (N:=some 73) (v:=?_) (a':=?_) #[T0,T0,T0,F0,T0,T0,T0,T0,F0,F0,F0,F0,F0,F0,F0] rfl rfl (any_of HT_.out (by kernel_rfl)) (fun _ _ _ h => h) (Or.inl ⟨by rfl,?_⟩) ?_ ?_
            rotate_left
            · intro w';go_simp;with_reducible rfl
            rotate_left
            · simp only [Act.put,z0_,z1_,z2_,i64_w,i32_w];rfl
            refine pure_ (i:=8) (N:=some 74) (v:=?_) (a':=?_) #[T0,T0,T0,F0,T0,T0,T0,T0,T0,F0,F0,F0,F0,F0,F0] rfl rfl (any_of HT_.out (by kernel_rfl)) (fun _ _ _ h => h) (Or.inl ⟨by rfl,?_⟩) ?_ ?_
            rotate_left
            · intro w';go_simp;with_reducible rfl
            rotate_left
            · simp only [Act.put,z0_,z1_,z2_,i64_w,i32_w];rfl
            refine pure_ (i:=9) (N:=some 75) (v:=?_) (a':=?_) #[T0,T0,T0,F0,T0,T0,T0,T0,T0,T0,F0,F0,F0,F0,F0] rfl rfl (any_of HT_.out (by kernel_rfl)) (fun _ _ _ h => h) (Or.inl ⟨by rfl,?_⟩) ?_ ?_
            rotate_left
            · intro w';go_simp;with_reducible rfl
            rotate_left
            · simp only [Act.put,z0_,z1_,z2_,i64_w,i32_w];rfl
            refine pure_ (i:=10) (N:=some 76) (v:=?_) (a':=?_) #[T0,T0,T0,F0,T0,T0,T0,T0,T0,T0,T0,F0,F0,F0,F0] rfl rfl (any_of HT_.out (by kernel_rfl)) (fun _ _ _ h => h) (Or.inl ⟨by rfl,?_⟩) ?_ ?_
            rotate_left
            · intro w';go_simp;with_reducible rfl
            rotate_left
            · simp only [Act.put,z0_,z1_,z2_,i64_w,i32_w];rfl
            refine pure_ (i:=11) (N:=some 77) (v:=?_) (a':=?_) #[T0,T0,T0,F0,T0,T0,T0,T0,T0,T0,T0,T0,F0,F0,F0] rfl rfl (any_of HT_.out (by kernel_rfl)) (fun _ _ _ h => h) (Or.inl ⟨by rfl,?_⟩) ?_ ?_
            rotate_left
            · intro w';go_simp;with_reducible rfl
            rotate_left
            · simp only [Act.put,z0_,z1_,z2_,i64_w,i32_w];rfl
            refine take_ (i:=3) (N:=some 69) (v:=?_) (a':=?_) #[T0,T0,T0,T0,T0,T0,T0,T0,T0,T0,T0,T0,F0,F0,F0] rfl rfl (take_ofW HT_.out HW_.out (by kernel_rfl)) (fun _ _ _ h => h) (Or.inl ⟨by rfl,?_⟩) hHeld ?_ ?_
            rotate_left
            ·
             rintro w' ⟨s0,s1,s2,s3,s4,s5,s6,s7,s8,s9,s10,s11,s12,s13⟩
             go_simp;with_reducible rfl
            rotate_left
            · simp only [Act.put,z0_,z1_,z2_,i64_w,i32_w];rfl
            refine take_ (i:=12) (N:=some 78) (v:=?_) (a':=?_) #[T0,T0,T0,T0,T0,T0,T0,T0,T0,T0,T0,T0,T0,F0,F0] rfl rfl (take_ofW HT_.out HW_.out (by kernel_rfl)) (fun _ _ _ h => h) (Or.inl ⟨by rfl,?_⟩) hHeld ?_ ?_
            rotate_left
            ·
             rintro w' ⟨s0,s1,s2,s3,s4,s5,s6,s7,s8,s9,s10,s11,s12,s13⟩
             go_simp;with_reducible rfl
            rotate_left
            · simp only [Act.put,z0_,z1_,z2_,i64_w,i32_w];rfl
            refine one_ (i:=13) (N:=some 79) #[T0,T0,T0,T0,T0,T0,T0,T0,T0,T0,T0,T0,T0,T0,F0] rfl rfl (one_of HT_.out (by kernel_rfl)) (by decide) (fun K hK => ?_)
            refine goes_ Try.func68 (by kernel_rfl) rfl #[.agg #[.int .i64 ((rd_T34 l0 x15_3).f0),.int .i64 ((rd_T34 l0 x15_3).f1),.int .i64 ((rd_T34 l0 x15_3).f2),.int .i64 ((rd_T34 l0 x15_3).f3),.int .i64 ((rd_T34 l0 x15_3).f4),.bool ((rd_T34 l0 x15_3).f5),.bool ((rd_T34 l0 x15_3).f6)],.slice A1 l1.length c1,.slice Ao33 t363.length co33,.int .i64 a2,.bool a3,.int .i64 ((rd_T34 l4 x15_3).f3)] (by rfl) rfl rfl (by (try simp only [z3_,z4_,z5_]);first | done | rfl | (simp only [z6_,z7_];rfl)) ?_
            with_reducible refine (estoversref39_holds.calls k3 ((rd_T34 l0 x15_3).f0) ((rd_T34 l0 x15_3).f1) ((rd_T34 l0 x15_3).f2) ((rd_T34 l0 x15_3).f3) ((rd_T34 l0 x15_3).f4) ((rd_T34 l0 x15_3).f5) ((rd_T34 l0 x15_3).f6) _ _ l1 _ _ t363 a2 a3 ((rd_T34 l4 x15_3).f3) true _ ?side1 ?side2 ?side3 ?side4 A30.out).mono ?_
            (case side1 => repeat (first | exact (Kd.C_below HR1.out HB.out) | (with_reducible refine Kd.C_alloc ?_ _) | (with_reducible refine Kd.C_drewN ?_ _) | (with_reducible refine Kd.C_drew ?_)))
            (case side2 => exact HC1.out)
            (case side3 => repeat (first | exact (Kd.R_reads' HO_14.out).2.2 | (with_reducible refine Kd.C_alloc ?_ _) | (with_reducible refine Kd.C_drewN ?_ _) | (with_reducible refine Kd.C_drew ?_)))
            (case side4 => exact (Kd.R_reads' HO_14.out).2.1)
            rintro e w34 ⟨rfl,hb⟩
            refine ⟨_,rfl,?_⟩;have n0_:=Aside0.mk (Kd.R_below (by (with_reducible repeat (first | apply Kd.R_alloc | apply Kd.R_drewN | apply Kd.R_drew));exact HO_14.out) hb);have n1_:=Aside0.mk (below_step (by repeat (first | (with_reducible first | exact HB.out | apply b0_ | apply b1_ | apply b2_) | exact HB.out)) hb);clear HO_14;clear HB;have HO_14:=n0_;have HB:=n1_;clear n0_ n1_
            (try clear hb)
            (try clear hb2)
            (try clear hk)
            (try clear hi)
            refine hK.out _ _ ⟨((HB.out.cell (World.block_lt_of_cell? w _ hw366_0)).trans hw366_0),((HB.out.cell (World.block_lt_of_cell? w _ hw366_1)).trans hw366_1),((HB.out.cell (World.block_lt_of_cell? w _ hw366_2)).trans hw366_2),((HB.out.cell (World.block_lt_of_cell? w _ hw366_3)).trans hw366_3),((HB.out.cell (World.block_lt_of_cell? w _ hw366_4)).trans hw366_4),((HB.out.cell (World.block_lt_of_cell? w _ hw366_5)).trans hw366_5),((HB.out.cell (World.block_lt_of_cell? w _ hw366_6)).trans hw366_6),((HB.out.cell (World.block_lt_of_cell? w _ hw367_0)).trans hw367_0),((HB.out.cell (World.block_lt_of_cell? w _ hw367_1)).trans hw367_1),((HB.out.cell (World.block_lt_of_cell? w _ hw367_2)).trans hw367_2),((HB.out.cell (World.block_lt_of_cell? w _ hw367_3)).trans hw367_3),((HB.out.cell (World.block_lt_of_cell? w _ hw367_4)).trans hw367_4),((HB.out.cell (World.block_lt_of_cell? w _ hw367_5)).trans hw367_5),((HB.out.cell (World.block_lt_of_cell? w _ hw367_6)).trans hw367_6)⟩ (fun hHeld => ?_)
            clear hK K;refine norm_ (a':=?_) ?_ ?_
            rotate_left
            ·
             show Act.put _ (some 79) _ = _
             simp only [Act.put,z0_,z1_,z2_,i64_w,i32_w];rfl
            refine pure_ (i:=14) (N:=some 80) (v:=?_) (a':=?_) #[T0,T0,T0,T0,T0,T0,T0,T0,T0,T0,T0,T0,T0,T0,T0] rfl rfl (any_of HT_.out (by kernel_rfl)) (fun _ _ _ h => h) (Or.inl ⟨by rfl,?_⟩) ?_ ?_
            rotate_left
            · intro w';go_simp;with_reducible rfl
            rotate_left
            · simp only [Act.put,z0_,z1_,z2_,i64_w,i32_w];rfl
            refine done_ (done_of HT_.out (by kernel_rfl)) ?_
            try go_wp2
            go_roundg k3
            case measure => have:=HJ7.out;have:=HK2.out;have:=HK3.out;omega
            case rel => exact ⟨(wrap64 (x15_3 + 1)),(by first | rfl | (simp;done) | (simp [*];done)),H',⟨by have:=HJ7.out;have:=HK2.out;have:=HK3.out;omega⟩,⟨by (with_reducible repeat (first | apply Kd.R_alloc | apply Kd.R_drewN | apply Kd.R_drew));exact HO_14.out⟩,⟨by repeat (first | (with_reducible first | exact HB.out | apply b0_ | apply b1_ | apply b2_) | exact HB.out)⟩⟩
        rw [if_pos c13] at H;have c13b0 : decide (x12_2 < (l0.length : Int)) = true:=decide_eq_true c13;clear c13;by_cases c14 : 0≤x12_2
        rotate_left
        · rw [if_neg c14] at H;exact absurd H (by simp)
        rw [if_pos c14] at H;have c14b0 : decide (0≤x12_2) = true:=decide_eq_true c14;clear c14;by_cases c15 : x12_2 < (l4.length : Int)
        rotate_left
        · rw [if_neg c15] at H;exact absurd H (by simp)
        rw [if_pos c15] at H;have c15b0 : decide (x12_2 < (l4.length : Int)) = true:=decide_eq_true c15;clear c15
        by_cases c16 : (!(((rd_T34 l0 x12_2).f0) == ((rd_T34 l4 x12_2).f0)) || (!(((rd_T34 l0 x12_2).f1) == ((rd_T34 l4 x12_2).f1)) || (!(((rd_T34 l0 x12_2).f2) == ((rd_T34 l4 x12_2).f2)) || (!(((rd_T34 l0 x12_2).f4) == ((rd_T34 l4 x12_2).f4)) || (!(((rd_T34 l0 x12_2).f5) == ((rd_T34 l4 x12_2).f5)) || (!(((rd_T34 l0 x12_2).f6) == ((rd_T34 l4 x12_2).f6)))))))) = true
        rotate_left
        ·
         rw [if_neg c16] at H
         have c16b0 : (!(((rd_T34 l0 x12_2).f0) == ((rd_T34 l4 x12_2).f0)) || (!(((rd_T34 l0 x12_2).f1) == ((rd_T34 l4 x12_2).f1)) || (!(((rd_T34 l0 x12_2).f2) == ((rd_T34 l4 x12_2).f2)) || (!(((rd_T34 l0 x12_2).f4) == ((rd_T34 l4 x12_2).f4)) || (!(((rd_T34 l0 x12_2).f5) == ((rd_T34 l4 x12_2).f5)) || (!(((rd_T34 l0 x12_2).f6) == ((rd_T34 l4 x12_2).f6)))))))) = false:=by simpa using c16
         clear c16;have H':=Aside0.mk H;clear H;have p359 : 0≤(x12_2 : Int):=of_decide_eq_true (by first | (with_reducible assumption) | assumption);have q359 : x12_2 < (l0.length : Int):=of_decide_eq_true (by first | (with_reducible assumption) | assumption);obtain ⟨ad359,e359,hx359_0,hx359_1,hx359_2,hx359_3,hx359_4,hx359_5,hx359_6⟩:=at_T34 HR0.out x12_2 p359 q359;cases e359
         replace hx359_0:=(HB.out.cell (World.block_lt_of_cell? w _ hx359_0)).trans hx359_0;replace hx359_1:=(HB.out.cell (World.block_lt_of_cell? w _ hx359_1)).trans hx359_1;replace hx359_2:=(HB.out.cell (World.block_lt_of_cell? w _ hx359_2)).trans hx359_2;replace hx359_3:=(HB.out.cell (World.block_lt_of_cell? w _ hx359_3)).trans hx359_3
         replace hx359_4:=(HB.out.cell (World.block_lt_of_cell? w _ hx359_4)).trans hx359_4;replace hx359_5:=(HB.out.cell (World.block_lt_of_cell? w _ hx359_5)).trans hx359_5;replace hx359_6:=(HB.out.cell (World.block_lt_of_cell? w _ hx359_6)).trans hx359_6;replace p359:=eq_true p359;replace q359:=eq_true q359
         try go_wp2_with (first | ((with_reducible refine gate_dst (N:=13) rfl ?_);(try (refine gate_guard (by rfl) ?_;dsimp only));refine box_event ?hg (N:=13) ?hd (cs:=#[.int .i64 0,.int .i64 0,.int .i64 0,.int .i64 0,.int .i64 0,.bool false,.bool false]) (t:=34) ?hr ?_;(case hd => rfl);(case hg => rfl);(case hr => first | (go_simp;done) | (go_simp;rfl));intro gb360 hg w21 hbox hb;have n0_:=Aside0.mk (below_step (by repeat (first | (with_reducible first | exact HB.out | apply b0_ | apply b1_ | apply b2_) | exact HB.out)) hb);have n1_:=Aside0.mk (hbox);have n2_:=Aside0.mk ((by rw [hg];exact (below_size (by repeat (first | (with_reducible first | exact HB.out | apply b0_ | apply b1_ | apply b2_) | exact HB.out))) : w.heap.size≤gb360));have n3_:=Aside0.mk ((by rw [hg];exact (below_size (by repeat (first | (with_reducible first | exact HB.out | apply b0_ | apply b1_ | apply b2_) | exact HB.out))) : w.heap.size≤gb360));clear HB;have HB:=n0_;have BK360:=n1_;have GW360:=n2_;have GE360:=n3_;clear n0_ n1_ n2_ n3_;clear hb hbox hg;obtain ⟨hcz22_0,hcz22_1,hcz22_2,hcz22_3,hcz22_4,hcz22_5,hcz22_6,hfz22_0,hfz22_1,hfz22_2,hfz22_3,hfz22_4,hfz22_5,hfz22_6⟩:=q7_ BK360.out;have p361 : 0≤(x12_2 : Int):=of_decide_eq_true (by first | (with_reducible assumption) | assumption);have q361 : x12_2 < (l4.length : Int):=of_decide_eq_true (by first | (with_reducible assumption) | assumption);obtain ⟨ad361,e361,hx361_0,hx361_1,hx361_2,hx361_3,hx361_4,hx361_5,hx361_6⟩:=at_T34 HR4.out x12_2 p361 q361;cases e361;have hn361_0 : ad361.block≠gb360:=Nat.ne_of_lt (Nat.lt_of_lt_of_le (by have:=World.block_lt_of_cell? _ _ hx361_0;first | rwa [add_block] at this | exact this) GW360.out);have hn361_1 : ad361.block≠gb360:=Nat.ne_of_lt (Nat.lt_of_lt_of_le (by have:=World.block_lt_of_cell? _ _ hx361_0;first | rwa [add_block] at this | exact this) GW360.out);have hn361_2 : ad361.block≠gb360:=Nat.ne_of_lt (Nat.lt_of_lt_of_le (by have:=World.block_lt_of_cell? _ _ hx361_0;first | rwa [add_block] at this | exact this) GW360.out);have hn361_3 : ad361.block≠gb360:=Nat.ne_of_lt (Nat.lt_of_lt_of_le (by have:=World.block_lt_of_cell? _ _ hx361_0;first | rwa [add_block] at this | exact this) GW360.out);have hn361_4 : ad361.block≠gb360:=Nat.ne_of_lt (Nat.lt_of_lt_of_le (by have:=World.block_lt_of_cell? _ _ hx361_0;first | rwa [add_block] at this | exact this) GW360.out);have hn361_5 : ad361.block≠gb360:=Nat.ne_of_lt (Nat.lt_of_lt_of_le (by have:=World.block_lt_of_cell? _ _ hx361_0;first | rwa [add_block] at this | exact this) GW360.out);have hn361_6 : ad361.block≠gb360:=Nat.ne_of_lt (Nat.lt_of_lt_of_le (by have:=World.block_lt_of_cell? _ _ hx361_0;first | rwa [add_block] at this | exact this) GW360.out);replace hx361_0:=(HB.out.cell (World.block_lt_of_cell? w _ hx361_0)).trans hx361_0;replace hx361_1:=(HB.out.cell (World.block_lt_of_cell? w _ hx361_1)).trans hx361_1;replace hx361_2:=(HB.out.cell (World.block_lt_of_cell? w _ hx361_2)).trans hx361_2;replace hx361_3:=(HB.out.cell (World.block_lt_of_cell? w _ hx361_3)).trans hx361_3;replace hx361_4:=(HB.out.cell (World.block_lt_of_cell? w _ hx361_4)).trans hx361_4;replace hx361_5:=(HB.out.cell (World.block_lt_of_cell? w _ hx361_5)).trans hx361_5;replace hx361_6:=(HB.out.cell (World.block_lt_of_cell? w _ hx361_6)).trans hx361_6;replace hx361_0:=(cell_far (p:=⟨gb360,0,none⟩) (by first | (rw [add_block];exact hn361_0) | (show (Addr.add _ _).block≠_;rw [add_block];exact hn361_0) | exact hn361_0) (.int .i64 ((rd_T34 l0 x12_2).f0))).trans hx361_0;replace hx361_1:=(cell_far (p:=⟨gb360,0,none⟩) (by first | (rw [add_block];exact hn361_0) | (show (Addr.add _ _).block≠_;rw [add_block];exact hn361_0) | exact hn361_0) (.int .i64 ((rd_T34 l0 x12_2).f0))).trans hx361_1;replace hx361_2:=(cell_far (p:=⟨gb360,0,none⟩) (by first | (rw [add_block];exact hn361_0) | (show (Addr.add _ _).block≠_;rw [add_block];exact hn361_0) | exact hn361_0) (.int .i64 ((rd_T34 l0 x12_2).f0))).trans hx361_2;replace hx361_3:=(cell_far (p:=⟨gb360,0,none⟩) (by first | (rw [add_block];exact hn361_0) | (show (Addr.add _ _).block≠_;rw [add_block];exact hn361_0) | exact hn361_0) (.int .i64 ((rd_T34 l0 x12_2).f0))).trans hx361_3;replace hx361_4:=(cell_far (p:=⟨gb360,0,none⟩) (by first | (rw [add_block];exact hn361_0) | (show (Addr.add _ _).block≠_;rw [add_block];exact hn361_0) | exact hn361_0) (.int .i64 ((rd_T34 l0 x12_2).f0))).trans hx361_4;replace hx361_5:=(cell_far (p:=⟨gb360,0,none⟩) (by first | (rw [add_block];exact hn361_0) | (show (Addr.add _ _).block≠_;rw [add_block];exact hn361_0) | exact hn361_0) (.int .i64 ((rd_T34 l0 x12_2).f0))).trans hx361_5;replace hx361_6:=(cell_far (p:=⟨gb360,0,none⟩) (by first | (rw [add_block];exact hn361_0) | (show (Addr.add _ _).block≠_;rw [add_block];exact hn361_0) | exact hn361_0) (.int .i64 ((rd_T34 l0 x12_2).f0))).trans hx361_6;replace hx361_0:=(cell_far (p:=⟨gb360,1,none⟩) (by first | (rw [add_block];exact hn361_1) | (show (Addr.add _ _).block≠_;rw [add_block];exact hn361_1) | exact hn361_1) (.int .i64 ((rd_T34 l0 x12_2).f1))).trans hx361_0;replace hx361_1:=(cell_far (p:=⟨gb360,1,none⟩) (by first | (rw [add_block];exact hn361_1) | (show (Addr.add _ _).block≠_;rw [add_block];exact hn361_1) | exact hn361_1) (.int .i64 ((rd_T34 l0 x12_2).f1))).trans hx361_1;replace hx361_2:=(cell_far (p:=⟨gb360,1,none⟩) (by first | (rw [add_block];exact hn361_1) | (show (Addr.add _ _).block≠_;rw [add_block];exact hn361_1) | exact hn361_1) (.int .i64 ((rd_T34 l0 x12_2).f1))).trans hx361_2;replace hx361_3:=(cell_far (p:=⟨gb360,1,none⟩) (by first | (rw [add_block];exact hn361_1) | (show (Addr.add _ _).block≠_;rw [add_block];exact hn361_1) | exact hn361_1) (.int .i64 ((rd_T34 l0 x12_2).f1))).trans hx361_3;replace hx361_4:=(cell_far (p:=⟨gb360,1,none⟩) (by first | (rw [add_block];exact hn361_1) | (show (Addr.add _ _).block≠_;rw [add_block];exact hn361_1) | exact hn361_1) (.int .i64 ((rd_T34 l0 x12_2).f1))).trans hx361_4;replace hx361_5:=(cell_far (p:=⟨gb360,1,none⟩) (by first | (rw [add_block];exact hn361_1) | (show (Addr.add _ _).block≠_;rw [add_block];exact hn361_1) | exact hn361_1) (.int .i64 ((rd_T34 l0 x12_2).f1))).trans hx361_5;replace hx361_6:=(cell_far (p:=⟨gb360,1,none⟩) (by first | (rw [add_block];exact hn361_1) | (show (Addr.add _ _).block≠_;rw [add_block];exact hn361_1) | exact hn361_1) (.int .i64 ((rd_T34 l0 x12_2).f1))).trans hx361_6;replace hx361_0:=(cell_far (p:=⟨gb360,2,none⟩) (by first | (rw [add_block];exact hn361_2) | (show (Addr.add _ _).block≠_;rw [add_block];exact hn361_2) | exact hn361_2) (.int .i64 ((rd_T34 l0 x12_2).f2))).trans hx361_0;replace hx361_1:=(cell_far (p:=⟨gb360,2,none⟩) (by first | (rw [add_block];exact hn361_2) | (show (Addr.add _ _).block≠_;rw [add_block];exact hn361_2) | exact hn361_2) (.int .i64 ((rd_T34 l0 x12_2).f2))).trans hx361_1;replace hx361_2:=(cell_far (p:=⟨gb360,2,none⟩) (by first | (rw [add_block];exact hn361_2) | (show (Addr.add _ _).block≠_;rw [add_block];exact hn361_2) | exact hn361_2) (.int .i64 ((rd_T34 l0 x12_2).f2))).trans hx361_2;replace hx361_3:=(cell_far (p:=⟨gb360,2,none⟩) (by first | (rw [add_block];exact hn361_2) | (show (Addr.add _ _).block≠_;rw [add_block];exact hn361_2) | exact hn361_2) (.int .i64 ((rd_T34 l0 x12_2).f2))).trans hx361_3;replace hx361_4:=(cell_far (p:=⟨gb360,2,none⟩) (by first | (rw [add_block];exact hn361_2) | (show (Addr.add _ _).block≠_;rw [add_block];exact hn361_2) | exact hn361_2) (.int .i64 ((rd_T34 l0 x12_2).f2))).trans hx361_4;replace hx361_5:=(cell_far (p:=⟨gb360,2,none⟩) (by first | (rw [add_block];exact hn361_2) | (show (Addr.add _ _).block≠_;rw [add_block];exact hn361_2) | exact hn361_2) (.int .i64 ((rd_T34 l0 x12_2).f2))).trans hx361_5;replace hx361_6:=(cell_far (p:=⟨gb360,2,none⟩) (by first | (rw [add_block];exact hn361_2) | (show (Addr.add _ _).block≠_;rw [add_block];exact hn361_2) | exact hn361_2) (.int .i64 ((rd_T34 l0 x12_2).f2))).trans hx361_6;replace hx361_0:=(cell_far (p:=⟨gb360,3,none⟩) (by first | (rw [add_block];exact hn361_3) | (show (Addr.add _ _).block≠_;rw [add_block];exact hn361_3) | exact hn361_3) (.int .i64 ((rd_T34 l0 x12_2).f3))).trans hx361_0;replace hx361_1:=(cell_far (p:=⟨gb360,3,none⟩) (by first | (rw [add_block];exact hn361_3) | (show (Addr.add _ _).block≠_;rw [add_block];exact hn361_3) | exact hn361_3) (.int .i64 ((rd_T34 l0 x12_2).f3))).trans hx361_1;replace hx361_2:=(cell_far (p:=⟨gb360,3,none⟩) (by first | (rw [add_block];exact hn361_3) | (show (Addr.add _ _).block≠_;rw [add_block];exact hn361_3) | exact hn361_3) (.int .i64 ((rd_T34 l0 x12_2).f3))).trans hx361_2;replace hx361_3:=(cell_far (p:=⟨gb360,3,none⟩) (by first | (rw [add_block];exact hn361_3) | (show (Addr.add _ _).block≠_;rw [add_block];exact hn361_3) | exact hn361_3) (.int .i64 ((rd_T34 l0 x12_2).f3))).trans hx361_3;replace hx361_4:=(cell_far (p:=⟨gb360,3,none⟩) (by first | (rw [add_block];exact hn361_3) | (show (Addr.add _ _).block≠_;rw [add_block];exact hn361_3) | exact hn361_3) (.int .i64 ((rd_T34 l0 x12_2).f3))).trans hx361_4;replace hx361_5:=(cell_far (p:=⟨gb360,3,none⟩) (by first | (rw [add_block];exact hn361_3) | (show (Addr.add _ _).block≠_;rw [add_block];exact hn361_3) | exact hn361_3) (.int .i64 ((rd_T34 l0 x12_2).f3))).trans hx361_5;replace hx361_6:=(cell_far (p:=⟨gb360,3,none⟩) (by first | (rw [add_block];exact hn361_3) | (show (Addr.add _ _).block≠_;rw [add_block];exact hn361_3) | exact hn361_3) (.int .i64 ((rd_T34 l0 x12_2).f3))).trans hx361_6;replace hx361_0:=(cell_far (p:=⟨gb360,4,none⟩) (by first | (rw [add_block];exact hn361_4) | (show (Addr.add _ _).block≠_;rw [add_block];exact hn361_4) | exact hn361_4) (.int .i64 ((rd_T34 l0 x12_2).f4))).trans hx361_0;replace hx361_1:=(cell_far (p:=⟨gb360,4,none⟩) (by first | (rw [add_block];exact hn361_4) | (show (Addr.add _ _).block≠_;rw [add_block];exact hn361_4) | exact hn361_4) (.int .i64 ((rd_T34 l0 x12_2).f4))).trans hx361_1;replace hx361_2:=(cell_far (p:=⟨gb360,4,none⟩) (by first | (rw [add_block];exact hn361_4) | (show (Addr.add _ _).block≠_;rw [add_block];exact hn361_4) | exact hn361_4) (.int .i64 ((rd_T34 l0 x12_2).f4))).trans hx361_2;replace hx361_3:=(cell_far (p:=⟨gb360,4,none⟩) (by first | (rw [add_block];exact hn361_4) | (show (Addr.add _ _).block≠_;rw [add_block];exact hn361_4) | exact hn361_4) (.int .i64 ((rd_T34 l0 x12_2).f4))).trans hx361_3;replace hx361_4:=(cell_far (p:=⟨gb360,4,none⟩) (by first | (rw [add_block];exact hn361_4) | (show (Addr.add _ _).block≠_;rw [add_block];exact hn361_4) | exact hn361_4) (.int .i64 ((rd_T34 l0 x12_2).f4))).trans hx361_4;replace hx361_5:=(cell_far (p:=⟨gb360,4,none⟩) (by first | (rw [add_block];exact hn361_4) | (show (Addr.add _ _).block≠_;rw [add_block];exact hn361_4) | exact hn361_4) (.int .i64 ((rd_T34 l0 x12_2).f4))).trans hx361_5;replace hx361_6:=(cell_far (p:=⟨gb360,4,none⟩) (by first | (rw [add_block];exact hn361_4) | (show (Addr.add _ _).block≠_;rw [add_block];exact hn361_4) | exact hn361_4) (.int .i64 ((rd_T34 l0 x12_2).f4))).trans hx361_6;replace hx361_0:=(cell_far (p:=⟨gb360,5,none⟩) (by first | (rw [add_block];exact hn361_5) | (show (Addr.add _ _).block≠_;rw [add_block];exact hn361_5) | exact hn361_5) (.bool ((rd_T34 l0 x12_2).f5))).trans hx361_0;replace hx361_1:=(cell_far (p:=⟨gb360,5,none⟩) (by first | (rw [add_block];exact hn361_5) | (show (Addr.add _ _).block≠_;rw [add_block];exact hn361_5) | exact hn361_5) (.bool ((rd_T34 l0 x12_2).f5))).trans hx361_1;replace hx361_2:=(cell_far (p:=⟨gb360,5,none⟩) (by first | (rw [add_block];exact hn361_5) | (show (Addr.add _ _).block≠_;rw [add_block];exact hn361_5) | exact hn361_5) (.bool ((rd_T34 l0 x12_2).f5))).trans hx361_2;replace hx361_3:=(cell_far (p:=⟨gb360,5,none⟩) (by first | (rw [add_block];exact hn361_5) | (show (Addr.add _ _).block≠_;rw [add_block];exact hn361_5) | exact hn361_5) (.bool ((rd_T34 l0 x12_2).f5))).trans hx361_3;replace hx361_4:=(cell_far (p:=⟨gb360,5,none⟩) (by first | (rw [add_block];exact hn361_5) | (show (Addr.add _ _).block≠_;rw [add_block];exact hn361_5) | exact hn361_5) (.bool ((rd_T34 l0 x12_2).f5))).trans hx361_4;replace hx361_5:=(cell_far (p:=⟨gb360,5,none⟩) (by first | (rw [add_block];exact hn361_5) | (show (Addr.add _ _).block≠_;rw [add_block];exact hn361_5) | exact hn361_5) (.bool ((rd_T34 l0 x12_2).f5))).trans hx361_5;replace hx361_6:=(cell_far (p:=⟨gb360,5,none⟩) (by first | (rw [add_block];exact hn361_5) | (show (Addr.add _ _).block≠_;rw [add_block];exact hn361_5) | exact hn361_5) (.bool ((rd_T34 l0 x12_2).f5))).trans hx361_6;replace hx361_0:=(cell_far (p:=⟨gb360,6,none⟩) (by first | (rw [add_block];exact hn361_6) | (show (Addr.add _ _).block≠_;rw [add_block];exact hn361_6) | exact hn361_6) (.bool ((rd_T34 l0 x12_2).f6))).trans hx361_0;replace hx361_1:=(cell_far (p:=⟨gb360,6,none⟩) (by first | (rw [add_block];exact hn361_6) | (show (Addr.add _ _).block≠_;rw [add_block];exact hn361_6) | exact hn361_6) (.bool ((rd_T34 l0 x12_2).f6))).trans hx361_1;replace hx361_2:=(cell_far (p:=⟨gb360,6,none⟩) (by first | (rw [add_block];exact hn361_6) | (show (Addr.add _ _).block≠_;rw [add_block];exact hn361_6) | exact hn361_6) (.bool ((rd_T34 l0 x12_2).f6))).trans hx361_2;replace hx361_3:=(cell_far (p:=⟨gb360,6,none⟩) (by first | (rw [add_block];exact hn361_6) | (show (Addr.add _ _).block≠_;rw [add_block];exact hn361_6) | exact hn361_6) (.bool ((rd_T34 l0 x12_2).f6))).trans hx361_3;replace hx361_4:=(cell_far (p:=⟨gb360,6,none⟩) (by first | (rw [add_block];exact hn361_6) | (show (Addr.add _ _).block≠_;rw [add_block];exact hn361_6) | exact hn361_6) (.bool ((rd_T34 l0 x12_2).f6))).trans hx361_4;replace hx361_5:=(cell_far (p:=⟨gb360,6,none⟩) (by first | (rw [add_block];exact hn361_6) | (show (Addr.add _ _).block≠_;rw [add_block];exact hn361_6) | exact hn361_6) (.bool ((rd_T34 l0 x12_2).f6))).trans hx361_5;replace hx361_6:=(cell_far (p:=⟨gb360,6,none⟩) (by first | (rw [add_block];exact hn361_6) | (show (Addr.add _ _).block≠_;rw [add_block];exact hn361_6) | exact hn361_6) (.bool ((rd_T34 l0 x12_2).f6))).trans hx361_6;clear hn361_0;clear hn361_1;clear hn361_2;clear hn361_3;clear hn361_4;clear hn361_5;clear hn361_6;replace p361:=eq_true p361;replace q361:=eq_true q361))
         have n0_ : Aside0 (((((((((w21.setCell ⟨gb360,0,none⟩ (.int .i64 ((rd_T34 l0 x12_2).f0))).setCell ⟨gb360,1,none⟩ (.int .i64 ((rd_T34 l0 x12_2).f1))).setCell ⟨gb360,2,none⟩ (.int .i64 ((rd_T34 l0 x12_2).f2))).setCell ⟨gb360,3,none⟩ (.int .i64 ((rd_T34 l0 x12_2).f3))).setCell ⟨gb360,4,none⟩ (.int .i64 ((rd_T34 l0 x12_2).f4))).setCell ⟨gb360,5,none⟩ (.bool ((rd_T34 l0 x12_2).f5))).setCell ⟨gb360,6,none⟩ (.bool ((rd_T34 l0 x12_2).f6))).setCell ⟨gb360,3,none⟩ (.int .i64 ((rd_T34 l4 x12_2).f3))).heap[gb360]? = some (.cells #[.int .i64 ((rd_T34 l0 x12_2).f0),.int .i64 ((rd_T34 l0 x12_2).f1),.int .i64 ((rd_T34 l0 x12_2).f2),.int .i64 ((rd_T34 l4 x12_2).f3),.int .i64 ((rd_T34 l0 x12_2).f4),.bool ((rd_T34 l0 x12_2).f5),.bool ((rd_T34 l0 x12_2).f6)] 34 (0,0))):=⟨by (with_reducible repeat (first | refine blk_drewN ?_ _ | refine blk_drew ?_ | refine blk_alloc ?_ _));refine blk_put (cs:=#[.int .i64 ((rd_T34 l0 x12_2).f0),.int .i64 ((rd_T34 l0 x12_2).f1),.int .i64 ((rd_T34 l0 x12_2).f2),.int .i64 ((rd_T34 l0 x12_2).f3),.int .i64 ((rd_T34 l0 x12_2).f4),.bool ((rd_T34 l0 x12_2).f5),.bool ((rd_T34 l0 x12_2).f6)]) ?_ 3 _ rfl;(with_reducible repeat (first | refine blk_drewN ?_ _ | refine blk_drew ?_ | refine blk_alloc ?_ _));refine blk_put (cs:=#[.int .i64 ((rd_T34 l0 x12_2).f0),.int .i64 ((rd_T34 l0 x12_2).f1),.int .i64 ((rd_T34 l0 x12_2).f2),.int .i64 ((rd_T34 l0 x12_2).f3),.int .i64 ((rd_T34 l0 x12_2).f4),.bool ((rd_T34 l0 x12_2).f5),.bool false]) ?_ 6 _ rfl;(with_reducible repeat (first | refine blk_drewN ?_ _ | refine blk_drew ?_ | refine blk_alloc ?_ _));refine blk_put (cs:=#[.int .i64 ((rd_T34 l0 x12_2).f0),.int .i64 ((rd_T34 l0 x12_2).f1),.int .i64 ((rd_T34 l0 x12_2).f2),.int .i64 ((rd_T34 l0 x12_2).f3),.int .i64 ((rd_T34 l0 x12_2).f4),.bool false,.bool false]) ?_ 5 _ rfl;(with_reducible repeat (first | refine blk_drewN ?_ _ | refine blk_drew ?_ | refine blk_alloc ?_ _));refine blk_put (cs:=#[.int .i64 ((rd_T34 l0 x12_2).f0),.int .i64 ((rd_T34 l0 x12_2).f1),.int .i64 ((rd_T34 l0 x12_2).f2),.int .i64 ((rd_T34 l0 x12_2).f3),.int .i64 0,.bool false,.bool false]) ?_ 4 _ rfl;(with_reducible repeat (first | refine blk_drewN ?_ _ | refine blk_drew ?_ | refine blk_alloc ?_ _));refine blk_put (cs:=#[.int .i64 ((rd_T34 l0 x12_2).f0),.int .i64 ((rd_T34 l0 x12_2).f1),.int .i64 ((rd_T34 l0 x12_2).f2),.int .i64 0,.int .i64 0,.bool false,.bool false]) ?_ 3 _ rfl;(with_reducible repeat (first | refine blk_drewN ?_ _ | refine blk_drew ?_ | refine blk_alloc ?_ _));refine blk_put (cs:=#[.int .i64 ((rd_T34 l0 x12_2).f0),.int .i64 ((rd_T34 l0 x12_2).f1),.int .i64 0,.int .i64 0,.int .i64 0,.bool false,.bool false]) ?_ 2 _ rfl;(with_reducible repeat (first | refine blk_drewN ?_ _ | refine blk_drew ?_ | refine blk_alloc ?_ _));refine blk_put (cs:=#[.int .i64 ((rd_T34 l0 x12_2).f0),.int .i64 0,.int .i64 0,.int .i64 0,.int .i64 0,.bool false,.bool false]) ?_ 1 _ rfl;(with_reducible repeat (first | refine blk_drewN ?_ _ | refine blk_drew ?_ | refine blk_alloc ?_ _));refine blk_put (cs:=#[.int .i64 0,.int .i64 0,.int .i64 0,.int .i64 0,.int .i64 0,.bool false,.bool false]) ?_ 0 _ rfl;(with_reducible repeat (first | refine blk_drewN ?_ _ | refine blk_drew ?_ | refine blk_alloc ?_ _));exact BK360.out⟩
         have n1_ : Aside0 (Below w.heap.size w ((((((((w21.setCell ⟨gb360,0,none⟩ (.int .i64 ((rd_T34 l0 x12_2).f0))).setCell ⟨gb360,1,none⟩ (.int .i64 ((rd_T34 l0 x12_2).f1))).setCell ⟨gb360,2,none⟩ (.int .i64 ((rd_T34 l0 x12_2).f2))).setCell ⟨gb360,3,none⟩ (.int .i64 ((rd_T34 l0 x12_2).f3))).setCell ⟨gb360,4,none⟩ (.int .i64 ((rd_T34 l0 x12_2).f4))).setCell ⟨gb360,5,none⟩ (.bool ((rd_T34 l0 x12_2).f5))).setCell ⟨gb360,6,none⟩ (.bool ((rd_T34 l0 x12_2).f6))).setCell ⟨gb360,3,none⟩ (.int .i64 ((rd_T34 l4 x12_2).f3)))):=⟨by repeat (first | (with_reducible first | exact HB.out | apply b0_ | apply b1_ | apply b2_ | refine below_set ?_ GE360.out) | exact HB.out)⟩
         (try clear BK360)
         (try clear HB)
         generalize ((((((((w21.setCell ⟨gb360,0,none⟩ (.int .i64 ((rd_T34 l0 x12_2).f0))).setCell ⟨gb360,1,none⟩ (.int .i64 ((rd_T34 l0 x12_2).f1))).setCell ⟨gb360,2,none⟩ (.int .i64 ((rd_T34 l0 x12_2).f2))).setCell ⟨gb360,3,none⟩ (.int .i64 ((rd_T34 l0 x12_2).f3))).setCell ⟨gb360,4,none⟩ (.int .i64 ((rd_T34 l0 x12_2).f4))).setCell ⟨gb360,5,none⟩ (.bool ((rd_T34 l0 x12_2).f5))).setCell ⟨gb360,6,none⟩ (.bool ((rd_T34 l0 x12_2).f6))).setCell ⟨gb360,3,none⟩ (.int .i64 ((rd_T34 l4 x12_2).f3))) = w23 at n0_ n1_ ⊢
         have BK360:=n0_;have HB:=n1_;clear n0_ n1_;have n0_:=Aside0.mk (blk_drew BK360.out);have n1_:=Aside0.mk (b2_ HB.out);clear BK360;clear HB;have BK360:=n0_;have HB:=n1_;clear n0_ n1_;have p362 : 0≤(x12_2 : Int):=of_decide_eq_true (by first | (with_reducible assumption) | assumption)
         have q362 : x12_2 < (l4.length : Int):=of_decide_eq_true (by first | (with_reducible assumption) | assumption);obtain ⟨ad362,e362,hx362_0,hx362_1,hx362_2,hx362_3,hx362_4,hx362_5,hx362_6⟩:=at_T34 HR4.out x12_2 p362 q362;have hw362_6:=hx362_6;have hw362_5:=hx362_5;have hw362_4:=hx362_4;have hw362_3:=hx362_3;have hw362_2:=hx362_2;have hw362_1:=hx362_1
         have hw362_0:=hx362_0;obtain rfl : ad361 = ad362:=(by injection e362);replace hx362_0:=(HB.out.cell (World.block_lt_of_cell? w _ hx362_0)).trans hx362_0;replace hx362_1:=(HB.out.cell (World.block_lt_of_cell? w _ hx362_1)).trans hx362_1;replace hx362_2:=(HB.out.cell (World.block_lt_of_cell? w _ hx362_2)).trans hx362_2
         replace hx362_3:=(HB.out.cell (World.block_lt_of_cell? w _ hx362_3)).trans hx362_3;replace hx362_4:=(HB.out.cell (World.block_lt_of_cell? w _ hx362_4)).trans hx362_4;replace hx362_5:=(HB.out.cell (World.block_lt_of_cell? w _ hx362_5)).trans hx362_5;replace hx362_6:=(HB.out.cell (World.block_lt_of_cell? w _ hx362_6)).trans hx362_6;replace p362:=eq_true p362
         replace q362:=eq_true q362
         refine start_ (n:=6) (S:=fun w' => w'.cell? ⟨gb360,0,none⟩ = some (.int .i64 ((rd_T34 l0 x12_2).f0))∧w'.cell? ⟨gb360,1,none⟩ = some (.int .i64 ((rd_T34 l0 x12_2).f1))∧w'.cell? ⟨gb360,2,none⟩ = some (.int .i64 ((rd_T34 l0 x12_2).f2))∧w'.cell? ⟨gb360,3,none⟩ = some (.int .i64 ((rd_T34 l4 x12_2).f3))∧w'.cell? ⟨gb360,4,none⟩ = some (.int .i64 ((rd_T34 l0 x12_2).f4))∧w'.cell? ⟨gb360,5,none⟩ = some (.bool ((rd_T34 l0 x12_2).f5))∧w'.cell? ⟨gb360,6,none⟩ = some (.bool ((rd_T34 l0 x12_2).f6))∧w'.cell? (ad361.add ((x12_2).toNat * 7)) = some (.int .i64 ((rd_T34 l4 x12_2).f0))∧w'.cell? ⟨(ad361.add ((x12_2).toNat * 7)).block,(ad361.add ((x12_2).toNat * 7)).off + 1,none⟩ = some (.int .i64 ((rd_T34 l4 x12_2).f1))∧w'.cell? ⟨(ad361.add ((x12_2).toNat * 7)).block,(ad361.add ((x12_2).toNat * 7)).off + 2,none⟩ = some (.int .i64 ((rd_T34 l4 x12_2).f2))∧w'.cell? ⟨(ad361.add ((x12_2).toNat * 7)).block,(ad361.add ((x12_2).toNat * 7)).off + 3,none⟩ = some (.int .i64 ((rd_T34 l4 x12_2).f3))∧w'.cell? ⟨(ad361.add ((x12_2).toNat * 7)).block,(ad361.add ((x12_2).toNat * 7)).off + 4,none⟩ = some (.int .i64 ((rd_T34 l4 x12_2).f4))∧w'.cell? ⟨(ad361.add ((x12_2).toNat * 7)).block,(ad361.add ((x12_2).toNat * 7)).off + 5,none⟩ = some (.bool ((rd_T34 l4 x12_2).f5))∧w'.cell? ⟨(ad361.add ((x12_2).toNat * 7)).block,(ad361.add ((x12_2).toNat * 7)).off + 6,none⟩ = some (.bool ((rd_T34 l4 x12_2).f6))) (ds:=[]) #[F0,F0,F0,F0,F0,F0] (by kernel_rfl) rfl rfl ⟨(blk_cell BK360.out 0).trans rfl,(blk_cell BK360.out 1).trans rfl,(blk_cell BK360.out 2).trans rfl,(blk_cell BK360.out 3).trans rfl,(blk_cell BK360.out 4).trans rfl,(blk_cell BK360.out 5).trans rfl,(blk_cell BK360.out 6).trans rfl,((HB.out.cell (World.block_lt_of_cell? w _ hw362_0)).trans hw362_0),((HB.out.cell (World.block_lt_of_cell? w _ hw362_1)).trans hw362_1),((HB.out.cell (World.block_lt_of_cell? w _ hw362_2)).trans hw362_2),((HB.out.cell (World.block_lt_of_cell? w _ hw362_3)).trans hw362_3),((HB.out.cell (World.block_lt_of_cell? w _ hw362_4)).trans hw362_4),((HB.out.cell (World.block_lt_of_cell? w _ hw362_5)).trans hw362_5),((HB.out.cell (World.block_lt_of_cell? w _ hw362_6)).trans hw362_6)⟩ (fun hHeld => ?_)
         generalize w23.drew = w24 at BK360 HB hx362_0 hx362_1 hx362_2 hx362_3 hx362_4 hx362_5 hx362_6 hHeld ⊢;refine pure_ (i:=1) (N:=some 52) (v:=?_) (a':=?_) #[F0,T0,F0,F0,F0,F0] rfl rfl (by kernel_rfl) (fun _ _ _ h => h) (Or.inl ⟨by rfl,?_⟩) ?_ ?_
         rotate_left
         · intro w';go_simp;with_reducible rfl
         rotate_left
         · simp only [Act.put,z0_,z1_,z2_,i64_w,i32_w];rfl
         refine pure_ (i:=2) (N:=some 53) (v:=?_) (a':=?_) #[F0,T0,T0,F0,F0,F0] rfl rfl (by kernel_rfl) (fun _ _ _ h => h) (Or.inl ⟨by rfl,?_⟩) ?_ ?_
         rotate_left
         · intro w';go_simp;with_reducible rfl
         rotate_left
         · simp only [Act.put,z0_,z1_,z2_,i64_w,i32_w];rfl
         refine pure_ (i:=3) (N:=some 54) (v:=?_) (a':=?_) #[F0,T0,T0,T0,F0,F0] rfl rfl (by kernel_rfl) (fun _ _ _ h => h) (Or.inl ⟨by rfl,?_⟩) ?_ ?_
         rotate_left
         · intro w';go_simp;with_reducible rfl
         rotate_left
         · simp only [Act.put,z0_,z1_,z2_,i64_w,i32_w];rfl
         refine take_ (i:=0) (N:=some 51) (v:=?_) (a':=?_) #[T0,T0,T0,T0,F0,F0] rfl rfl (by kernel_rfl) (fun _ _ _ h => h) (Or.inl ⟨by rfl,?_⟩) hHeld ?_ ?_
         rotate_left
         ·
          rintro w' ⟨s0,s1,s2,s3,s4,s5,s6,s7,s8,s9,s10,s11,s12,s13⟩
          go_simp;with_reducible rfl
         rotate_left
         · simp only [Act.put,z0_,z1_,z2_,i64_w,i32_w];rfl
         refine take_ (i:=4) (N:=some 55) (v:=?_) (a':=?_) #[T0,T0,T0,T0,T0,F0] rfl rfl (by kernel_rfl) (fun _ _ _ h => h) (Or.inl ⟨by rfl,?_⟩) hHeld ?_ ?_
         rotate_left
         ·
          rintro w' ⟨s0,s1,s2,s3,s4,s5,s6,s7,s8,s9,s10,s11,s12,s13⟩
          go_simp;with_reducible rfl
         rotate_left
         · simp only [Act.put,z0_,z1_,z2_,i64_w,i32_w];rfl
         refine pure_ (i:=5) (N:=some 56) (v:=?_) (a':=?_) #[T0,T0,T0,T0,T0,T0] rfl rfl (by kernel_rfl) (fun _ _ _ h => h) (Or.inl ⟨by rfl,?_⟩) ?_ ?_
         rotate_left
         · intro w';go_simp;with_reducible rfl
         rotate_left
         · simp only [Act.put,z0_,z1_,z2_,i64_w,i32_w];rfl
         refine done_ (by kernel_rfl) ?_
         try go_wp2
         go_roundg k2
         case measure => have:=HJ7.out;have:=HK2.out;omega
         case rel => exact ⟨(wrap64 (x12_2 + 1)),(by first | rfl | (simp;done) | (simp [*];done)),H',⟨by have:=HJ7.out;have:=HK2.out;omega⟩,⟨by repeat (first | (with_reducible first | exact HB.out | apply b0_ | apply b1_ | apply b2_ | refine below_set ?_ GE360.out) | exact HB.out)⟩⟩
        rw [if_pos c16] at H;have c16b0 : (!(((rd_T34 l0 x12_2).f0) == ((rd_T34 l4 x12_2).f0)) || (!(((rd_T34 l0 x12_2).f1) == ((rd_T34 l4 x12_2).f1)) || (!(((rd_T34 l0 x12_2).f2) == ((rd_T34 l4 x12_2).f2)) || (!(((rd_T34 l0 x12_2).f4) == ((rd_T34 l4 x12_2).f4)) || (!(((rd_T34 l0 x12_2).f5) == ((rd_T34 l4 x12_2).f5)) || (!(((rd_T34 l0 x12_2).f6) == ((rd_T34 l4 x12_2).f6)))))))) = true:=c16;clear c16
        obtain rfl:=Option.some.inj H;have p359 : 0≤(x12_2 : Int):=of_decide_eq_true (by first | (with_reducible assumption) | assumption);have q359 : x12_2 < (l0.length : Int):=of_decide_eq_true (by first | (with_reducible assumption) | assumption);obtain ⟨ad359,e359,hx359_0,hx359_1,hx359_2,hx359_3,hx359_4,hx359_5,hx359_6⟩:=at_T34 HR0.out x12_2 p359 q359;cases e359
        replace hx359_0:=(HB.out.cell (World.block_lt_of_cell? w _ hx359_0)).trans hx359_0;replace hx359_1:=(HB.out.cell (World.block_lt_of_cell? w _ hx359_1)).trans hx359_1;replace hx359_2:=(HB.out.cell (World.block_lt_of_cell? w _ hx359_2)).trans hx359_2;replace hx359_3:=(HB.out.cell (World.block_lt_of_cell? w _ hx359_3)).trans hx359_3
        replace hx359_4:=(HB.out.cell (World.block_lt_of_cell? w _ hx359_4)).trans hx359_4;replace hx359_5:=(HB.out.cell (World.block_lt_of_cell? w _ hx359_5)).trans hx359_5;replace hx359_6:=(HB.out.cell (World.block_lt_of_cell? w _ hx359_6)).trans hx359_6;replace p359:=eq_true p359;replace q359:=eq_true q359
        try go_wp2_with (first | ((with_reducible refine gate_dst (N:=13) rfl ?_);(try (refine gate_guard (by rfl) ?_;dsimp only));refine box_event ?hg (N:=13) ?hd (cs:=#[.int .i64 0,.int .i64 0,.int .i64 0,.int .i64 0,.int .i64 0,.bool false,.bool false]) (t:=34) ?hr ?_;(case hd => rfl);(case hg => rfl);(case hr => first | (go_simp;done) | (go_simp;rfl));intro gb360 hg w17 hbox hb;have n0_:=Aside0.mk (below_step (by repeat (first | (with_reducible first | exact HB.out | apply b0_ | apply b1_ | apply b2_) | exact HB.out)) hb);have n1_:=Aside0.mk (hbox);have n2_:=Aside0.mk ((by rw [hg];exact (below_size (by repeat (first | (with_reducible first | exact HB.out | apply b0_ | apply b1_ | apply b2_) | exact HB.out))) : w.heap.size≤gb360));have n3_:=Aside0.mk ((by rw [hg];exact (below_size (by repeat (first | (with_reducible first | exact HB.out | apply b0_ | apply b1_ | apply b2_) | exact HB.out))) : w.heap.size≤gb360));clear HB;have HB:=n0_;have BK360:=n1_;have GW360:=n2_;have GE360:=n3_;clear n0_ n1_ n2_ n3_;clear hb hbox hg;obtain ⟨hcz18_0,hcz18_1,hcz18_2,hcz18_3,hcz18_4,hcz18_5,hcz18_6,hfz18_0,hfz18_1,hfz18_2,hfz18_3,hfz18_4,hfz18_5,hfz18_6⟩:=q7_ BK360.out;have p361 : 0≤(x12_2 : Int):=of_decide_eq_true (by first | (with_reducible assumption) | assumption);have q361 : x12_2 < (l4.length : Int):=of_decide_eq_true (by first | (with_reducible assumption) | assumption);obtain ⟨ad361,e361,hx361_0,hx361_1,hx361_2,hx361_3,hx361_4,hx361_5,hx361_6⟩:=at_T34 HR4.out x12_2 p361 q361;cases e361;have hn361_0 : ad361.block≠gb360:=Nat.ne_of_lt (Nat.lt_of_lt_of_le (by have:=World.block_lt_of_cell? _ _ hx361_0;first | rwa [add_block] at this | exact this) GW360.out);have hn361_1 : ad361.block≠gb360:=Nat.ne_of_lt (Nat.lt_of_lt_of_le (by have:=World.block_lt_of_cell? _ _ hx361_0;first | rwa [add_block] at this | exact this) GW360.out);have hn361_2 : ad361.block≠gb360:=Nat.ne_of_lt (Nat.lt_of_lt_of_le (by have:=World.block_lt_of_cell? _ _ hx361_0;first | rwa [add_block] at this | exact this) GW360.out);have hn361_3 : ad361.block≠gb360:=Nat.ne_of_lt (Nat.lt_of_lt_of_le (by have:=World.block_lt_of_cell? _ _ hx361_0;first | rwa [add_block] at this | exact this) GW360.out);have hn361_4 : ad361.block≠gb360:=Nat.ne_of_lt (Nat.lt_of_lt_of_le (by have:=World.block_lt_of_cell? _ _ hx361_0;first | rwa [add_block] at this | exact this) GW360.out);have hn361_5 : ad361.block≠gb360:=Nat.ne_of_lt (Nat.lt_of_lt_of_le (by have:=World.block_lt_of_cell? _ _ hx361_0;first | rwa [add_block] at this | exact this) GW360.out);have hn361_6 : ad361.block≠gb360:=Nat.ne_of_lt (Nat.lt_of_lt_of_le (by have:=World.block_lt_of_cell? _ _ hx361_0;first | rwa [add_block] at this | exact this) GW360.out);replace hx361_0:=(HB.out.cell (World.block_lt_of_cell? w _ hx361_0)).trans hx361_0;replace hx361_1:=(HB.out.cell (World.block_lt_of_cell? w _ hx361_1)).trans hx361_1;replace hx361_2:=(HB.out.cell (World.block_lt_of_cell? w _ hx361_2)).trans hx361_2;replace hx361_3:=(HB.out.cell (World.block_lt_of_cell? w _ hx361_3)).trans hx361_3;replace hx361_4:=(HB.out.cell (World.block_lt_of_cell? w _ hx361_4)).trans hx361_4;replace hx361_5:=(HB.out.cell (World.block_lt_of_cell? w _ hx361_5)).trans hx361_5;replace hx361_6:=(HB.out.cell (World.block_lt_of_cell? w _ hx361_6)).trans hx361_6;replace hx361_0:=(cell_far (p:=⟨gb360,0,none⟩) (by first | (rw [add_block];exact hn361_0) | (show (Addr.add _ _).block≠_;rw [add_block];exact hn361_0) | exact hn361_0) (.int .i64 ((rd_T34 l0 x12_2).f0))).trans hx361_0;replace hx361_1:=(cell_far (p:=⟨gb360,0,none⟩) (by first | (rw [add_block];exact hn361_0) | (show (Addr.add _ _).block≠_;rw [add_block];exact hn361_0) | exact hn361_0) (.int .i64 ((rd_T34 l0 x12_2).f0))).trans hx361_1;replace hx361_2:=(cell_far (p:=⟨gb360,0,none⟩) (by first | (rw [add_block];exact hn361_0) | (show (Addr.add _ _).block≠_;rw [add_block];exact hn361_0) | exact hn361_0) (.int .i64 ((rd_T34 l0 x12_2).f0))).trans hx361_2;replace hx361_3:=(cell_far (p:=⟨gb360,0,none⟩) (by first | (rw [add_block];exact hn361_0) | (show (Addr.add _ _).block≠_;rw [add_block];exact hn361_0) | exact hn361_0) (.int .i64 ((rd_T34 l0 x12_2).f0))).trans hx361_3;replace hx361_4:=(cell_far (p:=⟨gb360,0,none⟩) (by first | (rw [add_block];exact hn361_0) | (show (Addr.add _ _).block≠_;rw [add_block];exact hn361_0) | exact hn361_0) (.int .i64 ((rd_T34 l0 x12_2).f0))).trans hx361_4;replace hx361_5:=(cell_far (p:=⟨gb360,0,none⟩) (by first | (rw [add_block];exact hn361_0) | (show (Addr.add _ _).block≠_;rw [add_block];exact hn361_0) | exact hn361_0) (.int .i64 ((rd_T34 l0 x12_2).f0))).trans hx361_5;replace hx361_6:=(cell_far (p:=⟨gb360,0,none⟩) (by first | (rw [add_block];exact hn361_0) | (show (Addr.add _ _).block≠_;rw [add_block];exact hn361_0) | exact hn361_0) (.int .i64 ((rd_T34 l0 x12_2).f0))).trans hx361_6;replace hx361_0:=(cell_far (p:=⟨gb360,1,none⟩) (by first | (rw [add_block];exact hn361_1) | (show (Addr.add _ _).block≠_;rw [add_block];exact hn361_1) | exact hn361_1) (.int .i64 ((rd_T34 l0 x12_2).f1))).trans hx361_0;replace hx361_1:=(cell_far (p:=⟨gb360,1,none⟩) (by first | (rw [add_block];exact hn361_1) | (show (Addr.add _ _).block≠_;rw [add_block];exact hn361_1) | exact hn361_1) (.int .i64 ((rd_T34 l0 x12_2).f1))).trans hx361_1;replace hx361_2:=(cell_far (p:=⟨gb360,1,none⟩) (by first | (rw [add_block];exact hn361_1) | (show (Addr.add _ _).block≠_;rw [add_block];exact hn361_1) | exact hn361_1) (.int .i64 ((rd_T34 l0 x12_2).f1))).trans hx361_2;replace hx361_3:=(cell_far (p:=⟨gb360,1,none⟩) (by first | (rw [add_block];exact hn361_1) | (show (Addr.add _ _).block≠_;rw [add_block];exact hn361_1) | exact hn361_1) (.int .i64 ((rd_T34 l0 x12_2).f1))).trans hx361_3;replace hx361_4:=(cell_far (p:=⟨gb360,1,none⟩) (by first | (rw [add_block];exact hn361_1) | (show (Addr.add _ _).block≠_;rw [add_block];exact hn361_1) | exact hn361_1) (.int .i64 ((rd_T34 l0 x12_2).f1))).trans hx361_4;replace hx361_5:=(cell_far (p:=⟨gb360,1,none⟩) (by first | (rw [add_block];exact hn361_1) | (show (Addr.add _ _).block≠_;rw [add_block];exact hn361_1) | exact hn361_1) (.int .i64 ((rd_T34 l0 x12_2).f1))).trans hx361_5;replace hx361_6:=(cell_far (p:=⟨gb360,1,none⟩) (by first | (rw [add_block];exact hn361_1) | (show (Addr.add _ _).block≠_;rw [add_block];exact hn361_1) | exact hn361_1) (.int .i64 ((rd_T34 l0 x12_2).f1))).trans hx361_6;replace hx361_0:=(cell_far (p:=⟨gb360,2,none⟩) (by first | (rw [add_block];exact hn361_2) | (show (Addr.add _ _).block≠_;rw [add_block];exact hn361_2) | exact hn361_2) (.int .i64 ((rd_T34 l0 x12_2).f2))).trans hx361_0;replace hx361_1:=(cell_far (p:=⟨gb360,2,none⟩) (by first | (rw [add_block];exact hn361_2) | (show (Addr.add _ _).block≠_;rw [add_block];exact hn361_2) | exact hn361_2) (.int .i64 ((rd_T34 l0 x12_2).f2))).trans hx361_1;replace hx361_2:=(cell_far (p:=⟨gb360,2,none⟩) (by first | (rw [add_block];exact hn361_2) | (show (Addr.add _ _).block≠_;rw [add_block];exact hn361_2) | exact hn361_2) (.int .i64 ((rd_T34 l0 x12_2).f2))).trans hx361_2;replace hx361_3:=(cell_far (p:=⟨gb360,2,none⟩) (by first | (rw [add_block];exact hn361_2) | (show (Addr.add _ _).block≠_;rw [add_block];exact hn361_2) | exact hn361_2) (.int .i64 ((rd_T34 l0 x12_2).f2))).trans hx361_3;replace hx361_4:=(cell_far (p:=⟨gb360,2,none⟩) (by first | (rw [add_block];exact hn361_2) | (show (Addr.add _ _).block≠_;rw [add_block];exact hn361_2) | exact hn361_2) (.int .i64 ((rd_T34 l0 x12_2).f2))).trans hx361_4;replace hx361_5:=(cell_far (p:=⟨gb360,2,none⟩) (by first | (rw [add_block];exact hn361_2) | (show (Addr.add _ _).block≠_;rw [add_block];exact hn361_2) | exact hn361_2) (.int .i64 ((rd_T34 l0 x12_2).f2))).trans hx361_5;replace hx361_6:=(cell_far (p:=⟨gb360,2,none⟩) (by first | (rw [add_block];exact hn361_2) | (show (Addr.add _ _).block≠_;rw [add_block];exact hn361_2) | exact hn361_2) (.int .i64 ((rd_T34 l0 x12_2).f2))).trans hx361_6;replace hx361_0:=(cell_far (p:=⟨gb360,3,none⟩) (by first | (rw [add_block];exact hn361_3) | (show (Addr.add _ _).block≠_;rw [add_block];exact hn361_3) | exact hn361_3) (.int .i64 ((rd_T34 l0 x12_2).f3))).trans hx361_0;replace hx361_1:=(cell_far (p:=⟨gb360,3,none⟩) (by first | (rw [add_block];exact hn361_3) | (show (Addr.add _ _).block≠_;rw [add_block];exact hn361_3) | exact hn361_3) (.int .i64 ((rd_T34 l0 x12_2).f3))).trans hx361_1;replace hx361_2:=(cell_far (p:=⟨gb360,3,none⟩) (by first | (rw [add_block];exact hn361_3) | (show (Addr.add _ _).block≠_;rw [add_block];exact hn361_3) | exact hn361_3) (.int .i64 ((rd_T34 l0 x12_2).f3))).trans hx361_2;replace hx361_3:=(cell_far (p:=⟨gb360,3,none⟩) (by first | (rw [add_block];exact hn361_3) | (show (Addr.add _ _).block≠_;rw [add_block];exact hn361_3) | exact hn361_3) (.int .i64 ((rd_T34 l0 x12_2).f3))).trans hx361_3;replace hx361_4:=(cell_far (p:=⟨gb360,3,none⟩) (by first | (rw [add_block];exact hn361_3) | (show (Addr.add _ _).block≠_;rw [add_block];exact hn361_3) | exact hn361_3) (.int .i64 ((rd_T34 l0 x12_2).f3))).trans hx361_4;replace hx361_5:=(cell_far (p:=⟨gb360,3,none⟩) (by first | (rw [add_block];exact hn361_3) | (show (Addr.add _ _).block≠_;rw [add_block];exact hn361_3) | exact hn361_3) (.int .i64 ((rd_T34 l0 x12_2).f3))).trans hx361_5;replace hx361_6:=(cell_far (p:=⟨gb360,3,none⟩) (by first | (rw [add_block];exact hn361_3) | (show (Addr.add _ _).block≠_;rw [add_block];exact hn361_3) | exact hn361_3) (.int .i64 ((rd_T34 l0 x12_2).f3))).trans hx361_6;replace hx361_0:=(cell_far (p:=⟨gb360,4,none⟩) (by first | (rw [add_block];exact hn361_4) | (show (Addr.add _ _).block≠_;rw [add_block];exact hn361_4) | exact hn361_4) (.int .i64 ((rd_T34 l0 x12_2).f4))).trans hx361_0;replace hx361_1:=(cell_far (p:=⟨gb360,4,none⟩) (by first | (rw [add_block];exact hn361_4) | (show (Addr.add _ _).block≠_;rw [add_block];exact hn361_4) | exact hn361_4) (.int .i64 ((rd_T34 l0 x12_2).f4))).trans hx361_1;replace hx361_2:=(cell_far (p:=⟨gb360,4,none⟩) (by first | (rw [add_block];exact hn361_4) | (show (Addr.add _ _).block≠_;rw [add_block];exact hn361_4) | exact hn361_4) (.int .i64 ((rd_T34 l0 x12_2).f4))).trans hx361_2;replace hx361_3:=(cell_far (p:=⟨gb360,4,none⟩) (by first | (rw [add_block];exact hn361_4) | (show (Addr.add _ _).block≠_;rw [add_block];exact hn361_4) | exact hn361_4) (.int .i64 ((rd_T34 l0 x12_2).f4))).trans hx361_3;replace hx361_4:=(cell_far (p:=⟨gb360,4,none⟩) (by first | (rw [add_block];exact hn361_4) | (show (Addr.add _ _).block≠_;rw [add_block];exact hn361_4) | exact hn361_4) (.int .i64 ((rd_T34 l0 x12_2).f4))).trans hx361_4;replace hx361_5:=(cell_far (p:=⟨gb360,4,none⟩) (by first | (rw [add_block];exact hn361_4) | (show (Addr.add _ _).block≠_;rw [add_block];exact hn361_4) | exact hn361_4) (.int .i64 ((rd_T34 l0 x12_2).f4))).trans hx361_5;replace hx361_6:=(cell_far (p:=⟨gb360,4,none⟩) (by first | (rw [add_block];exact hn361_4) | (show (Addr.add _ _).block≠_;rw [add_block];exact hn361_4) | exact hn361_4) (.int .i64 ((rd_T34 l0 x12_2).f4))).trans hx361_6;replace hx361_0:=(cell_far (p:=⟨gb360,5,none⟩) (by first | (rw [add_block];exact hn361_5) | (show (Addr.add _ _).block≠_;rw [add_block];exact hn361_5) | exact hn361_5) (.bool ((rd_T34 l0 x12_2).f5))).trans hx361_0;replace hx361_1:=(cell_far (p:=⟨gb360,5,none⟩) (by first | (rw [add_block];exact hn361_5) | (show (Addr.add _ _).block≠_;rw [add_block];exact hn361_5) | exact hn361_5) (.bool ((rd_T34 l0 x12_2).f5))).trans hx361_1;replace hx361_2:=(cell_far (p:=⟨gb360,5,none⟩) (by first | (rw [add_block];exact hn361_5) | (show (Addr.add _ _).block≠_;rw [add_block];exact hn361_5) | exact hn361_5) (.bool ((rd_T34 l0 x12_2).f5))).trans hx361_2;replace hx361_3:=(cell_far (p:=⟨gb360,5,none⟩) (by first | (rw [add_block];exact hn361_5) | (show (Addr.add _ _).block≠_;rw [add_block];exact hn361_5) | exact hn361_5) (.bool ((rd_T34 l0 x12_2).f5))).trans hx361_3;replace hx361_4:=(cell_far (p:=⟨gb360,5,none⟩) (by first | (rw [add_block];exact hn361_5) | (show (Addr.add _ _).block≠_;rw [add_block];exact hn361_5) | exact hn361_5) (.bool ((rd_T34 l0 x12_2).f5))).trans hx361_4;replace hx361_5:=(cell_far (p:=⟨gb360,5,none⟩) (by first | (rw [add_block];exact hn361_5) | (show (Addr.add _ _).block≠_;rw [add_block];exact hn361_5) | exact hn361_5) (.bool ((rd_T34 l0 x12_2).f5))).trans hx361_5;replace hx361_6:=(cell_far (p:=⟨gb360,5,none⟩) (by first | (rw [add_block];exact hn361_5) | (show (Addr.add _ _).block≠_;rw [add_block];exact hn361_5) | exact hn361_5) (.bool ((rd_T34 l0 x12_2).f5))).trans hx361_6;replace hx361_0:=(cell_far (p:=⟨gb360,6,none⟩) (by first | (rw [add_block];exact hn361_6) | (show (Addr.add _ _).block≠_;rw [add_block];exact hn361_6) | exact hn361_6) (.bool ((rd_T34 l0 x12_2).f6))).trans hx361_0;replace hx361_1:=(cell_far (p:=⟨gb360,6,none⟩) (by first | (rw [add_block];exact hn361_6) | (show (Addr.add _ _).block≠_;rw [add_block];exact hn361_6) | exact hn361_6) (.bool ((rd_T34 l0 x12_2).f6))).trans hx361_1;replace hx361_2:=(cell_far (p:=⟨gb360,6,none⟩) (by first | (rw [add_block];exact hn361_6) | (show (Addr.add _ _).block≠_;rw [add_block];exact hn361_6) | exact hn361_6) (.bool ((rd_T34 l0 x12_2).f6))).trans hx361_2;replace hx361_3:=(cell_far (p:=⟨gb360,6,none⟩) (by first | (rw [add_block];exact hn361_6) | (show (Addr.add _ _).block≠_;rw [add_block];exact hn361_6) | exact hn361_6) (.bool ((rd_T34 l0 x12_2).f6))).trans hx361_3;replace hx361_4:=(cell_far (p:=⟨gb360,6,none⟩) (by first | (rw [add_block];exact hn361_6) | (show (Addr.add _ _).block≠_;rw [add_block];exact hn361_6) | exact hn361_6) (.bool ((rd_T34 l0 x12_2).f6))).trans hx361_4;replace hx361_5:=(cell_far (p:=⟨gb360,6,none⟩) (by first | (rw [add_block];exact hn361_6) | (show (Addr.add _ _).block≠_;rw [add_block];exact hn361_6) | exact hn361_6) (.bool ((rd_T34 l0 x12_2).f6))).trans hx361_5;replace hx361_6:=(cell_far (p:=⟨gb360,6,none⟩) (by first | (rw [add_block];exact hn361_6) | (show (Addr.add _ _).block≠_;rw [add_block];exact hn361_6) | exact hn361_6) (.bool ((rd_T34 l0 x12_2).f6))).trans hx361_6;clear hn361_0;clear hn361_1;clear hn361_2;clear hn361_3;clear hn361_4;clear hn361_5;clear hn361_6;replace p361:=eq_true p361;replace q361:=eq_true q361))
        have n0_ : Aside0 (((((((((w17.setCell ⟨gb360,0,none⟩ (.int .i64 ((rd_T34 l0 x12_2).f0))).setCell ⟨gb360,1,none⟩ (.int .i64 ((rd_T34 l0 x12_2).f1))).setCell ⟨gb360,2,none⟩ (.int .i64 ((rd_T34 l0 x12_2).f2))).setCell ⟨gb360,3,none⟩ (.int .i64 ((rd_T34 l0 x12_2).f3))).setCell ⟨gb360,4,none⟩ (.int .i64 ((rd_T34 l0 x12_2).f4))).setCell ⟨gb360,5,none⟩ (.bool ((rd_T34 l0 x12_2).f5))).setCell ⟨gb360,6,none⟩ (.bool ((rd_T34 l0 x12_2).f6))).setCell ⟨gb360,3,none⟩ (.int .i64 ((rd_T34 l4 x12_2).f3))).heap[gb360]? = some (.cells #[.int .i64 ((rd_T34 l0 x12_2).f0),.int .i64 ((rd_T34 l0 x12_2).f1),.int .i64 ((rd_T34 l0 x12_2).f2),.int .i64 ((rd_T34 l4 x12_2).f3),.int .i64 ((rd_T34 l0 x12_2).f4),.bool ((rd_T34 l0 x12_2).f5),.bool ((rd_T34 l0 x12_2).f6)] 34 (0,0))):=⟨by (with_reducible repeat (first | refine blk_drewN ?_ _ | refine blk_drew ?_ | refine blk_alloc ?_ _));refine blk_put (cs:=#[.int .i64 ((rd_T34 l0 x12_2).f0),.int .i64 ((rd_T34 l0 x12_2).f1),.int .i64 ((rd_T34 l0 x12_2).f2),.int .i64 ((rd_T34 l0 x12_2).f3),.int .i64 ((rd_T34 l0 x12_2).f4),.bool ((rd_T34 l0 x12_2).f5),.bool ((rd_T34 l0 x12_2).f6)]) ?_ 3 _ rfl;(with_reducible repeat (first | refine blk_drewN ?_ _ | refine blk_drew ?_ | refine blk_alloc ?_ _));refine blk_put (cs:=#[.int .i64 ((rd_T34 l0 x12_2).f0),.int .i64 ((rd_T34 l0 x12_2).f1),.int .i64 ((rd_T34 l0 x12_2).f2),.int .i64 ((rd_T34 l0 x12_2).f3),.int .i64 ((rd_T34 l0 x12_2).f4),.bool ((rd_T34 l0 x12_2).f5),.bool false]) ?_ 6 _ rfl;(with_reducible repeat (first | refine blk_drewN ?_ _ | refine blk_drew ?_ | refine blk_alloc ?_ _));refine blk_put (cs:=#[.int .i64 ((rd_T34 l0 x12_2).f0),.int .i64 ((rd_T34 l0 x12_2).f1),.int .i64 ((rd_T34 l0 x12_2).f2),.int .i64 ((rd_T34 l0 x12_2).f3),.int .i64 ((rd_T34 l0 x12_2).f4),.bool false,.bool false]) ?_ 5 _ rfl;(with_reducible repeat (first | refine blk_drewN ?_ _ | refine blk_drew ?_ | refine blk_alloc ?_ _));refine blk_put (cs:=#[.int .i64 ((rd_T34 l0 x12_2).f0),.int .i64 ((rd_T34 l0 x12_2).f1),.int .i64 ((rd_T34 l0 x12_2).f2),.int .i64 ((rd_T34 l0 x12_2).f3),.int .i64 0,.bool false,.bool false]) ?_ 4 _ rfl;(with_reducible repeat (first | refine blk_drewN ?_ _ | refine blk_drew ?_ | refine blk_alloc ?_ _));refine blk_put (cs:=#[.int .i64 ((rd_T34 l0 x12_2).f0),.int .i64 ((rd_T34 l0 x12_2).f1),.int .i64 ((rd_T34 l0 x12_2).f2),.int .i64 0,.int .i64 0,.bool false,.bool false]) ?_ 3 _ rfl;(with_reducible repeat (first | refine blk_drewN ?_ _ | refine blk_drew ?_ | refine blk_alloc ?_ _));refine blk_put (cs:=#[.int .i64 ((rd_T34 l0 x12_2).f0),.int .i64 ((rd_T34 l0 x12_2).f1),.int .i64 0,.int .i64 0,.int .i64 0,.bool false,.bool false]) ?_ 2 _ rfl;(with_reducible repeat (first | refine blk_drewN ?_ _ | refine blk_drew ?_ | refine blk_alloc ?_ _));refine blk_put (cs:=#[.int .i64 ((rd_T34 l0 x12_2).f0),.int .i64 0,.int .i64 0,.int .i64 0,.int .i64 0,.bool false,.bool false]) ?_ 1 _ rfl;(with_reducible repeat (first | refine blk_drewN ?_ _ | refine blk_drew ?_ | refine blk_alloc ?_ _));refine blk_put (cs:=#[.int .i64 0,.int .i64 0,.int .i64 0,.int .i64 0,.int .i64 0,.bool false,.bool false]) ?_ 0 _ rfl;(with_reducible repeat (first | refine blk_drewN ?_ _ | refine blk_drew ?_ | refine blk_alloc ?_ _));exact BK360.out⟩
        have n1_ : Aside0 (Below w.heap.size w ((((((((w17.setCell ⟨gb360,0,none⟩ (.int .i64 ((rd_T34 l0 x12_2).f0))).setCell ⟨gb360,1,none⟩ (.int .i64 ((rd_T34 l0 x12_2).f1))).setCell ⟨gb360,2,none⟩ (.int .i64 ((rd_T34 l0 x12_2).f2))).setCell ⟨gb360,3,none⟩ (.int .i64 ((rd_T34 l0 x12_2).f3))).setCell ⟨gb360,4,none⟩ (.int .i64 ((rd_T34 l0 x12_2).f4))).setCell ⟨gb360,5,none⟩ (.bool ((rd_T34 l0 x12_2).f5))).setCell ⟨gb360,6,none⟩ (.bool ((rd_T34 l0 x12_2).f6))).setCell ⟨gb360,3,none⟩ (.int .i64 ((rd_T34 l4 x12_2).f3)))):=⟨by repeat (first | (with_reducible first | exact HB.out | apply b0_ | apply b1_ | apply b2_ | refine below_set ?_ GE360.out) | exact HB.out)⟩
        (try clear BK360)
        (try clear HB)
        generalize ((((((((w17.setCell ⟨gb360,0,none⟩ (.int .i64 ((rd_T34 l0 x12_2).f0))).setCell ⟨gb360,1,none⟩ (.int .i64 ((rd_T34 l0 x12_2).f1))).setCell ⟨gb360,2,none⟩ (.int .i64 ((rd_T34 l0 x12_2).f2))).setCell ⟨gb360,3,none⟩ (.int .i64 ((rd_T34 l0 x12_2).f3))).setCell ⟨gb360,4,none⟩ (.int .i64 ((rd_T34 l0 x12_2).f4))).setCell ⟨gb360,5,none⟩ (.bool ((rd_T34 l0 x12_2).f5))).setCell ⟨gb360,6,none⟩ (.bool ((rd_T34 l0 x12_2).f6))).setCell ⟨gb360,3,none⟩ (.int .i64 ((rd_T34 l4 x12_2).f3))) = w19 at n0_ n1_ ⊢
        have BK360:=n0_;have HB:=n1_;clear n0_ n1_;have n0_:=Aside0.mk (blk_drew BK360.out);have n1_:=Aside0.mk (b2_ HB.out);clear BK360;clear HB;have BK360:=n0_;have HB:=n1_;clear n0_ n1_;have p362 : 0≤(x12_2 : Int):=of_decide_eq_true (by first | (with_reducible assumption) | assumption)
        have q362 : x12_2 < (l4.length : Int):=of_decide_eq_true (by first | (with_reducible assumption) | assumption);obtain ⟨ad362,e362,hx362_0,hx362_1,hx362_2,hx362_3,hx362_4,hx362_5,hx362_6⟩:=at_T34 HR4.out x12_2 p362 q362;have hw362_6:=hx362_6;have hw362_5:=hx362_5;have hw362_4:=hx362_4;have hw362_3:=hx362_3;have hw362_2:=hx362_2;have hw362_1:=hx362_1
        have hw362_0:=hx362_0;obtain rfl : ad361 = ad362:=(by injection e362);replace hx362_0:=(HB.out.cell (World.block_lt_of_cell? w _ hx362_0)).trans hx362_0;replace hx362_1:=(HB.out.cell (World.block_lt_of_cell? w _ hx362_1)).trans hx362_1;replace hx362_2:=(HB.out.cell (World.block_lt_of_cell? w _ hx362_2)).trans hx362_2
        replace hx362_3:=(HB.out.cell (World.block_lt_of_cell? w _ hx362_3)).trans hx362_3;replace hx362_4:=(HB.out.cell (World.block_lt_of_cell? w _ hx362_4)).trans hx362_4;replace hx362_5:=(HB.out.cell (World.block_lt_of_cell? w _ hx362_5)).trans hx362_5;replace hx362_6:=(HB.out.cell (World.block_lt_of_cell? w _ hx362_6)).trans hx362_6;replace p362:=eq_true p362
        replace q362:=eq_true q362
        refine start_ (n:=6) (S:=fun w' => w'.cell? ⟨gb360,0,none⟩ = some (.int .i64 ((rd_T34 l0 x12_2).f0))∧w'.cell? ⟨gb360,1,none⟩ = some (.int .i64 ((rd_T34 l0 x12_2).f1))∧w'.cell? ⟨gb360,2,none⟩ = some (.int .i64 ((rd_T34 l0 x12_2).f2))∧w'.cell? ⟨gb360,3,none⟩ = some (.int .i64 ((rd_T34 l4 x12_2).f3))∧w'.cell? ⟨gb360,4,none⟩ = some (.int .i64 ((rd_T34 l0 x12_2).f4))∧w'.cell? ⟨gb360,5,none⟩ = some (.bool ((rd_T34 l0 x12_2).f5))∧w'.cell? ⟨gb360,6,none⟩ = some (.bool ((rd_T34 l0 x12_2).f6))∧w'.cell? (ad361.add ((x12_2).toNat * 7)) = some (.int .i64 ((rd_T34 l4 x12_2).f0))∧w'.cell? ⟨(ad361.add ((x12_2).toNat * 7)).block,(ad361.add ((x12_2).toNat * 7)).off + 1,none⟩ = some (.int .i64 ((rd_T34 l4 x12_2).f1))∧w'.cell? ⟨(ad361.add ((x12_2).toNat * 7)).block,(ad361.add ((x12_2).toNat * 7)).off + 2,none⟩ = some (.int .i64 ((rd_T34 l4 x12_2).f2))∧w'.cell? ⟨(ad361.add ((x12_2).toNat * 7)).block,(ad361.add ((x12_2).toNat * 7)).off + 3,none⟩ = some (.int .i64 ((rd_T34 l4 x12_2).f3))∧w'.cell? ⟨(ad361.add ((x12_2).toNat * 7)).block,(ad361.add ((x12_2).toNat * 7)).off + 4,none⟩ = some (.int .i64 ((rd_T34 l4 x12_2).f4))∧w'.cell? ⟨(ad361.add ((x12_2).toNat * 7)).block,(ad361.add ((x12_2).toNat * 7)).off + 5,none⟩ = some (.bool ((rd_T34 l4 x12_2).f5))∧w'.cell? ⟨(ad361.add ((x12_2).toNat * 7)).block,(ad361.add ((x12_2).toNat * 7)).off + 6,none⟩ = some (.bool ((rd_T34 l4 x12_2).f6))) (ds:=[]) #[F0,F0,F0,F0,F0,F0] (by kernel_rfl) rfl rfl ⟨(blk_cell BK360.out 0).trans rfl,(blk_cell BK360.out 1).trans rfl,(blk_cell BK360.out 2).trans rfl,(blk_cell BK360.out 3).trans rfl,(blk_cell BK360.out 4).trans rfl,(blk_cell BK360.out 5).trans rfl,(blk_cell BK360.out 6).trans rfl,((HB.out.cell (World.block_lt_of_cell? w _ hw362_0)).trans hw362_0),((HB.out.cell (World.block_lt_of_cell? w _ hw362_1)).trans hw362_1),((HB.out.cell (World.block_lt_of_cell? w _ hw362_2)).trans hw362_2),((HB.out.cell (World.block_lt_of_cell? w _ hw362_3)).trans hw362_3),((HB.out.cell (World.block_lt_of_cell? w _ hw362_4)).trans hw362_4),((HB.out.cell (World.block_lt_of_cell? w _ hw362_5)).trans hw362_5),((HB.out.cell (World.block_lt_of_cell? w _ hw362_6)).trans hw362_6)⟩ (fun hHeld => ?_)
        generalize w19.drew = w20 at BK360 HB hx362_0 hx362_1 hx362_2 hx362_3 hx362_4 hx362_5 hx362_6 hHeld ⊢;refine pure_ (i:=1) (N:=some 52) (v:=?_) (a':=?_) #[F0,T0,F0,F0,F0,F0] rfl rfl (by kernel_rfl) (fun _ _ _ h => h) (Or.inl ⟨by rfl,?_⟩) ?_ ?_
        rotate_left
        · intro w';go_simp;with_reducible rfl
        rotate_left
        · simp only [Act.put,z0_,z1_,z2_,i64_w,i32_w];rfl
        refine pure_ (i:=2) (N:=some 53) (v:=?_) (a':=?_) #[F0,T0,T0,F0,F0,F0] rfl rfl (by kernel_rfl) (fun _ _ _ h => h) (Or.inl ⟨by rfl,?_⟩) ?_ ?_
        rotate_left
        · intro w';go_simp;with_reducible rfl
        rotate_left
        · simp only [Act.put,z0_,z1_,z2_,i64_w,i32_w];rfl
        refine pure_ (i:=3) (N:=some 54) (v:=?_) (a':=?_) #[F0,T0,T0,T0,F0,F0] rfl rfl (by kernel_rfl) (fun _ _ _ h => h) (Or.inl ⟨by rfl,?_⟩) ?_ ?_
        rotate_left
        · intro w';go_simp;with_reducible rfl
        rotate_left
        · simp only [Act.put,z0_,z1_,z2_,i64_w,i32_w];rfl
        refine take_ (i:=0) (N:=some 51) (v:=?_) (a':=?_) #[T0,T0,T0,T0,F0,F0] rfl rfl (by kernel_rfl) (fun _ _ _ h => h) (Or.inl ⟨by rfl,?_⟩) hHeld ?_ ?_
        rotate_left
        ·
         rintro w' ⟨s0,s1,s2,s3,s4,s5,s6,s7,s8,s9,s10,s11,s12,s13⟩
         go_simp;with_reducible rfl
        rotate_left
        · simp only [Act.put,z0_,z1_,z2_,i64_w,i32_w];rfl
        refine take_ (i:=4) (N:=some 55) (v:=?_) (a':=?_) #[T0,T0,T0,T0,T0,F0] rfl rfl (by kernel_rfl) (fun _ _ _ h => h) (Or.inl ⟨by rfl,?_⟩) hHeld ?_ ?_
        rotate_left
        ·
         rintro w' ⟨s0,s1,s2,s3,s4,s5,s6,s7,s8,s9,s10,s11,s12,s13⟩
         go_simp;with_reducible rfl
        rotate_left
        · simp only [Act.put,z0_,z1_,z2_,i64_w,i32_w];rfl
        refine pure_ (i:=5) (N:=some 56) (v:=?_) (a':=?_) #[T0,T0,T0,T0,T0,T0] rfl rfl (by kernel_rfl) (fun _ _ _ h => h) (Or.inl ⟨by rfl,?_⟩) ?_ ?_
        rotate_left
        · intro w';go_simp;with_reducible rfl
        rotate_left
        · simp only [Act.put,z0_,z1_,z2_,i64_w,i32_w];rfl
        refine done_ (by kernel_rfl) ?_
        try go_wp2
        go_ret;exact ⟨by first | rfl | (simp [errW_none,errW_some] <;> rfl) | (simp [*,errW_none,errW_some] <;> rfl),by repeat (first | (with_reducible first | exact HB.out | apply b0_ | apply b1_ | apply b2_ | refine below_set ?_ GE360.out) | exact HB.out)⟩
    subst c11
    have H1 : (some 2) = some r:=by rw [if_pos rfl] at H;exact H
    clear H;have H:=H1;clear H1;obtain rfl:=Option.some.inj H;go_wp2;go_ret;exact ⟨by first | rfl | (simp [errW_none,errW_some] <;> rfl) | (simp [*,errW_none,errW_some] <;> rfl),by repeat (first | (with_reducible first | exact HB.out | apply b0_ | apply b1_ | apply b2_) | exact HB.out)⟩
end
end Go.Proofs.Ytnmenfkmndnoaaa.Pr
