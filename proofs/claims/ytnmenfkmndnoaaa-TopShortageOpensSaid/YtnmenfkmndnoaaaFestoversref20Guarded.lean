-- Written by a program of this session (a changed copy of the kit's printer). Not trusted: Lean checks it.
import Derived.Test.YtnmenfkmndnoaaaM0
import Derived.Test.YtnmenfkmndnoaaaFestoversref19Inside
import Derived.Test.YtnmenfkmndnoaaaFestoversref20inside
import Derived.Test.YtnmenfkmndnoaaaFestoversref20valid
namespace Go.Proofs.Ytnmenfkmndnoaaa.Pr
open Go.RowKit Go.Proofs.YtnmenfkmndnoaaaW.PrintWords Go.Proofs.YtnmenfkmndnoaaaW.PrintLast Go.Proofs.YtnmenfkmndnoaaaW.PrintMore
attribute [local go_sem] max2_int min2_int max_two min_two max_three min_three max_four min_four
set_option linter.unusedVariables false
set_option linter.unusedSimpArgs false
mutual
def estoversref20_Guarded.j0 : Nat→List (S30)→List Int→Int→Int→Bool→Bool→Option (Bool)
 | 0,_,_,_,_,_,_ => none
 | k + 1,x0,x1,x2,x3,x4,x44 => if x44 = true then (some true) else ((estoversref20_inside.f k x0 x1).bind fun t263 => (estoversref20_Guarded.l0 k x0 x3 x4 t263 x2))
def estoversref20_Guarded.l0 : Nat→List (S30)→Int→Bool→List Int→Int→Option (Bool)
 | 0,_,_,_,_,_ => none
 | k + 1,x0,x3,x4,x11,x12 => if x12 > 0 then (estoversref20_Guarded.j2 k x0 x3 x4 x11 x12 (x12 != x3)) else (estoversref20_Guarded.j2 k x0 x3 x4 x11 x12 false)
def estoversref20_Guarded.j2 : Nat→List (S30)→Int→Bool→List Int→Int→Bool→Option (Bool)
 | 0,_,_,_,_,_,_ => none
 | k + 1,x0,x3,x4,x11,x12,x55 => if x55 = true then (if 0≤x12 then (if x12 < (x0.length : Int) then (if x4 = true then (estoversref20_Guarded.j3 k x0 x3 x4 x11 x12 ((rd_T30 x0 x12).f3)) else (estoversref20_Guarded.j3 k x0 x3 x4 x11 x12 ((rd_T30 x0 x12).f2))) else (none)) else (none)) else (some false)
def estoversref20_Guarded.j3 : Nat→List (S30)→Int→Bool→List Int→Int→Int→Option (Bool)
 | 0,_,_,_,_,_,_ => none
 | k + 1,x0,x3,x4,x11,x12,x13 => if 0≤x12 then (if x12 < (x0.length : Int) then (if x12 < (x11.length : Int) then (if (wrap64 (((rd_T30 x0 x12).f1) - (rd x11 x12)))≤x13 then (some true) else (estoversref20_Guarded.l0 k x0 x3 x4 x11 ((rd_T30 x0 x12).f0))) else (none)) else (none)) else (none)
end
def estoversref20_Guarded.f (k : Nat) (l0 : List (S30)) (l1 : List Int) (a2 : Int) (a3 : Int) (a4 : Bool) : Option (Bool):=(estoversref20_valid.f k l0 l1).bind fun t261 => (if t261 = true then (if a2 < 0 then (estoversref20_Guarded.j0 k l0 l1 a2 a3 a4 true) else (if a2≥(l0.length : Int) then (estoversref20_Guarded.j0 k l0 l1 a2 a3 a4 true) else (if a3 < (-1) then (estoversref20_Guarded.j0 k l0 l1 a2 a3 a4 true) else (if a3≥(l0.length : Int) then (estoversref20_Guarded.j0 k l0 l1 a2 a3 a4 true) else ((estoversref19_Inside.f k l0 a2 a3).bind fun t262 => (estoversref20_Guarded.j0 k l0 l1 a2 a3 a4 (!t262))))))) else (estoversref20_Guarded.j0 k l0 l1 a2 a3 a4 true))
theorem estoversref20_Guarded.mono_l : ∀ k,(∀ y0 y1 y2 y3 y4 y5,LeO (estoversref20_Guarded.j0 k y0 y1 y2 y3 y4 y5) (estoversref20_Guarded.j0 (k + 1) y0 y1 y2 y3 y4 y5))∧(∀ y0 y1 y2 y3 y4,LeO (estoversref20_Guarded.l0 k y0 y1 y2 y3 y4) (estoversref20_Guarded.l0 (k + 1) y0 y1 y2 y3 y4))∧(∀ y0 y1 y2 y3 y4 y5,LeO (estoversref20_Guarded.j2 k y0 y1 y2 y3 y4 y5) (estoversref20_Guarded.j2 (k + 1) y0 y1 y2 y3 y4 y5))∧(∀ y0 y1 y2 y3 y4 y5,LeO (estoversref20_Guarded.j3 k y0 y1 y2 y3 y4 y5) (estoversref20_Guarded.j3 (k + 1) y0 y1 y2 y3 y4 y5))
 | 0 => ⟨fun _ _ _ _ _ _ r h => by simp [estoversref20_Guarded.j0] at h,fun _ _ _ _ _ r h => by simp [estoversref20_Guarded.l0] at h,fun _ _ _ _ _ _ r h => by simp [estoversref20_Guarded.j2] at h,fun _ _ _ _ _ _ r h => by simp [estoversref20_Guarded.j3] at h⟩
 | k + 1 => by
  obtain ⟨ih0,ih1,ih2,ih3⟩:=estoversref20_Guarded.mono_l k;refine ⟨?_,?_,?_,?_⟩
  ·
   intro y0 y1 y2 y3 y4 y5
   unfold estoversref20_Guarded.j0
   repeat' first
    | (with_reducible exact ih0 _ _ _ _ _ _)
    | (with_reducible exact ih1 _ _ _ _ _)
    | (with_reducible exact ih2 _ _ _ _ _ _)
    | (with_reducible exact ih3 _ _ _ _ _ _)
    | (with_reducible exact estoversref19_Inside.mono _ _ _ _)
    | (with_reducible exact estoversref20_inside.mono _ _ _)
    | (with_reducible exact estoversref20_valid.mono _ _ _)
    | (with_reducible exact LeO.refl _)
    | (with_reducible exact LeO.none _)
    | (with_reducible refine LeO.ite ?_ ?_)
    | (with_reducible refine LeO.bind ?_ (fun _ => ?_))
    | exact ih0 _ _ _ _ _ _
    | exact ih1 _ _ _ _ _
    | exact ih2 _ _ _ _ _ _
    | exact ih3 _ _ _ _ _ _
    | exact estoversref19_Inside.mono _ _ _ _
    | exact estoversref20_inside.mono _ _ _
    | exact estoversref20_valid.mono _ _ _
    | exact LeO.none _
    | refine LeO.ite ?_ ?_
    | refine LeO.bind ?_ (fun _ => ?_)
  ·
   intro y0 y1 y2 y3 y4
   unfold estoversref20_Guarded.l0
   repeat' first
    | (with_reducible exact ih0 _ _ _ _ _ _)
    | (with_reducible exact ih1 _ _ _ _ _)
    | (with_reducible exact ih2 _ _ _ _ _ _)
    | (with_reducible exact ih3 _ _ _ _ _ _)
    | (with_reducible exact estoversref19_Inside.mono _ _ _ _)
    | (with_reducible exact estoversref20_inside.mono _ _ _)
    | (with_reducible exact estoversref20_valid.mono _ _ _)
    | (with_reducible exact LeO.refl _)
    | (with_reducible exact LeO.none _)
    | (with_reducible refine LeO.ite ?_ ?_)
    | (with_reducible refine LeO.bind ?_ (fun _ => ?_))
    | exact ih0 _ _ _ _ _ _
    | exact ih1 _ _ _ _ _
    | exact ih2 _ _ _ _ _ _
    | exact ih3 _ _ _ _ _ _
    | exact estoversref19_Inside.mono _ _ _ _
    | exact estoversref20_inside.mono _ _ _
    | exact estoversref20_valid.mono _ _ _
    | exact LeO.none _
    | refine LeO.ite ?_ ?_
    | refine LeO.bind ?_ (fun _ => ?_)
  ·
   intro y0 y1 y2 y3 y4 y5
   unfold estoversref20_Guarded.j2
   repeat' first
    | (with_reducible exact ih0 _ _ _ _ _ _)
    | (with_reducible exact ih1 _ _ _ _ _)
    | (with_reducible exact ih2 _ _ _ _ _ _)
    | (with_reducible exact ih3 _ _ _ _ _ _)
    | (with_reducible exact estoversref19_Inside.mono _ _ _ _)
    | (with_reducible exact estoversref20_inside.mono _ _ _)
    | (with_reducible exact estoversref20_valid.mono _ _ _)
    | (with_reducible exact LeO.refl _)
    | (with_reducible exact LeO.none _)
    | (with_reducible refine LeO.ite ?_ ?_)
    | (with_reducible refine LeO.bind ?_ (fun _ => ?_))
    | exact ih0 _ _ _ _ _ _
    | exact ih1 _ _ _ _ _
    | exact ih2 _ _ _ _ _ _
    | exact ih3 _ _ _ _ _ _
    | exact estoversref19_Inside.mono _ _ _ _
    | exact estoversref20_inside.mono _ _ _
    | exact estoversref20_valid.mono _ _ _
    | exact LeO.none _
    | refine LeO.ite ?_ ?_
    | refine LeO.bind ?_ (fun _ => ?_)
  ·
   intro y0 y1 y2 y3 y4 y5
   unfold estoversref20_Guarded.j3
   repeat' first
    | (with_reducible exact ih0 _ _ _ _ _ _)
    | (with_reducible exact ih1 _ _ _ _ _)
    | (with_reducible exact ih2 _ _ _ _ _ _)
    | (with_reducible exact ih3 _ _ _ _ _ _)
    | (with_reducible exact estoversref19_Inside.mono _ _ _ _)
    | (with_reducible exact estoversref20_inside.mono _ _ _)
    | (with_reducible exact estoversref20_valid.mono _ _ _)
    | (with_reducible exact LeO.refl _)
    | (with_reducible exact LeO.none _)
    | (with_reducible refine LeO.ite ?_ ?_)
    | (with_reducible refine LeO.bind ?_ (fun _ => ?_))
    | exact ih0 _ _ _ _ _ _
    | exact ih1 _ _ _ _ _
    | exact ih2 _ _ _ _ _ _
    | exact ih3 _ _ _ _ _ _
    | exact estoversref19_Inside.mono _ _ _ _
    | exact estoversref20_inside.mono _ _ _
    | exact estoversref20_valid.mono _ _ _
    | exact LeO.none _
    | refine LeO.ite ?_ ?_
    | refine LeO.bind ?_ (fun _ => ?_)
theorem estoversref20_Guarded.mono : ∀ a0 a1 a2 a3 a4 k,LeO (estoversref20_Guarded.f k a0 a1 a2 a3 a4) (estoversref20_Guarded.f (k + 1) a0 a1 a2 a3 a4):=by
 intro a0 a1 a2 a3 a4 k;obtain ⟨ih0,ih1,ih2,ih3⟩:=estoversref20_Guarded.mono_l k
 unfold estoversref20_Guarded.f
 repeat' first
  | (with_reducible exact ih0 _ _ _ _ _ _)
  | (with_reducible exact ih1 _ _ _ _ _)
  | (with_reducible exact ih2 _ _ _ _ _ _)
  | (with_reducible exact ih3 _ _ _ _ _ _)
  | (with_reducible exact estoversref19_Inside.mono _ _ _ _)
  | (with_reducible exact estoversref20_inside.mono _ _ _)
  | (with_reducible exact estoversref20_valid.mono _ _ _)
  | (with_reducible exact LeO.refl _)
  | (with_reducible exact LeO.none _)
  | (with_reducible refine LeO.ite ?_ ?_)
  | (with_reducible refine LeO.bind ?_ (fun _ => ?_))
  | exact ih0 _ _ _ _ _ _
  | exact ih1 _ _ _ _ _
  | exact ih2 _ _ _ _ _ _
  | exact ih3 _ _ _ _ _ _
  | exact estoversref19_Inside.mono _ _ _ _
  | exact estoversref20_inside.mono _ _ _
  | exact estoversref20_valid.mono _ _ _
  | exact LeO.none _
  | refine LeO.ite ?_ ?_
  | refine LeO.bind ?_ (fun _ => ?_)
set_option maxHeartbeats 8000000 in
set_option maxRecDepth 100000 in
theorem estoversref20_Guarded.calls (k : Nat) (A0 : Option Addr) (c0 : Nat) (l0 : List (S30)) (A1 : Option Addr) (c1 : Nat) (l1 : List Int) (a2 : Int) (a3 : Int) (a4 : Bool) (r : Bool) (w : World) (hr0 : Kd.C k30 w A0 l0.length l0) (hc0 : l0.length≤c0) (hr1 : Kd.C (Kd.int .i64) w A1 l1.length l1) (hc1 : l1.length≤c1) (h : estoversref20_Guarded.f k l0 l1 a2 a3 a4 = some r) :
 Calls Try.prog 88 #[.slice A0 l0.length c0,.slice A1 l1.length c1,.int .i64 a2,.int .i64 a3,.bool a4] w fun e w' => e = .returned (.bool r)∧Below w.heap.size w w':=by
 have HR0:=Aside0.mk hr0;have HC0:=Aside0.mk hc0;clear hr0 hc0;have HR1:=Aside0.mk hr1;have HC1:=Aside0.mk hc1;clear hr1 hc1;have HB:=Aside0.mk (Below.refl w.heap.size w)
 have H : ((estoversref20_valid.f k l0 l1).bind fun t261 => (if t261 = true then (if a2 < 0 then (estoversref20_Guarded.j0 k l0 l1 a2 a3 a4 true) else (if a2≥(l0.length : Int) then (estoversref20_Guarded.j0 k l0 l1 a2 a3 a4 true) else (if a3 < (-1) then (estoversref20_Guarded.j0 k l0 l1 a2 a3 a4 true) else (if a3≥(l0.length : Int) then (estoversref20_Guarded.j0 k l0 l1 a2 a3 a4 true) else ((estoversref19_Inside.f k l0 a2 a3).bind fun t262 => (estoversref20_Guarded.j0 k l0 l1 a2 a3 a4 (!t262))))))) else (estoversref20_Guarded.j0 k l0 l1 a2 a3 a4 true))) = some r:=h
 clear h;have HC6:=Aside0.mk H;clear H
 go_enter Try.func88,Try.ntmps88
 go_upto_region 1 with (fail)
 repeat (go_quiet (fail);go_upto_region 1 with (fail))
 go_cut [44] (fun v44 wc => ∃ (kq : Nat) (x44_5 : Bool),v44 = .bool x44_5∧Aside0 (estoversref20_Guarded.j0 kq l0 l1 a2 a3 a4 x44_5 = some r)∧Aside0 (kq≤k)∧Aside0 (Below w.heap.size w wc))
 case first =>
  have H:=HC6.out;clear HC6;replace H:=Option.bind_eq_some_iff.mp H;obtain ⟨t261,A70,H⟩:=H
  replace H : (if t261 = true then (if a2 < 0 then (estoversref20_Guarded.j0 k l0 l1 a2 a3 a4 true) else (if a2≥(l0.length : Int) then (estoversref20_Guarded.j0 k l0 l1 a2 a3 a4 true) else (if a3 < (-1) then (estoversref20_Guarded.j0 k l0 l1 a2 a3 a4 true) else (if a3≥(l0.length : Int) then (estoversref20_Guarded.j0 k l0 l1 a2 a3 a4 true) else ((estoversref19_Inside.f k l0 a2 a3).bind fun t262 => (estoversref20_Guarded.j0 k l0 l1 a2 a3 a4 (!t262))))))) else (estoversref20_Guarded.j0 k l0 l1 a2 a3 a4 true)) = some r:=H
  have A7:=Aside0.mk A70;clear A70;by_cases c8 : t261 = true
  rotate_left
  ·
   replace c8:=Bool.eq_false_iff.mpr c8;subst c8
   have H1 : (estoversref20_Guarded.j0 k l0 l1 a2 a3 a4 true) = some r:=by rw [if_neg (show ¬ (false = true) by decide)] at H;exact H
   clear H;have H:=H1;clear H1;have H':=Aside0.mk H;clear H
   go_wp2_with (first | (go_at_call 95;(with_reducible refine (estoversref20_valid.calls k _ _ l0 _ _ l1 false _ ?side1 ?side2 ?side3 ?side4 A7.out).mono ?_);(case side1 => repeat (first | exact (Kd.C_below HR0.out HB.out) | (with_reducible refine Kd.C_alloc ?_ _) | (with_reducible refine Kd.C_drewN ?_ _) | (with_reducible refine Kd.C_drew ?_)));(case side2 => exact HC0.out);(case side3 => repeat (first | exact (Kd.C_below HR1.out HB.out) | (with_reducible refine Kd.C_alloc ?_ _) | (with_reducible refine Kd.C_drewN ?_ _) | (with_reducible refine Kd.C_drew ?_)));(case side4 => exact HC1.out);rintro e w' ⟨rfl,⟨nd,rfl⟩⟩;(try first | exact ⟨rfl,_,World.drewN_drewN _ _ _⟩ | exact ⟨rfl,_,Eq.trans (World.drewN_drewN _ _ _) (congrArg (World.drewN _) (Nat.add_assoc _ _ _))⟩)))
   repeat (go_quiet (first | (go_at_call 95;(with_reducible refine (estoversref20_valid.calls k _ _ l0 _ _ l1 false _ ?side1 ?side2 ?side3 ?side4 A7.out).mono ?_);(case side1 => repeat (first | exact (Kd.C_below HR0.out HB.out) | (with_reducible refine Kd.C_alloc ?_ _) | (with_reducible refine Kd.C_drewN ?_ _) | (with_reducible refine Kd.C_drew ?_)));(case side2 => exact HC0.out);(case side3 => repeat (first | exact (Kd.C_below HR1.out HB.out) | (with_reducible refine Kd.C_alloc ?_ _) | (with_reducible refine Kd.C_drewN ?_ _) | (with_reducible refine Kd.C_drew ?_)));(case side4 => exact HC1.out);rintro e w' ⟨rfl,⟨nd,rfl⟩⟩;(try first | exact ⟨rfl,_,World.drewN_drewN _ _ _⟩ | exact ⟨rfl,_,Eq.trans (World.drewN_drewN _ _ _) (congrArg (World.drewN _) (Nat.add_assoc _ _ _))⟩)));try go_wp2_with (first | (go_at_call 95;(with_reducible refine (estoversref20_valid.calls k _ _ l0 _ _ l1 false _ ?side1 ?side2 ?side3 ?side4 A7.out).mono ?_);(case side1 => repeat (first | exact (Kd.C_below HR0.out HB.out) | (with_reducible refine Kd.C_alloc ?_ _) | (with_reducible refine Kd.C_drewN ?_ _) | (with_reducible refine Kd.C_drew ?_)));(case side2 => exact HC0.out);(case side3 => repeat (first | exact (Kd.C_below HR1.out HB.out) | (with_reducible refine Kd.C_alloc ?_ _) | (with_reducible refine Kd.C_drewN ?_ _) | (with_reducible refine Kd.C_drew ?_)));(case side4 => exact HC1.out);rintro e w' ⟨rfl,⟨nd,rfl⟩⟩;(try first | exact ⟨rfl,_,World.drewN_drewN _ _ _⟩ | exact ⟨rfl,_,Eq.trans (World.drewN_drewN _ _ _) (congrArg (World.drewN _) (Nat.add_assoc _ _ _))⟩))))
   go_meet
   case rel => exact ⟨_,(true),(by first | rfl | (simp;done) | (simp [*];done)),H',⟨by first | omega | exact Nat.le_refl _⟩,⟨by repeat (first | (with_reducible first | exact HB.out | apply b0_ | apply b1_ | apply b2_) | exact HB.out)⟩⟩
  subst c8
  have H1 : (if a2 < 0 then (estoversref20_Guarded.j0 k l0 l1 a2 a3 a4 true) else (if a2≥(l0.length : Int) then (estoversref20_Guarded.j0 k l0 l1 a2 a3 a4 true) else (if a3 < (-1) then (estoversref20_Guarded.j0 k l0 l1 a2 a3 a4 true) else (if a3≥(l0.length : Int) then (estoversref20_Guarded.j0 k l0 l1 a2 a3 a4 true) else ((estoversref19_Inside.f k l0 a2 a3).bind fun t262 => (estoversref20_Guarded.j0 k l0 l1 a2 a3 a4 (!t262))))))) = some r:=by rw [if_pos rfl] at H;exact H
  clear H;have H:=H1;clear H1;by_cases c9 : a2 < 0
  rotate_left
  ·
   rw [if_neg c9] at H;have c9b0 : decide (a2 < 0) = false:=decide_eq_false c9;clear c9
   (first | rw [c9b0] | (simp only [i64_w,i32_w];rw [c9b0]) | skip)
   by_cases c10 : a2≥(l0.length : Int)
   rotate_left
   ·
    rw [if_neg c10] at H;have c10b0 : decide ((l0.length : Int)≤a2) = false:=decide_eq_false c10;clear c10;by_cases c11 : a3 < (-1)
    rotate_left
    ·
     rw [if_neg c11] at H;have c11b0 : decide (a3 < (-1)) = false:=decide_eq_false c11;clear c11;by_cases c12 : a3≥(l0.length : Int)
     rotate_left
     ·
      rw [if_neg c12] at H;have c12b0 : decide ((l0.length : Int)≤a3) = false:=decide_eq_false c12;clear c12;replace H:=Option.bind_eq_some_iff.mp H;obtain ⟨t262,A130,H⟩:=H;replace H : (estoversref20_Guarded.j0 k l0 l1 a2 a3 a4 (!t262)) = some r:=H;have A13:=Aside0.mk A130;clear A130;have H':=Aside0.mk H;clear H
      go_wp2_with (first | (go_at_call 95;(with_reducible refine (estoversref20_valid.calls k _ _ l0 _ _ l1 true _ ?side1 ?side2 ?side3 ?side4 A7.out).mono ?_);(case side1 => repeat (first | exact (Kd.C_below HR0.out HB.out) | (with_reducible refine Kd.C_alloc ?_ _) | (with_reducible refine Kd.C_drewN ?_ _) | (with_reducible refine Kd.C_drew ?_)));(case side2 => exact HC0.out);(case side3 => repeat (first | exact (Kd.C_below HR1.out HB.out) | (with_reducible refine Kd.C_alloc ?_ _) | (with_reducible refine Kd.C_drewN ?_ _) | (with_reducible refine Kd.C_drew ?_)));(case side4 => exact HC1.out);rintro e w' ⟨rfl,⟨nd,rfl⟩⟩;(try first | exact ⟨rfl,_,World.drewN_drewN _ _ _⟩ | exact ⟨rfl,_,Eq.trans (World.drewN_drewN _ _ _) (congrArg (World.drewN _) (Nat.add_assoc _ _ _))⟩)) | (go_at_call 42;(with_reducible refine (estoversref19_Inside.calls k _ _ l0 a2 a3 t262 _ ?side1 ?side2 A13.out).mono ?_);(case side1 => repeat (first | exact (Kd.C_below HR0.out (by repeat (first | (with_reducible first | exact HB.out | apply b0_ | apply b1_ | apply b2_) | exact HB.out))) | (with_reducible refine Kd.C_alloc ?_ _) | (with_reducible refine Kd.C_drewN ?_ _) | (with_reducible refine Kd.C_drew ?_)));(case side2 => exact HC0.out);rintro e w14 ⟨rfl,hb⟩;have n0_:=Aside0.mk (below_step (by repeat (first | (with_reducible first | exact HB.out | apply b0_ | apply b1_ | apply b2_) | exact HB.out)) hb);clear HB;have HB:=n0_;clear n0_))
      repeat (go_quiet (first | (go_at_call 95;(with_reducible refine (estoversref20_valid.calls k _ _ l0 _ _ l1 true _ ?side1 ?side2 ?side3 ?side4 A7.out).mono ?_);(case side1 => repeat (first | exact (Kd.C_below HR0.out HB.out) | (with_reducible refine Kd.C_alloc ?_ _) | (with_reducible refine Kd.C_drewN ?_ _) | (with_reducible refine Kd.C_drew ?_)));(case side2 => exact HC0.out);(case side3 => repeat (first | exact (Kd.C_below HR1.out HB.out) | (with_reducible refine Kd.C_alloc ?_ _) | (with_reducible refine Kd.C_drewN ?_ _) | (with_reducible refine Kd.C_drew ?_)));(case side4 => exact HC1.out);rintro e w' ⟨rfl,⟨nd,rfl⟩⟩;(try first | exact ⟨rfl,_,World.drewN_drewN _ _ _⟩ | exact ⟨rfl,_,Eq.trans (World.drewN_drewN _ _ _) (congrArg (World.drewN _) (Nat.add_assoc _ _ _))⟩)) | (go_at_call 42;(with_reducible refine (estoversref19_Inside.calls k _ _ l0 a2 a3 t262 _ ?side1 ?side2 A13.out).mono ?_);(case side1 => repeat (first | exact (Kd.C_below HR0.out (by repeat (first | (with_reducible first | exact HB.out | apply b0_ | apply b1_ | apply b2_) | exact HB.out))) | (with_reducible refine Kd.C_alloc ?_ _) | (with_reducible refine Kd.C_drewN ?_ _) | (with_reducible refine Kd.C_drew ?_)));(case side2 => exact HC0.out);rintro e w14 ⟨rfl,hb⟩;have n0_:=Aside0.mk (below_step (by repeat (first | (with_reducible first | exact HB.out | apply b0_ | apply b1_ | apply b2_) | exact HB.out)) hb);clear HB;have HB:=n0_;clear n0_));try go_wp2_with (first | (go_at_call 95;(with_reducible refine (estoversref20_valid.calls k _ _ l0 _ _ l1 true _ ?side1 ?side2 ?side3 ?side4 A7.out).mono ?_);(case side1 => repeat (first | exact (Kd.C_below HR0.out HB.out) | (with_reducible refine Kd.C_alloc ?_ _) | (with_reducible refine Kd.C_drewN ?_ _) | (with_reducible refine Kd.C_drew ?_)));(case side2 => exact HC0.out);(case side3 => repeat (first | exact (Kd.C_below HR1.out HB.out) | (with_reducible refine Kd.C_alloc ?_ _) | (with_reducible refine Kd.C_drewN ?_ _) | (with_reducible refine Kd.C_drew ?_)));(case side4 => exact HC1.out);rintro e w' ⟨rfl,⟨nd,rfl⟩⟩;(try first | exact ⟨rfl,_,World.drewN_drewN _ _ _⟩ | exact ⟨rfl,_,Eq.trans (World.drewN_drewN _ _ _) (congrArg (World.drewN _) (Nat.add_assoc _ _ _))⟩)) | (go_at_call 42;(with_reducible refine (estoversref19_Inside.calls k _ _ l0 a2 a3 t262 _ ?side1 ?side2 A13.out).mono ?_);(case side1 => repeat (first | exact (Kd.C_below HR0.out (by repeat (first | (with_reducible first | exact HB.out | apply b0_ | apply b1_ | apply b2_) | exact HB.out))) | (with_reducible refine Kd.C_alloc ?_ _) | (with_reducible refine Kd.C_drewN ?_ _) | (with_reducible refine Kd.C_drew ?_)));(case side2 => exact HC0.out);rintro e w14 ⟨rfl,hb⟩;have n0_:=Aside0.mk (below_step (by repeat (first | (with_reducible first | exact HB.out | apply b0_ | apply b1_ | apply b2_) | exact HB.out)) hb);clear HB;have HB:=n0_;clear n0_)))
      go_meet
      case rel => exact ⟨_,(!t262),(by first | rfl | (simp;done) | (simp [*];done)),H',⟨by first | omega | exact Nat.le_refl _⟩,⟨by repeat (first | (with_reducible first | exact HB.out | apply b0_ | apply b1_ | apply b2_) | exact HB.out)⟩⟩
     rw [if_pos c12] at H;have c12b0 : decide ((l0.length : Int)≤a3) = true:=decide_eq_true c12;clear c12;have H':=Aside0.mk H;clear H
     go_wp2_with (first | (go_at_call 95;(with_reducible refine (estoversref20_valid.calls k _ _ l0 _ _ l1 true _ ?side1 ?side2 ?side3 ?side4 A7.out).mono ?_);(case side1 => repeat (first | exact (Kd.C_below HR0.out HB.out) | (with_reducible refine Kd.C_alloc ?_ _) | (with_reducible refine Kd.C_drewN ?_ _) | (with_reducible refine Kd.C_drew ?_)));(case side2 => exact HC0.out);(case side3 => repeat (first | exact (Kd.C_below HR1.out HB.out) | (with_reducible refine Kd.C_alloc ?_ _) | (with_reducible refine Kd.C_drewN ?_ _) | (with_reducible refine Kd.C_drew ?_)));(case side4 => exact HC1.out);rintro e w' ⟨rfl,⟨nd,rfl⟩⟩;(try first | exact ⟨rfl,_,World.drewN_drewN _ _ _⟩ | exact ⟨rfl,_,Eq.trans (World.drewN_drewN _ _ _) (congrArg (World.drewN _) (Nat.add_assoc _ _ _))⟩)))
     repeat (go_quiet (first | (go_at_call 95;(with_reducible refine (estoversref20_valid.calls k _ _ l0 _ _ l1 true _ ?side1 ?side2 ?side3 ?side4 A7.out).mono ?_);(case side1 => repeat (first | exact (Kd.C_below HR0.out HB.out) | (with_reducible refine Kd.C_alloc ?_ _) | (with_reducible refine Kd.C_drewN ?_ _) | (with_reducible refine Kd.C_drew ?_)));(case side2 => exact HC0.out);(case side3 => repeat (first | exact (Kd.C_below HR1.out HB.out) | (with_reducible refine Kd.C_alloc ?_ _) | (with_reducible refine Kd.C_drewN ?_ _) | (with_reducible refine Kd.C_drew ?_)));(case side4 => exact HC1.out);rintro e w' ⟨rfl,⟨nd,rfl⟩⟩;(try first | exact ⟨rfl,_,World.drewN_drewN _ _ _⟩ | exact ⟨rfl,_,Eq.trans (World.drewN_drewN _ _ _) (congrArg (World.drewN _) (Nat.add_assoc _ _ _))⟩)));try go_wp2_with (first | (go_at_call 95;(with_reducible refine (estoversref20_valid.calls k _ _ l0 _ _ l1 true _ ?side1 ?side2 ?side3 ?side4 A7.out).mono ?_);(case side1 => repeat (first | exact (Kd.C_below HR0.out HB.out) | (with_reducible refine Kd.C_alloc ?_ _) | (with_reducible refine Kd.C_drewN ?_ _) | (with_reducible refine Kd.C_drew ?_)));(case side2 => exact HC0.out);(case side3 => repeat (first | exact (Kd.C_below HR1.out HB.out) | (with_reducible refine Kd.C_alloc ?_ _) | (with_reducible refine Kd.C_drewN ?_ _) | (with_reducible refine Kd.C_drew ?_)));(case side4 => exact HC1.out);rintro e w' ⟨rfl,⟨nd,rfl⟩⟩;(try first | exact ⟨rfl,_,World.drewN_drewN _ _ _⟩ | exact ⟨rfl,_,Eq.trans (World.drewN_drewN _ _ _) (congrArg (World.drewN _) (Nat.add_assoc _ _ _))⟩))))
     go_meet
     case rel => exact ⟨_,(true),(by first | rfl | (simp;done) | (simp [*];done)),H',⟨by first | omega | exact Nat.le_refl _⟩,⟨by repeat (first | (with_reducible first | exact HB.out | apply b0_ | apply b1_ | apply b2_) | exact HB.out)⟩⟩
    rw [if_pos c11] at H;have c11b0 : decide (a3 < (-1)) = true:=decide_eq_true c11;clear c11;have H':=Aside0.mk H;clear H
    go_wp2_with (first | (go_at_call 95;(with_reducible refine (estoversref20_valid.calls k _ _ l0 _ _ l1 true _ ?side1 ?side2 ?side3 ?side4 A7.out).mono ?_);(case side1 => repeat (first | exact (Kd.C_below HR0.out HB.out) | (with_reducible refine Kd.C_alloc ?_ _) | (with_reducible refine Kd.C_drewN ?_ _) | (with_reducible refine Kd.C_drew ?_)));(case side2 => exact HC0.out);(case side3 => repeat (first | exact (Kd.C_below HR1.out HB.out) | (with_reducible refine Kd.C_alloc ?_ _) | (with_reducible refine Kd.C_drewN ?_ _) | (with_reducible refine Kd.C_drew ?_)));(case side4 => exact HC1.out);rintro e w' ⟨rfl,⟨nd,rfl⟩⟩;(try first | exact ⟨rfl,_,World.drewN_drewN _ _ _⟩ | exact ⟨rfl,_,Eq.trans (World.drewN_drewN _ _ _) (congrArg (World.drewN _) (Nat.add_assoc _ _ _))⟩)))
    repeat (go_quiet (first | (go_at_call 95;(with_reducible refine (estoversref20_valid.calls k _ _ l0 _ _ l1 true _ ?side1 ?side2 ?side3 ?side4 A7.out).mono ?_);(case side1 => repeat (first | exact (Kd.C_below HR0.out HB.out) | (with_reducible refine Kd.C_alloc ?_ _) | (with_reducible refine Kd.C_drewN ?_ _) | (with_reducible refine Kd.C_drew ?_)));(case side2 => exact HC0.out);(case side3 => repeat (first | exact (Kd.C_below HR1.out HB.out) | (with_reducible refine Kd.C_alloc ?_ _) | (with_reducible refine Kd.C_drewN ?_ _) | (with_reducible refine Kd.C_drew ?_)));(case side4 => exact HC1.out);rintro e w' ⟨rfl,⟨nd,rfl⟩⟩;(try first | exact ⟨rfl,_,World.drewN_drewN _ _ _⟩ | exact ⟨rfl,_,Eq.trans (World.drewN_drewN _ _ _) (congrArg (World.drewN _) (Nat.add_assoc _ _ _))⟩)));try go_wp2_with (first | (go_at_call 95;(with_reducible refine (estoversref20_valid.calls k _ _ l0 _ _ l1 true _ ?side1 ?side2 ?side3 ?side4 A7.out).mono ?_);(case side1 => repeat (first | exact (Kd.C_below HR0.out HB.out) | (with_reducible refine Kd.C_alloc ?_ _) | (with_reducible refine Kd.C_drewN ?_ _) | (with_reducible refine Kd.C_drew ?_)));(case side2 => exact HC0.out);(case side3 => repeat (first | exact (Kd.C_below HR1.out HB.out) | (with_reducible refine Kd.C_alloc ?_ _) | (with_reducible refine Kd.C_drewN ?_ _) | (with_reducible refine Kd.C_drew ?_)));(case side4 => exact HC1.out);rintro e w' ⟨rfl,⟨nd,rfl⟩⟩;(try first | exact ⟨rfl,_,World.drewN_drewN _ _ _⟩ | exact ⟨rfl,_,Eq.trans (World.drewN_drewN _ _ _) (congrArg (World.drewN _) (Nat.add_assoc _ _ _))⟩))))
    go_meet
    case rel => exact ⟨_,(true),(by first | rfl | (simp;done) | (simp [*];done)),H',⟨by first | omega | exact Nat.le_refl _⟩,⟨by repeat (first | (with_reducible first | exact HB.out | apply b0_ | apply b1_ | apply b2_) | exact HB.out)⟩⟩
   rw [if_pos c10] at H;have c10b0 : decide ((l0.length : Int)≤a2) = true:=decide_eq_true c10;clear c10;have H':=Aside0.mk H;clear H
   go_wp2_with (first | (go_at_call 95;(with_reducible refine (estoversref20_valid.calls k _ _ l0 _ _ l1 true _ ?side1 ?side2 ?side3 ?side4 A7.out).mono ?_);(case side1 => repeat (first | exact (Kd.C_below HR0.out HB.out) | (with_reducible refine Kd.C_alloc ?_ _) | (with_reducible refine Kd.C_drewN ?_ _) | (with_reducible refine Kd.C_drew ?_)));(case side2 => exact HC0.out);(case side3 => repeat (first | exact (Kd.C_below HR1.out HB.out) | (with_reducible refine Kd.C_alloc ?_ _) | (with_reducible refine Kd.C_drewN ?_ _) | (with_reducible refine Kd.C_drew ?_)));(case side4 => exact HC1.out);rintro e w' ⟨rfl,⟨nd,rfl⟩⟩;(try first | exact ⟨rfl,_,World.drewN_drewN _ _ _⟩ | exact ⟨rfl,_,Eq.trans (World.drewN_drewN _ _ _) (congrArg (World.drewN _) (Nat.add_assoc _ _ _))⟩)))
   repeat (go_quiet (first | (go_at_call 95;(with_reducible refine (estoversref20_valid.calls k _ _ l0 _ _ l1 true _ ?side1 ?side2 ?side3 ?side4 A7.out).mono ?_);(case side1 => repeat (first | exact (Kd.C_below HR0.out HB.out) | (with_reducible refine Kd.C_alloc ?_ _) | (with_reducible refine Kd.C_drewN ?_ _) | (with_reducible refine Kd.C_drew ?_)));(case side2 => exact HC0.out);(case side3 => repeat (first | exact (Kd.C_below HR1.out HB.out) | (with_reducible refine Kd.C_alloc ?_ _) | (with_reducible refine Kd.C_drewN ?_ _) | (with_reducible refine Kd.C_drew ?_)));(case side4 => exact HC1.out);rintro e w' ⟨rfl,⟨nd,rfl⟩⟩;(try first | exact ⟨rfl,_,World.drewN_drewN _ _ _⟩ | exact ⟨rfl,_,Eq.trans (World.drewN_drewN _ _ _) (congrArg (World.drewN _) (Nat.add_assoc _ _ _))⟩)));try go_wp2_with (first | (go_at_call 95;(with_reducible refine (estoversref20_valid.calls k _ _ l0 _ _ l1 true _ ?side1 ?side2 ?side3 ?side4 A7.out).mono ?_);(case side1 => repeat (first | exact (Kd.C_below HR0.out HB.out) | (with_reducible refine Kd.C_alloc ?_ _) | (with_reducible refine Kd.C_drewN ?_ _) | (with_reducible refine Kd.C_drew ?_)));(case side2 => exact HC0.out);(case side3 => repeat (first | exact (Kd.C_below HR1.out HB.out) | (with_reducible refine Kd.C_alloc ?_ _) | (with_reducible refine Kd.C_drewN ?_ _) | (with_reducible refine Kd.C_drew ?_)));(case side4 => exact HC1.out);rintro e w' ⟨rfl,⟨nd,rfl⟩⟩;(try first | exact ⟨rfl,_,World.drewN_drewN _ _ _⟩ | exact ⟨rfl,_,Eq.trans (World.drewN_drewN _ _ _) (congrArg (World.drewN _) (Nat.add_assoc _ _ _))⟩))))
   go_meet
   case rel => exact ⟨_,(true),(by first | rfl | (simp;done) | (simp [*];done)),H',⟨by first | omega | exact Nat.le_refl _⟩,⟨by repeat (first | (with_reducible first | exact HB.out | apply b0_ | apply b1_ | apply b2_) | exact HB.out)⟩⟩
  rw [if_pos c9] at H;have c9b0 : decide (a2 < 0) = true:=decide_eq_true c9;clear c9
  (first | rw [c9b0] | (simp only [i64_w,i32_w];rw [c9b0]) | skip)
  have H':=Aside0.mk H;clear H
  go_wp2_with (first | (go_at_call 95;(with_reducible refine (estoversref20_valid.calls k _ _ l0 _ _ l1 true _ ?side1 ?side2 ?side3 ?side4 A7.out).mono ?_);(case side1 => repeat (first | exact (Kd.C_below HR0.out HB.out) | (with_reducible refine Kd.C_alloc ?_ _) | (with_reducible refine Kd.C_drewN ?_ _) | (with_reducible refine Kd.C_drew ?_)));(case side2 => exact HC0.out);(case side3 => repeat (first | exact (Kd.C_below HR1.out HB.out) | (with_reducible refine Kd.C_alloc ?_ _) | (with_reducible refine Kd.C_drewN ?_ _) | (with_reducible refine Kd.C_drew ?_)));(case side4 => exact HC1.out);rintro e w' ⟨rfl,⟨nd,rfl⟩⟩;(try first | exact ⟨rfl,_,World.drewN_drewN _ _ _⟩ | exact ⟨rfl,_,Eq.trans (World.drewN_drewN _ _ _) (congrArg (World.drewN _) (Nat.add_assoc _ _ _))⟩)))
  repeat (go_quiet (first | (go_at_call 95;(with_reducible refine (estoversref20_valid.calls k _ _ l0 _ _ l1 true _ ?side1 ?side2 ?side3 ?side4 A7.out).mono ?_);(case side1 => repeat (first | exact (Kd.C_below HR0.out HB.out) | (with_reducible refine Kd.C_alloc ?_ _) | (with_reducible refine Kd.C_drewN ?_ _) | (with_reducible refine Kd.C_drew ?_)));(case side2 => exact HC0.out);(case side3 => repeat (first | exact (Kd.C_below HR1.out HB.out) | (with_reducible refine Kd.C_alloc ?_ _) | (with_reducible refine Kd.C_drewN ?_ _) | (with_reducible refine Kd.C_drew ?_)));(case side4 => exact HC1.out);rintro e w' ⟨rfl,⟨nd,rfl⟩⟩;(try first | exact ⟨rfl,_,World.drewN_drewN _ _ _⟩ | exact ⟨rfl,_,Eq.trans (World.drewN_drewN _ _ _) (congrArg (World.drewN _) (Nat.add_assoc _ _ _))⟩)));try go_wp2_with (first | (go_at_call 95;(with_reducible refine (estoversref20_valid.calls k _ _ l0 _ _ l1 true _ ?side1 ?side2 ?side3 ?side4 A7.out).mono ?_);(case side1 => repeat (first | exact (Kd.C_below HR0.out HB.out) | (with_reducible refine Kd.C_alloc ?_ _) | (with_reducible refine Kd.C_drewN ?_ _) | (with_reducible refine Kd.C_drew ?_)));(case side2 => exact HC0.out);(case side3 => repeat (first | exact (Kd.C_below HR1.out HB.out) | (with_reducible refine Kd.C_alloc ?_ _) | (with_reducible refine Kd.C_drewN ?_ _) | (with_reducible refine Kd.C_drew ?_)));(case side4 => exact HC1.out);rintro e w' ⟨rfl,⟨nd,rfl⟩⟩;(try first | exact ⟨rfl,_,World.drewN_drewN _ _ _⟩ | exact ⟨rfl,_,Eq.trans (World.drewN_drewN _ _ _) (congrArg (World.drewN _) (Nat.add_assoc _ _ _))⟩))))
  go_meet
  case rel => exact ⟨_,(true),(by first | rfl | (simp;done) | (simp [*];done)),H',⟨by first | omega | exact Nat.le_refl _⟩,⟨by repeat (first | (with_reducible first | exact HB.out | apply b0_ | apply b1_ | apply b2_) | exact HB.out)⟩⟩
 case rest =>
  clear HC6;obtain ⟨kq,x44_5,rfl,HA,HJ5,HB⟩:=hcut
  cases kq with
   | zero => exact absurd HA.out (by simp [estoversref20_Guarded.j0])
   | succ kj5 =>
    have H:=HA.out;clear HA;simp only [estoversref20_Guarded.j0] at H;by_cases c15 : x44_5 = true
    rotate_left
    ·
     replace c15:=Bool.eq_false_iff.mpr c15;subst c15
     have H1 : ((estoversref20_inside.f kj5 l0 l1).bind fun t263 => (estoversref20_Guarded.l0 kj5 l0 a3 a4 t263 a2)) = some r:=by rw [if_neg (show ¬ (false = true) by decide)] at H;exact H
     clear H;have H:=H1;clear H1;replace H:=Option.bind_eq_some_iff.mp H;obtain ⟨t263,A160,H⟩:=H;replace H : (estoversref20_Guarded.l0 kj5 l0 a3 a4 t263 a2) = some r:=H;have A16:=Aside0.mk A160;clear A160;have H':=Aside0.mk H;clear H
     go_wp2_with (first | (go_at_call 96;(with_reducible refine (estoversref20_inside.calls kj5 _ _ l0 _ _ l1 t263 _ ?side1 ?side2 ?side3 ?side4 A16.out).mono ?_);(case side1 => repeat (first | exact (Kd.C_below HR0.out HB.out) | (with_reducible refine Kd.C_alloc ?_ _) | (with_reducible refine Kd.C_drewN ?_ _) | (with_reducible refine Kd.C_drew ?_)));(case side2 => exact HC0.out);(case side3 => repeat (first | exact (Kd.C_below HR1.out HB.out) | (with_reducible refine Kd.C_alloc ?_ _) | (with_reducible refine Kd.C_drewN ?_ _) | (with_reducible refine Kd.C_drew ?_)));(case side4 => exact HC1.out);rintro e w17 ⟨v264,rfl,ho0,hb⟩;have n0_:=Aside0.mk (Kd.R_lower ho0 (below_size (by repeat (first | (with_reducible first | exact HB.out | apply b0_ | apply b1_ | apply b2_) | exact HB.out))));have n1_:=Aside0.mk (below_step (by repeat (first | (with_reducible first | exact HB.out | apply b0_ | apply b1_ | apply b2_) | exact HB.out)) hb);clear HB;have HO265:=n0_;have HB:=n1_;clear n0_ n1_;(try clear ho0)))
     repeat (go_quiet (first | (go_at_call 96;(with_reducible refine (estoversref20_inside.calls kj5 _ _ l0 _ _ l1 t263 _ ?side1 ?side2 ?side3 ?side4 A16.out).mono ?_);(case side1 => repeat (first | exact (Kd.C_below HR0.out HB.out) | (with_reducible refine Kd.C_alloc ?_ _) | (with_reducible refine Kd.C_drewN ?_ _) | (with_reducible refine Kd.C_drew ?_)));(case side2 => exact HC0.out);(case side3 => repeat (first | exact (Kd.C_below HR1.out HB.out) | (with_reducible refine Kd.C_alloc ?_ _) | (with_reducible refine Kd.C_drewN ?_ _) | (with_reducible refine Kd.C_drew ?_)));(case side4 => exact HC1.out);rintro e w17 ⟨v264,rfl,ho0,hb⟩;have n0_:=Aside0.mk (Kd.R_lower ho0 (below_size (by repeat (first | (with_reducible first | exact HB.out | apply b0_ | apply b1_ | apply b2_) | exact HB.out))));have n1_:=Aside0.mk (below_step (by repeat (first | (with_reducible first | exact HB.out | apply b0_ | apply b1_ | apply b2_) | exact HB.out)) hb);clear HB;have HO265:=n0_;have HB:=n1_;clear n0_ n1_;(try clear ho0)));try go_wp2_with (first | (go_at_call 96;(with_reducible refine (estoversref20_inside.calls kj5 _ _ l0 _ _ l1 t263 _ ?side1 ?side2 ?side3 ?side4 A16.out).mono ?_);(case side1 => repeat (first | exact (Kd.C_below HR0.out HB.out) | (with_reducible refine Kd.C_alloc ?_ _) | (with_reducible refine Kd.C_drewN ?_ _) | (with_reducible refine Kd.C_drew ?_)));(case side2 => exact HC0.out);(case side3 => repeat (first | exact (Kd.C_below HR1.out HB.out) | (with_reducible refine Kd.C_alloc ?_ _) | (with_reducible refine Kd.C_drewN ?_ _) | (with_reducible refine Kd.C_drew ?_)));(case side4 => exact HC1.out);rintro e w17 ⟨v264,rfl,ho0,hb⟩;have n0_:=Aside0.mk (Kd.R_lower ho0 (below_size (by repeat (first | (with_reducible first | exact HB.out | apply b0_ | apply b1_ | apply b2_) | exact HB.out))));have n1_:=Aside0.mk (below_step (by repeat (first | (with_reducible first | exact HB.out | apply b0_ | apply b1_ | apply b2_) | exact HB.out)) hb);clear HB;have HO265:=n0_;have HB:=n1_;clear n0_ n1_;(try clear ho0))))
     go_loopg [12] kj5 (fun kq v12 w' => ∃ (x12_2 : Int),v12 = .int .i64 x12_2∧Aside0 (estoversref20_Guarded.l0 kq l0 a3 a4 t263 x12_2 = some r)∧Aside0 (kq≤kj5)∧Aside0 (Kd.R (Kd.int .i64) 3 w' w.heap.size (fun _ => True) v264 t263)∧Aside0 (Below w.heap.size w w'))
     case atStart => exact ⟨(a2),(by first | rfl | (simp;done) | (simp [*];done)),H',⟨Nat.le_refl _⟩,⟨by (with_reducible repeat (first | apply Kd.R_alloc | apply Kd.R_drewN | apply Kd.R_drew));exact HO265.out⟩,⟨by repeat (first | (with_reducible first | exact HB.out | apply b0_ | apply b1_ | apply b2_) | exact HB.out)⟩⟩
     case round =>
      clear H';obtain ⟨x12_2,rfl,HA,HK2,HO_11,HB⟩:=hrel
      cases gk with
       | zero => exact absurd HA.out (by simp [estoversref20_Guarded.l0])
       | succ k2 =>
        have H:=HA.out;clear HA;simp only [estoversref20_Guarded.l0] at H;have HC18:=Aside0.mk H;clear H
        go_upto_region 5 with (fail)
        repeat (go_quiet (fail);go_upto_region 5 with (fail))
        go_cut [55] (fun v55 wc => ∃ (kq : Nat) (x55_17 : Bool),v55 = .bool x55_17∧Aside0 (estoversref20_Guarded.j2 kq l0 a3 a4 t263 x12_2 x55_17 = some r)∧Aside0 (kq≤k2)∧Aside0 (Kd.R (Kd.int .i64) 3 wc w.heap.size (fun _ => True) v264 t263)∧Aside0 (Below w.heap.size w wc))
        case first =>
         have H:=HC18.out;clear HC18;by_cases c19 : x12_2 > 0
         rotate_left
         ·
          rw [if_neg c19] at H;have c19b0 : decide (0 < x12_2) = false:=decide_eq_false c19;clear c19
          (first | rw [c19b0] | (simp only [i64_w,i32_w];rw [c19b0]) | skip)
          have H':=Aside0.mk H;clear H;go_wp2
          repeat (go_quiet (fail);try go_wp2)
          go_meet
          case rel => exact ⟨_,(false),(by first | rfl | (simp;done) | (simp [*];done)),H',⟨by have:=HJ5.out;have:=HK2.out;first | omega | exact Nat.le_refl _⟩,⟨by (with_reducible repeat (first | apply Kd.R_alloc | apply Kd.R_drewN | apply Kd.R_drew));exact HO_11.out⟩,⟨by repeat (first | (with_reducible first | exact HB.out | apply b0_ | apply b1_ | apply b2_) | exact HB.out)⟩⟩
         rw [if_pos c19] at H;have c19b0 : decide (0 < x12_2) = true:=decide_eq_true c19;clear c19
         (first | rw [c19b0] | (simp only [i64_w,i32_w];rw [c19b0]) | skip)
         have H':=Aside0.mk H;clear H;go_wp2
         repeat (go_quiet (fail);try go_wp2)
         go_meet
         case rel => exact ⟨_,((x12_2 != a3)),(by first | rfl | (simp;done) | (simp [*];done)),H',⟨by have:=HJ5.out;have:=HK2.out;first | omega | exact Nat.le_refl _⟩,⟨by (with_reducible repeat (first | apply Kd.R_alloc | apply Kd.R_drewN | apply Kd.R_drew));exact HO_11.out⟩,⟨by repeat (first | (with_reducible first | exact HB.out | apply b0_ | apply b1_ | apply b2_) | exact HB.out)⟩⟩
        case rest =>
         clear HC18;obtain ⟨kq,x55_17,rfl,HA,HJ17,HO_11,HB⟩:=hcut
         cases kq with
          | zero => exact absurd HA.out (by simp [estoversref20_Guarded.j2])
          | succ kj17 =>
           have H:=HA.out;clear HA;simp only [estoversref20_Guarded.j2] at H;by_cases c20 : x55_17 = true
           rotate_left
           ·
            replace c20:=Bool.eq_false_iff.mpr c20;subst c20
            have H1 : (some false) = some r:=by rw [if_neg (show ¬ (false = true) by decide)] at H;exact H
            clear H;have H:=H1;clear H1;obtain rfl:=Option.some.inj H;go_wp2
            repeat (go_quiet (fail);try go_wp2)
            go_ret;exact ⟨by first | rfl | (simp [errW_none,errW_some] <;> rfl) | (simp [*,errW_none,errW_some] <;> rfl),by repeat (first | (with_reducible first | exact HB.out | apply b0_ | apply b1_ | apply b2_) | exact HB.out)⟩
           subst c20
           have H1 : (if 0≤x12_2 then (if x12_2 < (l0.length : Int) then (if a4 = true then (estoversref20_Guarded.j3 kj17 l0 a3 a4 t263 x12_2 ((rd_T30 l0 x12_2).f3)) else (estoversref20_Guarded.j3 kj17 l0 a3 a4 t263 x12_2 ((rd_T30 l0 x12_2).f2))) else (none)) else (none)) = some r:=by rw [if_pos rfl] at H;exact H
           clear H;have H:=H1;clear H1;by_cases c21 : 0≤x12_2
           rotate_left
           · rw [if_neg c21] at H;exact absurd H (by simp)
           rw [if_pos c21] at H;have c21b0 : decide (0≤x12_2) = true:=decide_eq_true c21;clear c21;by_cases c22 : x12_2 < (l0.length : Int)
           rotate_left
           · rw [if_neg c22] at H;exact absurd H (by simp)
           rw [if_pos c22] at H;have c22b0 : decide (x12_2 < (l0.length : Int)) = true:=decide_eq_true c22;clear c22;have HC23:=Aside0.mk H;clear H;have p266 : 0≤(x12_2 : Int):=of_decide_eq_true (by first | (with_reducible assumption) | assumption);have q266 : x12_2 < (l0.length : Int):=of_decide_eq_true (by first | (with_reducible assumption) | assumption)
           obtain ⟨ad266,e266,hx266_0,hx266_1,hx266_2,hx266_3,hx266_4⟩:=at_T30 HR0.out x12_2 p266 q266;cases e266;replace hx266_0:=(HB.out.cell (World.block_lt_of_cell? w _ hx266_0)).trans hx266_0;replace hx266_1:=(HB.out.cell (World.block_lt_of_cell? w _ hx266_1)).trans hx266_1;replace hx266_2:=(HB.out.cell (World.block_lt_of_cell? w _ hx266_2)).trans hx266_2
           replace hx266_3:=(HB.out.cell (World.block_lt_of_cell? w _ hx266_3)).trans hx266_3;replace hx266_4:=(HB.out.cell (World.block_lt_of_cell? w _ hx266_4)).trans hx266_4;replace p266:=eq_true p266;replace q266:=eq_true q266
           go_upto_if 66 with (fail)
           repeat (go_quiet (fail);go_upto_if 66 with (fail))
           go_cut [13] (fun v13 wc => ∃ (kq : Nat) (x13_22 : Int),v13 = .int .i64 x13_22∧Aside0 (estoversref20_Guarded.j3 kq l0 a3 a4 t263 x12_2 x13_22 = some r)∧Aside0 (kq≤kj17)∧Aside0 (Kd.R (Kd.int .i64) 3 wc w.heap.size (fun _ => True) v264 t263)∧Aside0 (Below w.heap.size w wc))
           case first =>
            have H:=HC23.out;clear HC23;by_cases c24 : a4 = true
            rotate_left
            ·
             replace c24:=Bool.eq_false_iff.mpr c24;subst c24
             have H1 : (estoversref20_Guarded.j3 kj17 l0 a3 false t263 x12_2 ((rd_T30 l0 x12_2).f2)) = some r:=by rw [if_neg (show ¬ (false = true) by decide)] at H;exact H
             clear H;have H:=H1;clear H1;have H':=Aside0.mk H;clear H;go_wp2
             repeat (go_quiet (fail);try go_wp2)
             go_meet
             case rel => exact ⟨_,((rd_T30 l0 x12_2).f2),(by first | rfl | (simp;done) | (simp [*];done)),H',⟨by have:=HJ5.out;have:=HK2.out;have:=HJ17.out;first | omega | exact Nat.le_refl _⟩,⟨by (with_reducible repeat (first | apply Kd.R_alloc | apply Kd.R_drewN | apply Kd.R_drew));exact HO_11.out⟩,⟨by repeat (first | (with_reducible first | exact HB.out | apply b0_ | apply b1_ | apply b2_) | exact HB.out)⟩⟩
            subst c24
            have H1 : (estoversref20_Guarded.j3 kj17 l0 a3 true t263 x12_2 ((rd_T30 l0 x12_2).f3)) = some r:=by rw [if_pos rfl] at H;exact H
            clear H;have H:=H1;clear H1;have H':=Aside0.mk H;clear H;have p267 : 0≤(x12_2 : Int):=of_decide_eq_true (by first | (with_reducible assumption) | assumption);have q267 : x12_2 < (l0.length : Int):=of_decide_eq_true (by first | (with_reducible assumption) | assumption);obtain ⟨ad267,e267,hx267_0,hx267_1,hx267_2,hx267_3,hx267_4⟩:=at_T30 HR0.out x12_2 p267 q267
            obtain rfl : ad266 = ad267:=(by injection e267);replace hx267_0:=(HB.out.cell (World.block_lt_of_cell? w _ hx267_0)).trans hx267_0;replace hx267_1:=(HB.out.cell (World.block_lt_of_cell? w _ hx267_1)).trans hx267_1;replace hx267_2:=(HB.out.cell (World.block_lt_of_cell? w _ hx267_2)).trans hx267_2;replace hx267_3:=(HB.out.cell (World.block_lt_of_cell? w _ hx267_3)).trans hx267_3
            replace hx267_4:=(HB.out.cell (World.block_lt_of_cell? w _ hx267_4)).trans hx267_4;replace p267:=eq_true p267;replace q267:=eq_true q267;go_wp2
            repeat (go_quiet (fail);try go_wp2)
            go_meet
            case rel => exact ⟨_,((rd_T30 l0 x12_2).f3),(by first | rfl | (simp;done) | (simp [*];done)),H',⟨by have:=HJ5.out;have:=HK2.out;have:=HJ17.out;first | omega | exact Nat.le_refl _⟩,⟨by (with_reducible repeat (first | apply Kd.R_alloc | apply Kd.R_drewN | apply Kd.R_drew));exact HO_11.out⟩,⟨by repeat (first | (with_reducible first | exact HB.out | apply b0_ | apply b1_ | apply b2_) | exact HB.out)⟩⟩
           case rest =>
            clear HC23;obtain ⟨kq,x13_22,rfl,HA,HJ22,HO_11,HB⟩:=hcut
            cases kq with
             | zero => exact absurd HA.out (by simp [estoversref20_Guarded.j3])
             | succ kj22 =>
              have H:=HA.out;clear HA;simp only [estoversref20_Guarded.j3] at H;by_cases c25 : 0≤x12_2
              rotate_left
              · rw [if_neg c25] at H;exact absurd H (by simp)
              rw [if_pos c25] at H;have c25b0 : decide (0≤x12_2) = true:=decide_eq_true c25;clear c25;by_cases c26 : x12_2 < (l0.length : Int)
              rotate_left
              · rw [if_neg c26] at H;exact absurd H (by simp)
              rw [if_pos c26] at H;have c26b0 : decide (x12_2 < (l0.length : Int)) = true:=decide_eq_true c26;clear c26;by_cases c27 : x12_2 < (t263.length : Int)
              rotate_left
              · rw [if_neg c27] at H;exact absurd H (by simp)
              rw [if_pos c27] at H;have c27b0 : decide (x12_2 < (t263.length : Int)) = true:=decide_eq_true c27;clear c27;by_cases c28 : (wrap64 (((rd_T30 l0 x12_2).f1) - (rd t263 x12_2)))≤x13_22
              rotate_left
              ·
               rw [if_neg c28] at H;have c28b0 : decide ((wrap64 (((rd_T30 l0 x12_2).f1) - (rd t263 x12_2)))≤x13_22) = false:=decide_eq_false c28;clear c28;have H':=Aside0.mk H;clear H;have p268 : 0≤(x12_2 : Int):=of_decide_eq_true (by first | (with_reducible assumption) | assumption);have q268 : x12_2 < (l0.length : Int):=of_decide_eq_true (by first | (with_reducible assumption) | assumption)
               obtain ⟨ad268,e268,hx268_0,hx268_1,hx268_2,hx268_3,hx268_4⟩:=at_T30 HR0.out x12_2 p268 q268;obtain rfl : ad266 = ad268:=(by injection e268);replace hx268_0:=(HB.out.cell (World.block_lt_of_cell? w _ hx268_0)).trans hx268_0;replace hx268_1:=(HB.out.cell (World.block_lt_of_cell? w _ hx268_1)).trans hx268_1
               replace hx268_2:=(HB.out.cell (World.block_lt_of_cell? w _ hx268_2)).trans hx268_2;replace hx268_3:=(HB.out.cell (World.block_lt_of_cell? w _ hx268_3)).trans hx268_3;replace hx268_4:=(HB.out.cell (World.block_lt_of_cell? w _ hx268_4)).trans hx268_4;replace p268:=eq_true p268;replace q268:=eq_true q268;obtain ⟨Ao30,co30,eo30⟩:=Kd.R_slice HO_11.out;subst eo30
               have p269 : 0≤(x12_2 : Int):=of_decide_eq_true (by first | (with_reducible assumption) | assumption);have q269 : x12_2 < (t263.length : Int):=of_decide_eq_true (by first | (with_reducible assumption) | assumption);obtain ⟨ad269,e269,hx269_0⟩:=Kd.at_int (Kd.R_reads' HO_11.out).2.2 x12_2 p269 q269;cases e269;replace p269:=eq_true p269;replace q269:=eq_true q269
               have p270 : 0≤(x12_2 : Int):=of_decide_eq_true (by first | (with_reducible assumption) | assumption);have q270 : x12_2 < (l0.length : Int):=of_decide_eq_true (by first | (with_reducible assumption) | assumption);obtain ⟨ad270,e270,hx270_0,hx270_1,hx270_2,hx270_3,hx270_4⟩:=at_T30 HR0.out x12_2 p270 q270;obtain rfl : ad266 = ad270:=(by injection e270)
               replace hx270_0:=(HB.out.cell (World.block_lt_of_cell? w _ hx270_0)).trans hx270_0;replace hx270_1:=(HB.out.cell (World.block_lt_of_cell? w _ hx270_1)).trans hx270_1;replace hx270_2:=(HB.out.cell (World.block_lt_of_cell? w _ hx270_2)).trans hx270_2;replace hx270_3:=(HB.out.cell (World.block_lt_of_cell? w _ hx270_3)).trans hx270_3
               replace hx270_4:=(HB.out.cell (World.block_lt_of_cell? w _ hx270_4)).trans hx270_4;replace p270:=eq_true p270;replace q270:=eq_true q270;go_wp2
               repeat (go_quiet (fail);try go_wp2)
               go_roundg kj22
               case measure => have:=HJ5.out;have:=HK2.out;have:=HJ17.out;have:=HJ22.out;omega
               case rel => exact ⟨((rd_T30 l0 x12_2).f0),(by first | rfl | (simp;done) | (simp [*];done)),H',⟨by have:=HJ5.out;have:=HK2.out;have:=HJ17.out;have:=HJ22.out;omega⟩,⟨by (with_reducible repeat (first | apply Kd.R_alloc | apply Kd.R_drewN | apply Kd.R_drew));exact HO_11.out⟩,⟨by repeat (first | (with_reducible first | exact HB.out | apply b0_ | apply b1_ | apply b2_) | exact HB.out)⟩⟩
              rw [if_pos c28] at H;have c28b0 : decide ((wrap64 (((rd_T30 l0 x12_2).f1) - (rd t263 x12_2)))≤x13_22) = true:=decide_eq_true c28;clear c28;obtain rfl:=Option.some.inj H;have p268 : 0≤(x12_2 : Int):=of_decide_eq_true (by first | (with_reducible assumption) | assumption);have q268 : x12_2 < (l0.length : Int):=of_decide_eq_true (by first | (with_reducible assumption) | assumption)
              obtain ⟨ad268,e268,hx268_0,hx268_1,hx268_2,hx268_3,hx268_4⟩:=at_T30 HR0.out x12_2 p268 q268;obtain rfl : ad266 = ad268:=(by injection e268);replace hx268_0:=(HB.out.cell (World.block_lt_of_cell? w _ hx268_0)).trans hx268_0;replace hx268_1:=(HB.out.cell (World.block_lt_of_cell? w _ hx268_1)).trans hx268_1
              replace hx268_2:=(HB.out.cell (World.block_lt_of_cell? w _ hx268_2)).trans hx268_2;replace hx268_3:=(HB.out.cell (World.block_lt_of_cell? w _ hx268_3)).trans hx268_3;replace hx268_4:=(HB.out.cell (World.block_lt_of_cell? w _ hx268_4)).trans hx268_4;replace p268:=eq_true p268;replace q268:=eq_true q268;obtain ⟨Ao29,co29,eo29⟩:=Kd.R_slice HO_11.out;subst eo29
              have p269 : 0≤(x12_2 : Int):=of_decide_eq_true (by first | (with_reducible assumption) | assumption);have q269 : x12_2 < (t263.length : Int):=of_decide_eq_true (by first | (with_reducible assumption) | assumption);obtain ⟨ad269,e269,hx269_0⟩:=Kd.at_int (Kd.R_reads' HO_11.out).2.2 x12_2 p269 q269;cases e269;replace p269:=eq_true p269;replace q269:=eq_true q269;go_wp2
              repeat (go_quiet (fail);try go_wp2)
              go_ret;exact ⟨by first | rfl | (simp [errW_none,errW_some] <;> rfl) | (simp [*,errW_none,errW_some] <;> rfl),by repeat (first | (with_reducible first | exact HB.out | apply b0_ | apply b1_ | apply b2_) | exact HB.out)⟩
    subst c15
    have H1 : (some true) = some r:=by rw [if_pos rfl] at H;exact H
    clear H;have H:=H1;clear H1;obtain rfl:=Option.some.inj H;go_wp2
    repeat (go_quiet (fail);try go_wp2)
    go_ret;exact ⟨by first | rfl | (simp [errW_none,errW_some] <;> rfl) | (simp [*,errW_none,errW_some] <;> rfl),by repeat (first | (with_reducible first | exact HB.out | apply b0_ | apply b1_ | apply b2_) | exact HB.out)⟩
end Go.Proofs.Ytnmenfkmndnoaaa.Pr
