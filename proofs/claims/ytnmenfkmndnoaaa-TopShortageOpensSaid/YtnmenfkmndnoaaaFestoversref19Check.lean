-- Written by a program of this session (a changed copy of the kit's printer). Not trusted: Lean checks it.
import Derived.Test.YtnmenfkmndnoaaaM0
import Derived.Test.YtnmenfkmndnoaaaFestoversref19in
import Derived.Test.YtnmenfkmndnoaaaFestoversref19kids
namespace Go.Proofs.Ytnmenfkmndnoaaa.Pr
open Go.RowKit Go.Proofs.YtnmenfkmndnoaaaW.PrintWords Go.Proofs.YtnmenfkmndnoaaaW.PrintLast Go.Proofs.YtnmenfkmndnoaaaW.PrintMore
attribute [local go_sem] max2_int min2_int max_two min_two max_three min_three max_four min_four
set_option linter.unusedVariables false
set_option linter.unusedSimpArgs false
mutual
def estoversref19_Check.j0 : Nat→List (S30)→Bool→Option (Int)
 | 0,_,_ => none
 | k + 1,x0,x14 => if x14 = true then (some 9) else (estoversref19_Check.l0 k x0 0)
def estoversref19_Check.l0 : Nat→List (S30)→Int→Option (Int)
 | 0,_,_ => none
 | k + 1,x0,x3 => if x3 < (x0.length : Int) then (if x3 = 0 then (if 0≤x3 then (if ((rd_T30 x0 x3).f0) = (-1) then (if x3 > 0 then (if ((rd_T30 x0 x3).f0) < 0 then (estoversref19_Check.j2 k x0 x3 true) else (estoversref19_Check.j2 k x0 x3 (decide (((rd_T30 x0 x3).f0)≥x3)))) else (estoversref19_Check.j2 k x0 x3 false)) else (estoversref19_Check.j2 k x0 x3 true)) else (none)) else (if x3 > 0 then (if 0≤x3 then (if ((rd_T30 x0 x3).f0) < 0 then (estoversref19_Check.j2 k x0 x3 true) else (estoversref19_Check.j2 k x0 x3 (decide (((rd_T30 x0 x3).f0)≥x3)))) else (none)) else (estoversref19_Check.j2 k x0 x3 false))) else (estoversref19_Check.l1 k x0 0)
def estoversref19_Check.j2 : Nat→List (S30)→Int→Bool→Option (Int)
 | 0,_,_,_ => none
 | k + 1,x0,x3,x51 => if x51 = true then (some 1) else (estoversref19_Check.l0 k x0 (wrap64 (x3 + 1)))
def estoversref19_Check.l1 : Nat→List (S30)→Int→Option (Int)
 | 0,_,_ => none
 | k + 1,x0,x4 => if x4 < (x0.length : Int) then (if 0≤x4 then ((estoversref19_in.f ((rd_T30 x0 x4).f1)).bind fun t215 => (if t215 = true then ((estoversref19_in.f ((rd_T30 x0 x4).f2)).bind fun t217 => (if t217 = true then ((estoversref19_in.f ((rd_T30 x0 x4).f3)).bind fun t219 => (if t219 = true then ((estoversref19_in.f ((rd_T30 x0 x4).f4)).bind fun t221 => (estoversref19_Check.j4 k x0 x4 (!t221))) else (estoversref19_Check.j4 k x0 x4 true))) else (estoversref19_Check.j4 k x0 x4 true))) else (estoversref19_Check.j4 k x0 x4 true))) else (none)) else (if 0 < (x0.length : Int) then (if ((rd_T30 x0 0).f2) = 0 then (estoversref19_Check.j5 k x0 (((rd_T30 x0 0).f3) != 0)) else (estoversref19_Check.j5 k x0 true)) else (none))
def estoversref19_Check.j4 : Nat→List (S30)→Int→Bool→Option (Int)
 | 0,_,_,_ => none
 | k + 1,x0,x4,x91 => if x91 = true then (some 2) else (estoversref19_Check.l1 k x0 (wrap64 (x4 + 1)))
def estoversref19_Check.j5 : Nat→List (S30)→Bool→Option (Int)
 | 0,_,_ => none
 | k + 1,x0,x103 => if x103 = true then (some 2) else (estoversref19_Check.l2 k x0 0)
def estoversref19_Check.l2 : Nat→List (S30)→Int→Option (Int)
 | 0,_,_ => none
 | k + 1,x0,x5 => if x5 < (x0.length : Int) then (if 0≤x5 then (if ((rd_T30 x0 x5).f1) > ((rd_T30 x0 x5).f4) then (some 17) else (estoversref19_Check.l2 k x0 (wrap64 (x5 + 1)))) else (none)) else (estoversref19_Check.l3 k x0 0)
def estoversref19_Check.l3 : Nat→List (S30)→Int→Option (Int)
 | 0,_,_ => none
 | k + 1,x0,x6 => if x6 < (x0.length : Int) then (if 0≤x6 then ((estoversref19_kids.f k x0 x6).bind fun t227 => (if ((rd_T30 x0 x6).f1) < t227 then (some 11) else (estoversref19_Check.l3 k x0 (wrap64 (x6 + 1))))) else (none)) else (some 0)
end
def estoversref19_Check.f (k : Nat) (l0 : List (S30)) : Option (Int):=if (l0.length : Int) < 1 then (estoversref19_Check.j0 k l0 true) else (estoversref19_Check.j0 k l0 (decide ((l0.length : Int) > 8)))
theorem estoversref19_Check.mono_l : ∀ k,(∀ y0 y1,LeO (estoversref19_Check.j0 k y0 y1) (estoversref19_Check.j0 (k + 1) y0 y1))∧(∀ y0 y1,LeO (estoversref19_Check.l0 k y0 y1) (estoversref19_Check.l0 (k + 1) y0 y1))∧(∀ y0 y1 y2,LeO (estoversref19_Check.j2 k y0 y1 y2) (estoversref19_Check.j2 (k + 1) y0 y1 y2))∧(∀ y0 y1,LeO (estoversref19_Check.l1 k y0 y1) (estoversref19_Check.l1 (k + 1) y0 y1))∧(∀ y0 y1 y2,LeO (estoversref19_Check.j4 k y0 y1 y2) (estoversref19_Check.j4 (k + 1) y0 y1 y2))∧(∀ y0 y1,LeO (estoversref19_Check.j5 k y0 y1) (estoversref19_Check.j5 (k + 1) y0 y1))∧(∀ y0 y1,LeO (estoversref19_Check.l2 k y0 y1) (estoversref19_Check.l2 (k + 1) y0 y1))∧(∀ y0 y1,LeO (estoversref19_Check.l3 k y0 y1) (estoversref19_Check.l3 (k + 1) y0 y1))
 | 0 => ⟨fun _ _ r h => by simp [estoversref19_Check.j0] at h,fun _ _ r h => by simp [estoversref19_Check.l0] at h,fun _ _ _ r h => by simp [estoversref19_Check.j2] at h,fun _ _ r h => by simp [estoversref19_Check.l1] at h,fun _ _ _ r h => by simp [estoversref19_Check.j4] at h,fun _ _ r h => by simp [estoversref19_Check.j5] at h,fun _ _ r h => by simp [estoversref19_Check.l2] at h,fun _ _ r h => by simp [estoversref19_Check.l3] at h⟩
 | k + 1 => by
  obtain ⟨ih0,ih1,ih2,ih3,ih4,ih5,ih6,ih7⟩:=estoversref19_Check.mono_l k;refine ⟨?_,?_,?_,?_,?_,?_,?_,?_⟩
  ·
   intro y0 y1
   unfold estoversref19_Check.j0
   repeat' first
    | (with_reducible exact ih0 _ _)
    | (with_reducible exact ih1 _ _)
    | (with_reducible exact ih2 _ _ _)
    | (with_reducible exact ih3 _ _)
    | (with_reducible exact ih4 _ _ _)
    | (with_reducible exact ih5 _ _)
    | (with_reducible exact ih6 _ _)
    | (with_reducible exact ih7 _ _)
    | (with_reducible exact estoversref19_kids.mono _ _ _)
    | (with_reducible exact LeO.refl _)
    | (with_reducible exact LeO.none _)
    | (with_reducible refine LeO.ite ?_ ?_)
    | (with_reducible refine LeO.bind ?_ (fun _ => ?_))
    | exact ih0 _ _
    | exact ih1 _ _
    | exact ih2 _ _ _
    | exact ih3 _ _
    | exact ih4 _ _ _
    | exact ih5 _ _
    | exact ih6 _ _
    | exact ih7 _ _
    | exact estoversref19_kids.mono _ _ _
    | exact LeO.none _
    | refine LeO.ite ?_ ?_
    | refine LeO.bind ?_ (fun _ => ?_)
  ·
   intro y0 y1
   unfold estoversref19_Check.l0
   repeat' first
    | (with_reducible exact ih0 _ _)
    | (with_reducible exact ih1 _ _)
    | (with_reducible exact ih2 _ _ _)
    | (with_reducible exact ih3 _ _)
    | (with_reducible exact ih4 _ _ _)
    | (with_reducible exact ih5 _ _)
    | (with_reducible exact ih6 _ _)
    | (with_reducible exact ih7 _ _)
    | (with_reducible exact estoversref19_kids.mono _ _ _)
    | (with_reducible exact LeO.refl _)
    | (with_reducible exact LeO.none _)
    | (with_reducible refine LeO.ite ?_ ?_)
    | (with_reducible refine LeO.bind ?_ (fun _ => ?_))
    | exact ih0 _ _
    | exact ih1 _ _
    | exact ih2 _ _ _
    | exact ih3 _ _
    | exact ih4 _ _ _
    | exact ih5 _ _
    | exact ih6 _ _
    | exact ih7 _ _
    | exact estoversref19_kids.mono _ _ _
    | exact LeO.none _
    | refine LeO.ite ?_ ?_
    | refine LeO.bind ?_ (fun _ => ?_)
  ·
   intro y0 y1 y2
   unfold estoversref19_Check.j2
   repeat' first
    | (with_reducible exact ih0 _ _)
    | (with_reducible exact ih1 _ _)
    | (with_reducible exact ih2 _ _ _)
    | (with_reducible exact ih3 _ _)
    | (with_reducible exact ih4 _ _ _)
    | (with_reducible exact ih5 _ _)
    | (with_reducible exact ih6 _ _)
    | (with_reducible exact ih7 _ _)
    | (with_reducible exact estoversref19_kids.mono _ _ _)
    | (with_reducible exact LeO.refl _)
    | (with_reducible exact LeO.none _)
    | (with_reducible refine LeO.ite ?_ ?_)
    | (with_reducible refine LeO.bind ?_ (fun _ => ?_))
    | exact ih0 _ _
    | exact ih1 _ _
    | exact ih2 _ _ _
    | exact ih3 _ _
    | exact ih4 _ _ _
    | exact ih5 _ _
    | exact ih6 _ _
    | exact ih7 _ _
    | exact estoversref19_kids.mono _ _ _
    | exact LeO.none _
    | refine LeO.ite ?_ ?_
    | refine LeO.bind ?_ (fun _ => ?_)
  ·
   intro y0 y1
   unfold estoversref19_Check.l1
   repeat' first
    | (with_reducible exact ih0 _ _)
    | (with_reducible exact ih1 _ _)
    | (with_reducible exact ih2 _ _ _)
    | (with_reducible exact ih3 _ _)
    | (with_reducible exact ih4 _ _ _)
    | (with_reducible exact ih5 _ _)
    | (with_reducible exact ih6 _ _)
    | (with_reducible exact ih7 _ _)
    | (with_reducible exact estoversref19_kids.mono _ _ _)
    | (with_reducible exact LeO.refl _)
    | (with_reducible exact LeO.none _)
    | (with_reducible refine LeO.ite ?_ ?_)
    | (with_reducible refine LeO.bind ?_ (fun _ => ?_))
    | exact ih0 _ _
    | exact ih1 _ _
    | exact ih2 _ _ _
    | exact ih3 _ _
    | exact ih4 _ _ _
    | exact ih5 _ _
    | exact ih6 _ _
    | exact ih7 _ _
    | exact estoversref19_kids.mono _ _ _
    | exact LeO.none _
    | refine LeO.ite ?_ ?_
    | refine LeO.bind ?_ (fun _ => ?_)
  ·
   intro y0 y1 y2
   unfold estoversref19_Check.j4
   repeat' first
    | (with_reducible exact ih0 _ _)
    | (with_reducible exact ih1 _ _)
    | (with_reducible exact ih2 _ _ _)
    | (with_reducible exact ih3 _ _)
    | (with_reducible exact ih4 _ _ _)
    | (with_reducible exact ih5 _ _)
    | (with_reducible exact ih6 _ _)
    | (with_reducible exact ih7 _ _)
    | (with_reducible exact estoversref19_kids.mono _ _ _)
    | (with_reducible exact LeO.refl _)
    | (with_reducible exact LeO.none _)
    | (with_reducible refine LeO.ite ?_ ?_)
    | (with_reducible refine LeO.bind ?_ (fun _ => ?_))
    | exact ih0 _ _
    | exact ih1 _ _
    | exact ih2 _ _ _
    | exact ih3 _ _
    | exact ih4 _ _ _
    | exact ih5 _ _
    | exact ih6 _ _
    | exact ih7 _ _
    | exact estoversref19_kids.mono _ _ _
    | exact LeO.none _
    | refine LeO.ite ?_ ?_
    | refine LeO.bind ?_ (fun _ => ?_)
  ·
   intro y0 y1
   unfold estoversref19_Check.j5
   repeat' first
    | (with_reducible exact ih0 _ _)
    | (with_reducible exact ih1 _ _)
    | (with_reducible exact ih2 _ _ _)
    | (with_reducible exact ih3 _ _)
    | (with_reducible exact ih4 _ _ _)
    | (with_reducible exact ih5 _ _)
    | (with_reducible exact ih6 _ _)
    | (with_reducible exact ih7 _ _)
    | (with_reducible exact estoversref19_kids.mono _ _ _)
    | (with_reducible exact LeO.refl _)
    | (with_reducible exact LeO.none _)
    | (with_reducible refine LeO.ite ?_ ?_)
    | (with_reducible refine LeO.bind ?_ (fun _ => ?_))
    | exact ih0 _ _
    | exact ih1 _ _
    | exact ih2 _ _ _
    | exact ih3 _ _
    | exact ih4 _ _ _
    | exact ih5 _ _
    | exact ih6 _ _
    | exact ih7 _ _
    | exact estoversref19_kids.mono _ _ _
    | exact LeO.none _
    | refine LeO.ite ?_ ?_
    | refine LeO.bind ?_ (fun _ => ?_)
  ·
   intro y0 y1
   unfold estoversref19_Check.l2
   repeat' first
    | (with_reducible exact ih0 _ _)
    | (with_reducible exact ih1 _ _)
    | (with_reducible exact ih2 _ _ _)
    | (with_reducible exact ih3 _ _)
    | (with_reducible exact ih4 _ _ _)
    | (with_reducible exact ih5 _ _)
    | (with_reducible exact ih6 _ _)
    | (with_reducible exact ih7 _ _)
    | (with_reducible exact estoversref19_kids.mono _ _ _)
    | (with_reducible exact LeO.refl _)
    | (with_reducible exact LeO.none _)
    | (with_reducible refine LeO.ite ?_ ?_)
    | (with_reducible refine LeO.bind ?_ (fun _ => ?_))
    | exact ih0 _ _
    | exact ih1 _ _
    | exact ih2 _ _ _
    | exact ih3 _ _
    | exact ih4 _ _ _
    | exact ih5 _ _
    | exact ih6 _ _
    | exact ih7 _ _
    | exact estoversref19_kids.mono _ _ _
    | exact LeO.none _
    | refine LeO.ite ?_ ?_
    | refine LeO.bind ?_ (fun _ => ?_)
  ·
   intro y0 y1
   unfold estoversref19_Check.l3
   repeat' first
    | (with_reducible exact ih0 _ _)
    | (with_reducible exact ih1 _ _)
    | (with_reducible exact ih2 _ _ _)
    | (with_reducible exact ih3 _ _)
    | (with_reducible exact ih4 _ _ _)
    | (with_reducible exact ih5 _ _)
    | (with_reducible exact ih6 _ _)
    | (with_reducible exact ih7 _ _)
    | (with_reducible exact estoversref19_kids.mono _ _ _)
    | (with_reducible exact LeO.refl _)
    | (with_reducible exact LeO.none _)
    | (with_reducible refine LeO.ite ?_ ?_)
    | (with_reducible refine LeO.bind ?_ (fun _ => ?_))
    | exact ih0 _ _
    | exact ih1 _ _
    | exact ih2 _ _ _
    | exact ih3 _ _
    | exact ih4 _ _ _
    | exact ih5 _ _
    | exact ih6 _ _
    | exact ih7 _ _
    | exact estoversref19_kids.mono _ _ _
    | exact LeO.none _
    | refine LeO.ite ?_ ?_
    | refine LeO.bind ?_ (fun _ => ?_)
theorem estoversref19_Check.mono : ∀ a0 k,LeO (estoversref19_Check.f k a0) (estoversref19_Check.f (k + 1) a0):=by
 intro a0 k;obtain ⟨ih0,ih1,ih2,ih3,ih4,ih5,ih6,ih7⟩:=estoversref19_Check.mono_l k
 unfold estoversref19_Check.f
 repeat' first
  | (with_reducible exact ih0 _ _)
  | (with_reducible exact ih1 _ _)
  | (with_reducible exact ih2 _ _ _)
  | (with_reducible exact ih3 _ _)
  | (with_reducible exact ih4 _ _ _)
  | (with_reducible exact ih5 _ _)
  | (with_reducible exact ih6 _ _)
  | (with_reducible exact ih7 _ _)
  | (with_reducible exact estoversref19_kids.mono _ _ _)
  | (with_reducible exact LeO.refl _)
  | (with_reducible exact LeO.none _)
  | (with_reducible refine LeO.ite ?_ ?_)
  | (with_reducible refine LeO.bind ?_ (fun _ => ?_))
  | exact ih0 _ _
  | exact ih1 _ _
  | exact ih2 _ _ _
  | exact ih3 _ _
  | exact ih4 _ _ _
  | exact ih5 _ _
  | exact ih6 _ _
  | exact ih7 _ _
  | exact estoversref19_kids.mono _ _ _
  | exact LeO.none _
  | refine LeO.ite ?_ ?_
  | refine LeO.bind ?_ (fun _ => ?_)
set_option maxHeartbeats 8000000 in
set_option maxRecDepth 100000 in
theorem estoversref19_Check.calls (k : Nat) (A0 : Option Addr) (c0 : Nat) (l0 : List (S30)) (r : Int) (w : World) (hr0 : Kd.C k30 w A0 l0.length l0) (hc0 : l0.length≤c0) (h : estoversref19_Check.f k l0 = some r) :
 Calls Try.prog 16 #[.slice A0 l0.length c0] w fun e w' => e = .returned (.int .i64 r)∧Drawn0 w w':=by
 have HR0:=Aside0.mk hr0;have HC0:=Aside0.mk hc0;clear hr0 hc0;have H : (if (l0.length : Int) < 1 then (estoversref19_Check.j0 k l0 true) else (estoversref19_Check.j0 k l0 (decide ((l0.length : Int) > 8)))) = some r:=h;clear h;have HC2:=Aside0.mk H;clear H
 go_enter Try.func16,Try.ntmps16
 go_upto_region 1 with (fail)
 repeat (go_quiet (fail);go_upto_region 1 with (fail))
 go_cut [14] (fun v14 wc => ∃ (kq : Nat) (x14_1 : Bool),v14 = .bool x14_1∧Aside0 (estoversref19_Check.j0 kq l0 x14_1 = some r)∧Aside0 (kq≤k)∧Drawn0 w wc)
 case first =>
  have H:=HC2.out;clear HC2;by_cases c3 : (l0.length : Int) < 1
  rotate_left
  ·
   rw [if_neg c3] at H;have c3b0 : decide ((l0.length : Int) < 1) = false:=decide_eq_false c3;have c3b1 : decide (l0.length < 1) = false:=decide_eq_false (by omega);clear c3
   (first | rw [c3b0] | (simp only [i64_w,i32_w];rw [c3b0]) | skip)
   have H':=Aside0.mk H;clear H;go_wp2
   repeat (go_quiet (fail);try go_wp2)
   go_meet
   case rel => exact ⟨_,(decide ((l0.length : Int) > 8)),(by first | rfl | (simp;done) | (simp [*];done)),H',⟨by first | omega | exact Nat.le_refl _⟩,by repeat (first | exact Drawn0.refl _ | apply Drawn0.step)⟩
  rw [if_pos c3] at H;have c3b0 : decide ((l0.length : Int) < 1) = true:=decide_eq_true c3;have c3b1 : decide (l0.length < 1) = true:=decide_eq_true (by omega);clear c3
  (first | rw [c3b0] | (simp only [i64_w,i32_w];rw [c3b0]) | skip)
  have H':=Aside0.mk H;clear H;go_wp2
  repeat (go_quiet (fail);try go_wp2)
  go_meet
  case rel => exact ⟨_,(true),(by first | rfl | (simp;done) | (simp [*];done)),H',⟨by first | omega | exact Nat.le_refl _⟩,by repeat (first | exact Drawn0.refl _ | apply Drawn0.step)⟩
 case rest =>
  clear HC2;obtain ⟨kq,x14_1,rfl,HA,HJ1,⟨mc1,rfl⟩⟩:=hcut
  cases kq with
   | zero => exact absurd HA.out (by simp [estoversref19_Check.j0])
   | succ kj1 =>
    have H:=HA.out;clear HA;simp only [estoversref19_Check.j0] at H;by_cases c4 : x14_1 = true
    rotate_left
    ·
     replace c4:=Bool.eq_false_iff.mpr c4;subst c4
     have H1 : (estoversref19_Check.l0 kj1 l0 0) = some r:=by rw [if_neg (show ¬ (false = true) by decide)] at H;exact H
     clear H;have H:=H1;clear H1;have H':=Aside0.mk H;clear H;go_wp2
     repeat (go_quiet (fail);try go_wp2)
     go_loopg [3] kj1 (fun kq v3 w' => ∃ (x3_2 : Int),v3 = .int .i64 x3_2∧Aside0 (estoversref19_Check.l0 kq l0 x3_2 = some r)∧Aside0 (kq≤kj1)∧Drawn0 w w')
     case atStart => exact ⟨(0),(by first | rfl | (simp;done) | (simp [*];done)),H',⟨Nat.le_refl _⟩,by repeat (first | exact Drawn0.refl _ | apply Drawn0.step)⟩
     case round =>
      clear H';obtain ⟨x3_2,rfl,HA,HK2,⟨m2,rfl⟩⟩:=hrel
      cases gk with
       | zero => exact absurd HA.out (by simp [estoversref19_Check.l0])
       | succ k2 =>
        have H:=HA.out;clear HA;simp only [estoversref19_Check.l0] at H;by_cases c5 : x3_2 < (l0.length : Int)
        rotate_left
        ·
         rw [if_neg c5] at H;have c5b0 : decide (x3_2 < (l0.length : Int)) = false:=decide_eq_false c5;clear c5;have H':=Aside0.mk H;clear H;go_wp2
         repeat (go_quiet (fail);try go_wp2)
         go_loopg [4] k2 (fun kq v4 w' => ∃ (x4_3 : Int),v4 = .int .i64 x4_3∧Aside0 (estoversref19_Check.l1 kq l0 x4_3 = some r)∧Aside0 (kq≤k2)∧Drawn0 w w')
         case atStart => exact ⟨(0),(by first | rfl | (simp;done) | (simp [*];done)),H',⟨Nat.le_refl _⟩,by repeat (first | exact Drawn0.refl _ | apply Drawn0.step)⟩
         case round =>
          clear H';obtain ⟨x4_3,rfl,HA,HK3,⟨m3,rfl⟩⟩:=hrel
          cases gk with
           | zero => exact absurd HA.out (by simp [estoversref19_Check.l1])
           | succ k3 =>
            have H:=HA.out;clear HA;simp only [estoversref19_Check.l1] at H;by_cases c16 : x4_3 < (l0.length : Int)
            rotate_left
            ·
             rw [if_neg c16] at H;have c16b0 : decide (x4_3 < (l0.length : Int)) = false:=decide_eq_false c16;clear c16;have HC27:=Aside0.mk H;clear H
             go_upto_region 13 with (fail)
             repeat (go_quiet (fail);go_upto_region 13 with (fail))
             go_cut [103] (fun v103 wc => ∃ (kq : Nat) (x103_26 : Bool),v103 = .bool x103_26∧Aside0 (estoversref19_Check.j5 kq l0 x103_26 = some r)∧Aside0 (kq≤k3)∧Drawn0 w wc)
             case first =>
              have H:=HC27.out;clear HC27;by_cases c28 : 0 < (l0.length : Int)
              rotate_left
              · rw [if_neg c28] at H;exact absurd H (by simp)
              rw [if_pos c28] at H;have c28b0 : decide (0 < (l0.length : Int)) = true:=decide_eq_true c28;have c28b1 : decide (0 < l0.length) = true:=decide_eq_true (by omega);clear c28
              (first | rw [c28b0] | (simp only [i64_w,i32_w];rw [c28b0]) | skip)
              by_cases c29 : ((rd_T30 l0 0).f2) = 0
              rotate_left
              ·
               rw [if_neg c29] at H;have c29b0 : (((rd_T30 l0 0).f2) == 0) = false:=beq_eq_false_iff_ne.mpr c29;have c29b1 : (((rd_T30 l0 0).f2) != 0) = true:=bne_iff_ne.mpr c29;have H':=Aside0.mk H;clear H;have p222 : 0≤(0 : Int):=(by omega);have q222 : 0 < (l0.length : Int):=of_decide_eq_true (by first | (with_reducible assumption) | assumption)
               obtain ⟨ad222,e222,hx222_0,hx222_1,hx222_2,hx222_3,hx222_4⟩:=at_T30 HR0.out 0 p222 q222;cases e222;have qi222 : (0 < l0.length) = True:=eq_true (by omega)
               (try rw [show ((0 : Int)).toNat = 0 from rfl] at hx222_0)
               (try rw [show 0 * 5 = 0 from rfl] at hx222_0)
               (try rw [Addr.add_zero'] at hx222_0)
               (try rw [show ((0 : Int)).toNat = 0 from rfl] at hx222_1)
               (try rw [show 0 * 5 = 0 from rfl] at hx222_1)
               (try rw [Addr.add_zero'] at hx222_1)
               (try rw [show ((0 : Int)).toNat = 0 from rfl] at hx222_2)
               (try rw [show 0 * 5 = 0 from rfl] at hx222_2)
               (try rw [Addr.add_zero'] at hx222_2)
               (try rw [show ((0 : Int)).toNat = 0 from rfl] at hx222_3)
               (try rw [show 0 * 5 = 0 from rfl] at hx222_3)
               (try rw [Addr.add_zero'] at hx222_3)
               (try rw [show ((0 : Int)).toNat = 0 from rfl] at hx222_4)
               (try rw [show 0 * 5 = 0 from rfl] at hx222_4)
               (try rw [Addr.add_zero'] at hx222_4)
               replace p222:=eq_true p222;replace q222:=eq_true q222;go_wp2
               repeat (go_quiet (fail);try go_wp2)
               go_meet
               case rel => exact ⟨_,(true),(by first | rfl | (simp;done) | (simp [*];done)),H',⟨by have:=HJ1.out;have:=HK2.out;have:=HK3.out;first | omega | exact Nat.le_refl _⟩,by repeat (first | exact Drawn0.refl _ | apply Drawn0.step)⟩
              rw [if_pos c29] at H;have c29b0 : (((rd_T30 l0 0).f2) == 0) = true:=beq_iff_eq.mpr c29;have c29b1 : (((rd_T30 l0 0).f2) != 0) = false:=bne_eq_false_iff_eq.mpr c29;clear c29;have H':=Aside0.mk H;clear H;have p222 : 0≤(0 : Int):=(by omega);have q222 : 0 < (l0.length : Int):=of_decide_eq_true (by first | (with_reducible assumption) | assumption)
              obtain ⟨ad222,e222,hx222_0,hx222_1,hx222_2,hx222_3,hx222_4⟩:=at_T30 HR0.out 0 p222 q222;cases e222;have qi222 : (0 < l0.length) = True:=eq_true (by omega)
              (try rw [show ((0 : Int)).toNat = 0 from rfl] at hx222_0)
              (try rw [show 0 * 5 = 0 from rfl] at hx222_0)
              (try rw [Addr.add_zero'] at hx222_0)
              (try rw [show ((0 : Int)).toNat = 0 from rfl] at hx222_1)
              (try rw [show 0 * 5 = 0 from rfl] at hx222_1)
              (try rw [Addr.add_zero'] at hx222_1)
              (try rw [show ((0 : Int)).toNat = 0 from rfl] at hx222_2)
              (try rw [show 0 * 5 = 0 from rfl] at hx222_2)
              (try rw [Addr.add_zero'] at hx222_2)
              (try rw [show ((0 : Int)).toNat = 0 from rfl] at hx222_3)
              (try rw [show 0 * 5 = 0 from rfl] at hx222_3)
              (try rw [Addr.add_zero'] at hx222_3)
              (try rw [show ((0 : Int)).toNat = 0 from rfl] at hx222_4)
              (try rw [show 0 * 5 = 0 from rfl] at hx222_4)
              (try rw [Addr.add_zero'] at hx222_4)
              replace p222:=eq_true p222;replace q222:=eq_true q222;have p223 : 0≤(0 : Int):=(by omega);have q223 : 0 < (l0.length : Int):=of_decide_eq_true (by first | (with_reducible assumption) | assumption);obtain ⟨ad223,e223,hx223_0,hx223_1,hx223_2,hx223_3,hx223_4⟩:=at_T30 HR0.out 0 p223 q223;obtain rfl : ad222 = ad223:=(by injection e223)
              have qi223 : (0 < l0.length) = True:=eq_true (by omega)
              (try rw [show ((0 : Int)).toNat = 0 from rfl] at hx223_0)
              (try rw [show 0 * 5 = 0 from rfl] at hx223_0)
              (try rw [Addr.add_zero'] at hx223_0)
              (try rw [show ((0 : Int)).toNat = 0 from rfl] at hx223_1)
              (try rw [show 0 * 5 = 0 from rfl] at hx223_1)
              (try rw [Addr.add_zero'] at hx223_1)
              (try rw [show ((0 : Int)).toNat = 0 from rfl] at hx223_2)
              (try rw [show 0 * 5 = 0 from rfl] at hx223_2)
              (try rw [Addr.add_zero'] at hx223_2)
              (try rw [show ((0 : Int)).toNat = 0 from rfl] at hx223_3)
              (try rw [show 0 * 5 = 0 from rfl] at hx223_3)
              (try rw [Addr.add_zero'] at hx223_3)
              (try rw [show ((0 : Int)).toNat = 0 from rfl] at hx223_4)
              (try rw [show 0 * 5 = 0 from rfl] at hx223_4)
              (try rw [Addr.add_zero'] at hx223_4)
              replace p223:=eq_true p223;replace q223:=eq_true q223;go_wp2
              repeat (go_quiet (fail);try go_wp2)
              go_meet
              case rel => exact ⟨_,((((rd_T30 l0 0).f3) != 0)),(by first | rfl | (simp;done) | (simp [*];done)),H',⟨by have:=HJ1.out;have:=HK2.out;have:=HK3.out;first | omega | exact Nat.le_refl _⟩,by repeat (first | exact Drawn0.refl _ | apply Drawn0.step)⟩
             case rest =>
              clear HC27;obtain ⟨kq,x103_26,rfl,HA,HJ26,⟨mc26,rfl⟩⟩:=hcut
              cases kq with
               | zero => exact absurd HA.out (by simp [estoversref19_Check.j5])
               | succ kj26 =>
                have H:=HA.out;clear HA;simp only [estoversref19_Check.j5] at H;by_cases c30 : x103_26 = true
                rotate_left
                ·
                 replace c30:=Bool.eq_false_iff.mpr c30;subst c30
                 have H1 : (estoversref19_Check.l2 kj26 l0 0) = some r:=by rw [if_neg (show ¬ (false = true) by decide)] at H;exact H
                 clear H;have H:=H1;clear H1;have H':=Aside0.mk H;clear H;go_wp2
                 repeat (go_quiet (fail);try go_wp2)
                 go_loopg [5] kj26 (fun kq v5 w' => ∃ (x5_5 : Int),v5 = .int .i64 x5_5∧Aside0 (estoversref19_Check.l2 kq l0 x5_5 = some r)∧Aside0 (kq≤kj26)∧Drawn0 w w')
                 case atStart => exact ⟨(0),(by first | rfl | (simp;done) | (simp [*];done)),H',⟨Nat.le_refl _⟩,by repeat (first | exact Drawn0.refl _ | apply Drawn0.step)⟩
                 case round =>
                  clear H';obtain ⟨x5_5,rfl,HA,HK5,⟨m5,rfl⟩⟩:=hrel
                  cases gk with
                   | zero => exact absurd HA.out (by simp [estoversref19_Check.l2])
                   | succ k5 =>
                    have H:=HA.out;clear HA;simp only [estoversref19_Check.l2] at H;by_cases c31 : x5_5 < (l0.length : Int)
                    rotate_left
                    ·
                     rw [if_neg c31] at H;have c31b0 : decide (x5_5 < (l0.length : Int)) = false:=decide_eq_false c31;clear c31;have H':=Aside0.mk H;clear H;go_wp2
                     repeat (go_quiet (fail);try go_wp2)
                     go_loopg [6] k5 (fun kq v6 w' => ∃ (x6_6 : Int),v6 = .int .i64 x6_6∧Aside0 (estoversref19_Check.l3 kq l0 x6_6 = some r)∧Aside0 (kq≤k5)∧Drawn0 w w')
                     case atStart => exact ⟨(0),(by first | rfl | (simp;done) | (simp [*];done)),H',⟨Nat.le_refl _⟩,by repeat (first | exact Drawn0.refl _ | apply Drawn0.step)⟩
                     case round =>
                      clear H';obtain ⟨x6_6,rfl,HA,HK6,⟨m6,rfl⟩⟩:=hrel
                      cases gk with
                       | zero => exact absurd HA.out (by simp [estoversref19_Check.l3])
                       | succ k6 =>
                        have H:=HA.out;clear HA;simp only [estoversref19_Check.l3] at H;by_cases c34 : x6_6 < (l0.length : Int)
                        rotate_left
                        ·
                         rw [if_neg c34] at H;have c34b0 : decide (x6_6 < (l0.length : Int)) = false:=decide_eq_false c34;clear c34;obtain rfl:=Option.some.inj H;go_wp2
                         repeat (go_quiet (fail);try go_wp2)
                         go_ret;exact ⟨by first | rfl | (simp;done) | (simp [*];done),by repeat (first | exact Drawn0.refl _ | apply Drawn0.step)⟩
                        rw [if_pos c34] at H;have c34b0 : decide (x6_6 < (l0.length : Int)) = true:=decide_eq_true c34;clear c34;by_cases c35 : 0≤x6_6
                        rotate_left
                        · rw [if_neg c35] at H;exact absurd H (by simp)
                        rw [if_pos c35] at H;have c35b0 : decide (0≤x6_6) = true:=decide_eq_true c35;clear c35;replace H:=Option.bind_eq_some_iff.mp H;obtain ⟨t227,A360,H⟩:=H;replace H : (if ((rd_T30 l0 x6_6).f1) < t227 then (some 11) else (estoversref19_Check.l3 k6 l0 (wrap64 (x6_6 + 1)))) = some r:=H;have A36:=Aside0.mk A360;clear A360;by_cases c37 : ((rd_T30 l0 x6_6).f1) < t227
                        rotate_left
                        ·
                         rw [if_neg c37] at H;have c37b0 : decide (((rd_T30 l0 x6_6).f1) < t227) = false:=decide_eq_false c37;clear c37;have H':=Aside0.mk H;clear H;have p226 : 0≤(x6_6 : Int):=of_decide_eq_true (by first | (with_reducible assumption) | assumption);have q226 : x6_6 < (l0.length : Int):=of_decide_eq_true (by first | (with_reducible assumption) | assumption)
                         obtain ⟨ad226,e226,hx226_0,hx226_1,hx226_2,hx226_3,hx226_4⟩:=at_T30 HR0.out x6_6 p226 q226;cases e226;replace p226:=eq_true p226;replace q226:=eq_true q226
                         go_wp2_with (first | (go_at_call 47;(with_reducible refine (estoversref19_kids.calls k6 _ _ l0 x6_6 t227 _ ?side1 ?side2 A36.out).mono ?_);(case side1 => repeat (first | exact HR0.out | (with_reducible refine Kd.C_alloc ?_ _) | (with_reducible refine Kd.C_drewN ?_ _) | (with_reducible refine Kd.C_drew ?_)));(case side2 => exact HC0.out);rintro e w' ⟨rfl,⟨nd,rfl⟩⟩;(try first | exact ⟨rfl,_,World.drewN_drewN _ _ _⟩ | exact ⟨rfl,_,Eq.trans (World.drewN_drewN _ _ _) (congrArg (World.drewN _) (Nat.add_assoc _ _ _))⟩)))
                         repeat (go_quiet (first | (go_at_call 47;(with_reducible refine (estoversref19_kids.calls k6 _ _ l0 x6_6 t227 _ ?side1 ?side2 A36.out).mono ?_);(case side1 => repeat (first | exact HR0.out | (with_reducible refine Kd.C_alloc ?_ _) | (with_reducible refine Kd.C_drewN ?_ _) | (with_reducible refine Kd.C_drew ?_)));(case side2 => exact HC0.out);rintro e w' ⟨rfl,⟨nd,rfl⟩⟩;(try first | exact ⟨rfl,_,World.drewN_drewN _ _ _⟩ | exact ⟨rfl,_,Eq.trans (World.drewN_drewN _ _ _) (congrArg (World.drewN _) (Nat.add_assoc _ _ _))⟩)));try go_wp2_with (first | (go_at_call 47;(with_reducible refine (estoversref19_kids.calls k6 _ _ l0 x6_6 t227 _ ?side1 ?side2 A36.out).mono ?_);(case side1 => repeat (first | exact HR0.out | (with_reducible refine Kd.C_alloc ?_ _) | (with_reducible refine Kd.C_drewN ?_ _) | (with_reducible refine Kd.C_drew ?_)));(case side2 => exact HC0.out);rintro e w' ⟨rfl,⟨nd,rfl⟩⟩;(try first | exact ⟨rfl,_,World.drewN_drewN _ _ _⟩ | exact ⟨rfl,_,Eq.trans (World.drewN_drewN _ _ _) (congrArg (World.drewN _) (Nat.add_assoc _ _ _))⟩))))
                         go_roundg k6
                         case measure => have:=HJ1.out;have:=HK2.out;have:=HK3.out;have:=HJ26.out;have:=HK5.out;have:=HK6.out;omega
                         case rel => exact ⟨(wrap64 (x6_6 + 1)),(by first | rfl | (simp;done) | (simp [*];done)),H',⟨by have:=HJ1.out;have:=HK2.out;have:=HK3.out;have:=HJ26.out;have:=HK5.out;have:=HK6.out;omega⟩,by repeat (first | exact Drawn0.refl _ | apply Drawn0.step)⟩
                        rw [if_pos c37] at H;have c37b0 : decide (((rd_T30 l0 x6_6).f1) < t227) = true:=decide_eq_true c37;clear c37;obtain rfl:=Option.some.inj H;have p226 : 0≤(x6_6 : Int):=of_decide_eq_true (by first | (with_reducible assumption) | assumption);have q226 : x6_6 < (l0.length : Int):=of_decide_eq_true (by first | (with_reducible assumption) | assumption)
                        obtain ⟨ad226,e226,hx226_0,hx226_1,hx226_2,hx226_3,hx226_4⟩:=at_T30 HR0.out x6_6 p226 q226;cases e226;replace p226:=eq_true p226;replace q226:=eq_true q226
                        go_wp2_with (first | (go_at_call 47;(with_reducible refine (estoversref19_kids.calls k6 _ _ l0 x6_6 t227 _ ?side1 ?side2 A36.out).mono ?_);(case side1 => repeat (first | exact HR0.out | (with_reducible refine Kd.C_alloc ?_ _) | (with_reducible refine Kd.C_drewN ?_ _) | (with_reducible refine Kd.C_drew ?_)));(case side2 => exact HC0.out);rintro e w' ⟨rfl,⟨nd,rfl⟩⟩;(try first | exact ⟨rfl,_,World.drewN_drewN _ _ _⟩ | exact ⟨rfl,_,Eq.trans (World.drewN_drewN _ _ _) (congrArg (World.drewN _) (Nat.add_assoc _ _ _))⟩)))
                        repeat (go_quiet (first | (go_at_call 47;(with_reducible refine (estoversref19_kids.calls k6 _ _ l0 x6_6 t227 _ ?side1 ?side2 A36.out).mono ?_);(case side1 => repeat (first | exact HR0.out | (with_reducible refine Kd.C_alloc ?_ _) | (with_reducible refine Kd.C_drewN ?_ _) | (with_reducible refine Kd.C_drew ?_)));(case side2 => exact HC0.out);rintro e w' ⟨rfl,⟨nd,rfl⟩⟩;(try first | exact ⟨rfl,_,World.drewN_drewN _ _ _⟩ | exact ⟨rfl,_,Eq.trans (World.drewN_drewN _ _ _) (congrArg (World.drewN _) (Nat.add_assoc _ _ _))⟩)));try go_wp2_with (first | (go_at_call 47;(with_reducible refine (estoversref19_kids.calls k6 _ _ l0 x6_6 t227 _ ?side1 ?side2 A36.out).mono ?_);(case side1 => repeat (first | exact HR0.out | (with_reducible refine Kd.C_alloc ?_ _) | (with_reducible refine Kd.C_drewN ?_ _) | (with_reducible refine Kd.C_drew ?_)));(case side2 => exact HC0.out);rintro e w' ⟨rfl,⟨nd,rfl⟩⟩;(try first | exact ⟨rfl,_,World.drewN_drewN _ _ _⟩ | exact ⟨rfl,_,Eq.trans (World.drewN_drewN _ _ _) (congrArg (World.drewN _) (Nat.add_assoc _ _ _))⟩))))
                        go_ret;exact ⟨by first | rfl | (simp;done) | (simp [*];done),by repeat (first | exact Drawn0.refl _ | apply Drawn0.step)⟩
                    rw [if_pos c31] at H;have c31b0 : decide (x5_5 < (l0.length : Int)) = true:=decide_eq_true c31;clear c31;by_cases c32 : 0≤x5_5
                    rotate_left
                    · rw [if_neg c32] at H;exact absurd H (by simp)
                    rw [if_pos c32] at H;have c32b0 : decide (0≤x5_5) = true:=decide_eq_true c32;clear c32;by_cases c33 : ((rd_T30 l0 x5_5).f1) > ((rd_T30 l0 x5_5).f4)
                    rotate_left
                    ·
                     rw [if_neg c33] at H;have c33b0 : decide (((rd_T30 l0 x5_5).f4) < ((rd_T30 l0 x5_5).f1)) = false:=decide_eq_false c33;clear c33;have H':=Aside0.mk H;clear H;have p224 : 0≤(x5_5 : Int):=of_decide_eq_true (by first | (with_reducible assumption) | assumption);have q224 : x5_5 < (l0.length : Int):=of_decide_eq_true (by first | (with_reducible assumption) | assumption)
                     obtain ⟨ad224,e224,hx224_0,hx224_1,hx224_2,hx224_3,hx224_4⟩:=at_T30 HR0.out x5_5 p224 q224;cases e224;replace p224:=eq_true p224;replace q224:=eq_true q224;have p225 : 0≤(x5_5 : Int):=of_decide_eq_true (by first | (with_reducible assumption) | assumption);have q225 : x5_5 < (l0.length : Int):=of_decide_eq_true (by first | (with_reducible assumption) | assumption)
                     obtain ⟨ad225,e225,hx225_0,hx225_1,hx225_2,hx225_3,hx225_4⟩:=at_T30 HR0.out x5_5 p225 q225;obtain rfl : ad224 = ad225:=(by injection e225);replace p225:=eq_true p225;replace q225:=eq_true q225;go_wp2
                     repeat (go_quiet (fail);try go_wp2)
                     go_roundg k5
                     case measure => have:=HJ1.out;have:=HK2.out;have:=HK3.out;have:=HJ26.out;have:=HK5.out;omega
                     case rel => exact ⟨(wrap64 (x5_5 + 1)),(by first | rfl | (simp;done) | (simp [*];done)),H',⟨by have:=HJ1.out;have:=HK2.out;have:=HK3.out;have:=HJ26.out;have:=HK5.out;omega⟩,by repeat (first | exact Drawn0.refl _ | apply Drawn0.step)⟩
                    rw [if_pos c33] at H;have c33b0 : decide (((rd_T30 l0 x5_5).f4) < ((rd_T30 l0 x5_5).f1)) = true:=decide_eq_true c33;clear c33;obtain rfl:=Option.some.inj H;have p224 : 0≤(x5_5 : Int):=of_decide_eq_true (by first | (with_reducible assumption) | assumption);have q224 : x5_5 < (l0.length : Int):=of_decide_eq_true (by first | (with_reducible assumption) | assumption)
                    obtain ⟨ad224,e224,hx224_0,hx224_1,hx224_2,hx224_3,hx224_4⟩:=at_T30 HR0.out x5_5 p224 q224;cases e224;replace p224:=eq_true p224;replace q224:=eq_true q224;have p225 : 0≤(x5_5 : Int):=of_decide_eq_true (by first | (with_reducible assumption) | assumption);have q225 : x5_5 < (l0.length : Int):=of_decide_eq_true (by first | (with_reducible assumption) | assumption)
                    obtain ⟨ad225,e225,hx225_0,hx225_1,hx225_2,hx225_3,hx225_4⟩:=at_T30 HR0.out x5_5 p225 q225;obtain rfl : ad224 = ad225:=(by injection e225);replace p225:=eq_true p225;replace q225:=eq_true q225;go_wp2
                    repeat (go_quiet (fail);try go_wp2)
                    go_ret;exact ⟨by first | rfl | (simp;done) | (simp [*];done),by repeat (first | exact Drawn0.refl _ | apply Drawn0.step)⟩
                subst c30
                have H1 : (some 2) = some r:=by rw [if_pos rfl] at H;exact H
                clear H;have H:=H1;clear H1;obtain rfl:=Option.some.inj H;go_wp2
                repeat (go_quiet (fail);try go_wp2)
                go_ret;exact ⟨by first | rfl | (simp;done) | (simp [*];done),by repeat (first | exact Drawn0.refl _ | apply Drawn0.step)⟩
            rw [if_pos c16] at H;have c16b0 : decide (x4_3 < (l0.length : Int)) = true:=decide_eq_true c16;clear c16;have HC17:=Aside0.mk H;clear H
            go_upto_region 11 with (fail)
            repeat (go_quiet (fail);go_upto_region 11 with (fail))
            go_cut [91] (fun v91 wc => ∃ (kq : Nat) (x91_16 : Bool),v91 = .bool x91_16∧Aside0 (estoversref19_Check.j4 kq l0 x4_3 x91_16 = some r)∧Aside0 (kq≤k3)∧Drawn0 w wc)
            case first =>
             have H:=HC17.out;clear HC17;by_cases c18 : 0≤x4_3
             rotate_left
             · rw [if_neg c18] at H;exact absurd H (by simp)
             rw [if_pos c18] at H;have c18b0 : decide (0≤x4_3) = true:=decide_eq_true c18;clear c18
             (first | rw [c18b0] | (simp only [i64_w,i32_w];rw [c18b0]) | skip)
             replace H:=Option.bind_eq_some_iff.mp H;obtain ⟨t215,A190,H⟩:=H
             replace H : (if t215 = true then ((estoversref19_in.f ((rd_T30 l0 x4_3).f2)).bind fun t217 => (if t217 = true then ((estoversref19_in.f ((rd_T30 l0 x4_3).f3)).bind fun t219 => (if t219 = true then ((estoversref19_in.f ((rd_T30 l0 x4_3).f4)).bind fun t221 => (estoversref19_Check.j4 k3 l0 x4_3 (!t221))) else (estoversref19_Check.j4 k3 l0 x4_3 true))) else (estoversref19_Check.j4 k3 l0 x4_3 true))) else (estoversref19_Check.j4 k3 l0 x4_3 true)) = some r:=H
             have A19:=Aside0.mk A190;clear A190;by_cases c20 : t215 = true
             rotate_left
             ·
              replace c20:=Bool.eq_false_iff.mpr c20;subst c20
              have H1 : (estoversref19_Check.j4 k3 l0 x4_3 true) = some r:=by rw [if_neg (show ¬ (false = true) by decide)] at H;exact H
              clear H;have H:=H1;clear H1;have H':=Aside0.mk H;clear H;have p214 : 0≤(x4_3 : Int):=of_decide_eq_true (by first | (with_reducible assumption) | assumption);have q214 : x4_3 < (l0.length : Int):=of_decide_eq_true (by first | (with_reducible assumption) | assumption);obtain ⟨ad214,e214,hx214_0,hx214_1,hx214_2,hx214_3,hx214_4⟩:=at_T30 HR0.out x4_3 p214 q214;cases e214
              replace p214:=eq_true p214;replace q214:=eq_true q214
              go_wp2_with (first | (go_at_call 46;(with_reducible refine (estoversref19_in.calls ((rd_T30 l0 x4_3).f1) false _ A19.out).mono ?_);rintro e w' ⟨rfl,⟨nd,rfl⟩⟩;(try first | exact ⟨rfl,_,World.drewN_drewN _ _ _⟩ | exact ⟨rfl,_,Eq.trans (World.drewN_drewN _ _ _) (congrArg (World.drewN _) (Nat.add_assoc _ _ _))⟩)))
              repeat (go_quiet (first | (go_at_call 46;(with_reducible refine (estoversref19_in.calls ((rd_T30 l0 x4_3).f1) false _ A19.out).mono ?_);rintro e w' ⟨rfl,⟨nd,rfl⟩⟩;(try first | exact ⟨rfl,_,World.drewN_drewN _ _ _⟩ | exact ⟨rfl,_,Eq.trans (World.drewN_drewN _ _ _) (congrArg (World.drewN _) (Nat.add_assoc _ _ _))⟩)));try go_wp2_with (first | (go_at_call 46;(with_reducible refine (estoversref19_in.calls ((rd_T30 l0 x4_3).f1) false _ A19.out).mono ?_);rintro e w' ⟨rfl,⟨nd,rfl⟩⟩;(try first | exact ⟨rfl,_,World.drewN_drewN _ _ _⟩ | exact ⟨rfl,_,Eq.trans (World.drewN_drewN _ _ _) (congrArg (World.drewN _) (Nat.add_assoc _ _ _))⟩))))
              go_meet
              case rel => exact ⟨_,(true),(by first | rfl | (simp;done) | (simp [*];done)),H',⟨by have:=HJ1.out;have:=HK2.out;have:=HK3.out;first | omega | exact Nat.le_refl _⟩,by repeat (first | exact Drawn0.refl _ | apply Drawn0.step)⟩
             subst c20
             have H1 : ((estoversref19_in.f ((rd_T30 l0 x4_3).f2)).bind fun t217 => (if t217 = true then ((estoversref19_in.f ((rd_T30 l0 x4_3).f3)).bind fun t219 => (if t219 = true then ((estoversref19_in.f ((rd_T30 l0 x4_3).f4)).bind fun t221 => (estoversref19_Check.j4 k3 l0 x4_3 (!t221))) else (estoversref19_Check.j4 k3 l0 x4_3 true))) else (estoversref19_Check.j4 k3 l0 x4_3 true))) = some r:=by rw [if_pos rfl] at H;exact H
             clear H;have H:=H1;clear H1;replace H:=Option.bind_eq_some_iff.mp H;obtain ⟨t217,A210,H⟩:=H
             replace H : (if t217 = true then ((estoversref19_in.f ((rd_T30 l0 x4_3).f3)).bind fun t219 => (if t219 = true then ((estoversref19_in.f ((rd_T30 l0 x4_3).f4)).bind fun t221 => (estoversref19_Check.j4 k3 l0 x4_3 (!t221))) else (estoversref19_Check.j4 k3 l0 x4_3 true))) else (estoversref19_Check.j4 k3 l0 x4_3 true)) = some r:=H;have A21:=Aside0.mk A210;clear A210;by_cases c22 : t217 = true
             rotate_left
             ·
              replace c22:=Bool.eq_false_iff.mpr c22;subst c22
              have H1 : (estoversref19_Check.j4 k3 l0 x4_3 true) = some r:=by rw [if_neg (show ¬ (false = true) by decide)] at H;exact H
              clear H;have H:=H1;clear H1;have H':=Aside0.mk H;clear H;have p214 : 0≤(x4_3 : Int):=of_decide_eq_true (by first | (with_reducible assumption) | assumption);have q214 : x4_3 < (l0.length : Int):=of_decide_eq_true (by first | (with_reducible assumption) | assumption);obtain ⟨ad214,e214,hx214_0,hx214_1,hx214_2,hx214_3,hx214_4⟩:=at_T30 HR0.out x4_3 p214 q214;cases e214
              replace p214:=eq_true p214;replace q214:=eq_true q214
              go_wp2_with (first | (go_at_call 46;(with_reducible refine (estoversref19_in.calls ((rd_T30 l0 x4_3).f1) true _ A19.out).mono ?_);rintro e w' ⟨rfl,⟨nd,rfl⟩⟩;(try first | exact ⟨rfl,_,World.drewN_drewN _ _ _⟩ | exact ⟨rfl,_,Eq.trans (World.drewN_drewN _ _ _) (congrArg (World.drewN _) (Nat.add_assoc _ _ _))⟩);have p216 : 0≤(x4_3 : Int):=of_decide_eq_true (by first | (with_reducible assumption) | assumption);have q216 : x4_3 < (l0.length : Int):=of_decide_eq_true (by first | (with_reducible assumption) | assumption);obtain ⟨ad216,e216,hx216_0,hx216_1,hx216_2,hx216_3,hx216_4⟩:=at_T30 HR0.out x4_3 p216 q216;obtain rfl : ad214 = ad216:=(by injection e216);replace p216:=eq_true p216;replace q216:=eq_true q216) | (go_at_call 46;(with_reducible refine (estoversref19_in.calls ((rd_T30 l0 x4_3).f2) false _ A21.out).mono ?_);rintro e w' ⟨rfl,⟨nd,rfl⟩⟩;(try first | exact ⟨rfl,_,World.drewN_drewN _ _ _⟩ | exact ⟨rfl,_,Eq.trans (World.drewN_drewN _ _ _) (congrArg (World.drewN _) (Nat.add_assoc _ _ _))⟩)))
              repeat (go_quiet (first | (go_at_call 46;(with_reducible refine (estoversref19_in.calls ((rd_T30 l0 x4_3).f1) true _ A19.out).mono ?_);rintro e w' ⟨rfl,⟨nd,rfl⟩⟩;(try first | exact ⟨rfl,_,World.drewN_drewN _ _ _⟩ | exact ⟨rfl,_,Eq.trans (World.drewN_drewN _ _ _) (congrArg (World.drewN _) (Nat.add_assoc _ _ _))⟩);have p216 : 0≤(x4_3 : Int):=of_decide_eq_true (by first | (with_reducible assumption) | assumption);have q216 : x4_3 < (l0.length : Int):=of_decide_eq_true (by first | (with_reducible assumption) | assumption);obtain ⟨ad216,e216,hx216_0,hx216_1,hx216_2,hx216_3,hx216_4⟩:=at_T30 HR0.out x4_3 p216 q216;obtain rfl : ad214 = ad216:=(by injection e216);replace p216:=eq_true p216;replace q216:=eq_true q216) | (go_at_call 46;(with_reducible refine (estoversref19_in.calls ((rd_T30 l0 x4_3).f2) false _ A21.out).mono ?_);rintro e w' ⟨rfl,⟨nd,rfl⟩⟩;(try first | exact ⟨rfl,_,World.drewN_drewN _ _ _⟩ | exact ⟨rfl,_,Eq.trans (World.drewN_drewN _ _ _) (congrArg (World.drewN _) (Nat.add_assoc _ _ _))⟩)));try go_wp2_with (first | (go_at_call 46;(with_reducible refine (estoversref19_in.calls ((rd_T30 l0 x4_3).f1) true _ A19.out).mono ?_);rintro e w' ⟨rfl,⟨nd,rfl⟩⟩;(try first | exact ⟨rfl,_,World.drewN_drewN _ _ _⟩ | exact ⟨rfl,_,Eq.trans (World.drewN_drewN _ _ _) (congrArg (World.drewN _) (Nat.add_assoc _ _ _))⟩);have p216 : 0≤(x4_3 : Int):=of_decide_eq_true (by first | (with_reducible assumption) | assumption);have q216 : x4_3 < (l0.length : Int):=of_decide_eq_true (by first | (with_reducible assumption) | assumption);obtain ⟨ad216,e216,hx216_0,hx216_1,hx216_2,hx216_3,hx216_4⟩:=at_T30 HR0.out x4_3 p216 q216;obtain rfl : ad214 = ad216:=(by injection e216);replace p216:=eq_true p216;replace q216:=eq_true q216) | (go_at_call 46;(with_reducible refine (estoversref19_in.calls ((rd_T30 l0 x4_3).f2) false _ A21.out).mono ?_);rintro e w' ⟨rfl,⟨nd,rfl⟩⟩;(try first | exact ⟨rfl,_,World.drewN_drewN _ _ _⟩ | exact ⟨rfl,_,Eq.trans (World.drewN_drewN _ _ _) (congrArg (World.drewN _) (Nat.add_assoc _ _ _))⟩))))
              go_meet
              case rel => exact ⟨_,(true),(by first | rfl | (simp;done) | (simp [*];done)),H',⟨by have:=HJ1.out;have:=HK2.out;have:=HK3.out;first | omega | exact Nat.le_refl _⟩,by repeat (first | exact Drawn0.refl _ | apply Drawn0.step)⟩
             subst c22
             have H1 : ((estoversref19_in.f ((rd_T30 l0 x4_3).f3)).bind fun t219 => (if t219 = true then ((estoversref19_in.f ((rd_T30 l0 x4_3).f4)).bind fun t221 => (estoversref19_Check.j4 k3 l0 x4_3 (!t221))) else (estoversref19_Check.j4 k3 l0 x4_3 true))) = some r:=by rw [if_pos rfl] at H;exact H
             clear H;have H:=H1;clear H1;replace H:=Option.bind_eq_some_iff.mp H;obtain ⟨t219,A230,H⟩:=H;replace H : (if t219 = true then ((estoversref19_in.f ((rd_T30 l0 x4_3).f4)).bind fun t221 => (estoversref19_Check.j4 k3 l0 x4_3 (!t221))) else (estoversref19_Check.j4 k3 l0 x4_3 true)) = some r:=H;have A23:=Aside0.mk A230;clear A230;by_cases c24 : t219 = true
             rotate_left
             ·
              replace c24:=Bool.eq_false_iff.mpr c24;subst c24
              have H1 : (estoversref19_Check.j4 k3 l0 x4_3 true) = some r:=by rw [if_neg (show ¬ (false = true) by decide)] at H;exact H
              clear H;have H:=H1;clear H1;have H':=Aside0.mk H;clear H;have p214 : 0≤(x4_3 : Int):=of_decide_eq_true (by first | (with_reducible assumption) | assumption);have q214 : x4_3 < (l0.length : Int):=of_decide_eq_true (by first | (with_reducible assumption) | assumption);obtain ⟨ad214,e214,hx214_0,hx214_1,hx214_2,hx214_3,hx214_4⟩:=at_T30 HR0.out x4_3 p214 q214;cases e214
              replace p214:=eq_true p214;replace q214:=eq_true q214
              go_wp2_with (first | (go_at_call 46;(with_reducible refine (estoversref19_in.calls ((rd_T30 l0 x4_3).f1) true _ A19.out).mono ?_);rintro e w' ⟨rfl,⟨nd,rfl⟩⟩;(try first | exact ⟨rfl,_,World.drewN_drewN _ _ _⟩ | exact ⟨rfl,_,Eq.trans (World.drewN_drewN _ _ _) (congrArg (World.drewN _) (Nat.add_assoc _ _ _))⟩);have p216 : 0≤(x4_3 : Int):=of_decide_eq_true (by first | (with_reducible assumption) | assumption);have q216 : x4_3 < (l0.length : Int):=of_decide_eq_true (by first | (with_reducible assumption) | assumption);obtain ⟨ad216,e216,hx216_0,hx216_1,hx216_2,hx216_3,hx216_4⟩:=at_T30 HR0.out x4_3 p216 q216;obtain rfl : ad214 = ad216:=(by injection e216);replace p216:=eq_true p216;replace q216:=eq_true q216) | (go_at_call 46;(with_reducible refine (estoversref19_in.calls ((rd_T30 l0 x4_3).f2) true _ A21.out).mono ?_);rintro e w' ⟨rfl,⟨nd,rfl⟩⟩;(try first | exact ⟨rfl,_,World.drewN_drewN _ _ _⟩ | exact ⟨rfl,_,Eq.trans (World.drewN_drewN _ _ _) (congrArg (World.drewN _) (Nat.add_assoc _ _ _))⟩);have p218 : 0≤(x4_3 : Int):=of_decide_eq_true (by first | (with_reducible assumption) | assumption);have q218 : x4_3 < (l0.length : Int):=of_decide_eq_true (by first | (with_reducible assumption) | assumption);obtain ⟨ad218,e218,hx218_0,hx218_1,hx218_2,hx218_3,hx218_4⟩:=at_T30 HR0.out x4_3 p218 q218;obtain rfl : ad214 = ad218:=(by injection e218);replace p218:=eq_true p218;replace q218:=eq_true q218) | (go_at_call 46;(with_reducible refine (estoversref19_in.calls ((rd_T30 l0 x4_3).f3) false _ A23.out).mono ?_);rintro e w' ⟨rfl,⟨nd,rfl⟩⟩;(try first | exact ⟨rfl,_,World.drewN_drewN _ _ _⟩ | exact ⟨rfl,_,Eq.trans (World.drewN_drewN _ _ _) (congrArg (World.drewN _) (Nat.add_assoc _ _ _))⟩)))
              repeat (go_quiet (first | (go_at_call 46;(with_reducible refine (estoversref19_in.calls ((rd_T30 l0 x4_3).f1) true _ A19.out).mono ?_);rintro e w' ⟨rfl,⟨nd,rfl⟩⟩;(try first | exact ⟨rfl,_,World.drewN_drewN _ _ _⟩ | exact ⟨rfl,_,Eq.trans (World.drewN_drewN _ _ _) (congrArg (World.drewN _) (Nat.add_assoc _ _ _))⟩);have p216 : 0≤(x4_3 : Int):=of_decide_eq_true (by first | (with_reducible assumption) | assumption);have q216 : x4_3 < (l0.length : Int):=of_decide_eq_true (by first | (with_reducible assumption) | assumption);obtain ⟨ad216,e216,hx216_0,hx216_1,hx216_2,hx216_3,hx216_4⟩:=at_T30 HR0.out x4_3 p216 q216;obtain rfl : ad214 = ad216:=(by injection e216);replace p216:=eq_true p216;replace q216:=eq_true q216) | (go_at_call 46;(with_reducible refine (estoversref19_in.calls ((rd_T30 l0 x4_3).f2) true _ A21.out).mono ?_);rintro e w' ⟨rfl,⟨nd,rfl⟩⟩;(try first | exact ⟨rfl,_,World.drewN_drewN _ _ _⟩ | exact ⟨rfl,_,Eq.trans (World.drewN_drewN _ _ _) (congrArg (World.drewN _) (Nat.add_assoc _ _ _))⟩);have p218 : 0≤(x4_3 : Int):=of_decide_eq_true (by first | (with_reducible assumption) | assumption);have q218 : x4_3 < (l0.length : Int):=of_decide_eq_true (by first | (with_reducible assumption) | assumption);obtain ⟨ad218,e218,hx218_0,hx218_1,hx218_2,hx218_3,hx218_4⟩:=at_T30 HR0.out x4_3 p218 q218;obtain rfl : ad214 = ad218:=(by injection e218);replace p218:=eq_true p218;replace q218:=eq_true q218) | (go_at_call 46;(with_reducible refine (estoversref19_in.calls ((rd_T30 l0 x4_3).f3) false _ A23.out).mono ?_);rintro e w' ⟨rfl,⟨nd,rfl⟩⟩;(try first | exact ⟨rfl,_,World.drewN_drewN _ _ _⟩ | exact ⟨rfl,_,Eq.trans (World.drewN_drewN _ _ _) (congrArg (World.drewN _) (Nat.add_assoc _ _ _))⟩)));try go_wp2_with (first | (go_at_call 46;(with_reducible refine (estoversref19_in.calls ((rd_T30 l0 x4_3).f1) true _ A19.out).mono ?_);rintro e w' ⟨rfl,⟨nd,rfl⟩⟩;(try first | exact ⟨rfl,_,World.drewN_drewN _ _ _⟩ | exact ⟨rfl,_,Eq.trans (World.drewN_drewN _ _ _) (congrArg (World.drewN _) (Nat.add_assoc _ _ _))⟩);have p216 : 0≤(x4_3 : Int):=of_decide_eq_true (by first | (with_reducible assumption) | assumption);have q216 : x4_3 < (l0.length : Int):=of_decide_eq_true (by first | (with_reducible assumption) | assumption);obtain ⟨ad216,e216,hx216_0,hx216_1,hx216_2,hx216_3,hx216_4⟩:=at_T30 HR0.out x4_3 p216 q216;obtain rfl : ad214 = ad216:=(by injection e216);replace p216:=eq_true p216;replace q216:=eq_true q216) | (go_at_call 46;(with_reducible refine (estoversref19_in.calls ((rd_T30 l0 x4_3).f2) true _ A21.out).mono ?_);rintro e w' ⟨rfl,⟨nd,rfl⟩⟩;(try first | exact ⟨rfl,_,World.drewN_drewN _ _ _⟩ | exact ⟨rfl,_,Eq.trans (World.drewN_drewN _ _ _) (congrArg (World.drewN _) (Nat.add_assoc _ _ _))⟩);have p218 : 0≤(x4_3 : Int):=of_decide_eq_true (by first | (with_reducible assumption) | assumption);have q218 : x4_3 < (l0.length : Int):=of_decide_eq_true (by first | (with_reducible assumption) | assumption);obtain ⟨ad218,e218,hx218_0,hx218_1,hx218_2,hx218_3,hx218_4⟩:=at_T30 HR0.out x4_3 p218 q218;obtain rfl : ad214 = ad218:=(by injection e218);replace p218:=eq_true p218;replace q218:=eq_true q218) | (go_at_call 46;(with_reducible refine (estoversref19_in.calls ((rd_T30 l0 x4_3).f3) false _ A23.out).mono ?_);rintro e w' ⟨rfl,⟨nd,rfl⟩⟩;(try first | exact ⟨rfl,_,World.drewN_drewN _ _ _⟩ | exact ⟨rfl,_,Eq.trans (World.drewN_drewN _ _ _) (congrArg (World.drewN _) (Nat.add_assoc _ _ _))⟩))))
              go_meet
              case rel => exact ⟨_,(true),(by first | rfl | (simp;done) | (simp [*];done)),H',⟨by have:=HJ1.out;have:=HK2.out;have:=HK3.out;first | omega | exact Nat.le_refl _⟩,by repeat (first | exact Drawn0.refl _ | apply Drawn0.step)⟩
             subst c24
             have H1 : ((estoversref19_in.f ((rd_T30 l0 x4_3).f4)).bind fun t221 => (estoversref19_Check.j4 k3 l0 x4_3 (!t221))) = some r:=by rw [if_pos rfl] at H;exact H
             clear H;have H:=H1;clear H1;replace H:=Option.bind_eq_some_iff.mp H;obtain ⟨t221,A250,H⟩:=H;replace H : (estoversref19_Check.j4 k3 l0 x4_3 (!t221)) = some r:=H;have A25:=Aside0.mk A250;clear A250;have H':=Aside0.mk H;clear H;have p214 : 0≤(x4_3 : Int):=of_decide_eq_true (by first | (with_reducible assumption) | assumption)
             have q214 : x4_3 < (l0.length : Int):=of_decide_eq_true (by first | (with_reducible assumption) | assumption);obtain ⟨ad214,e214,hx214_0,hx214_1,hx214_2,hx214_3,hx214_4⟩:=at_T30 HR0.out x4_3 p214 q214;cases e214;replace p214:=eq_true p214;replace q214:=eq_true q214
             go_wp2_with (first | (go_at_call 46;(with_reducible refine (estoversref19_in.calls ((rd_T30 l0 x4_3).f1) true _ A19.out).mono ?_);rintro e w' ⟨rfl,⟨nd,rfl⟩⟩;(try first | exact ⟨rfl,_,World.drewN_drewN _ _ _⟩ | exact ⟨rfl,_,Eq.trans (World.drewN_drewN _ _ _) (congrArg (World.drewN _) (Nat.add_assoc _ _ _))⟩);have p216 : 0≤(x4_3 : Int):=of_decide_eq_true (by first | (with_reducible assumption) | assumption);have q216 : x4_3 < (l0.length : Int):=of_decide_eq_true (by first | (with_reducible assumption) | assumption);obtain ⟨ad216,e216,hx216_0,hx216_1,hx216_2,hx216_3,hx216_4⟩:=at_T30 HR0.out x4_3 p216 q216;obtain rfl : ad214 = ad216:=(by injection e216);replace p216:=eq_true p216;replace q216:=eq_true q216) | (go_at_call 46;(with_reducible refine (estoversref19_in.calls ((rd_T30 l0 x4_3).f2) true _ A21.out).mono ?_);rintro e w' ⟨rfl,⟨nd,rfl⟩⟩;(try first | exact ⟨rfl,_,World.drewN_drewN _ _ _⟩ | exact ⟨rfl,_,Eq.trans (World.drewN_drewN _ _ _) (congrArg (World.drewN _) (Nat.add_assoc _ _ _))⟩);have p218 : 0≤(x4_3 : Int):=of_decide_eq_true (by first | (with_reducible assumption) | assumption);have q218 : x4_3 < (l0.length : Int):=of_decide_eq_true (by first | (with_reducible assumption) | assumption);obtain ⟨ad218,e218,hx218_0,hx218_1,hx218_2,hx218_3,hx218_4⟩:=at_T30 HR0.out x4_3 p218 q218;obtain rfl : ad214 = ad218:=(by injection e218);replace p218:=eq_true p218;replace q218:=eq_true q218) | (go_at_call 46;(with_reducible refine (estoversref19_in.calls ((rd_T30 l0 x4_3).f3) true _ A23.out).mono ?_);rintro e w' ⟨rfl,⟨nd,rfl⟩⟩;(try first | exact ⟨rfl,_,World.drewN_drewN _ _ _⟩ | exact ⟨rfl,_,Eq.trans (World.drewN_drewN _ _ _) (congrArg (World.drewN _) (Nat.add_assoc _ _ _))⟩);have p220 : 0≤(x4_3 : Int):=of_decide_eq_true (by first | (with_reducible assumption) | assumption);have q220 : x4_3 < (l0.length : Int):=of_decide_eq_true (by first | (with_reducible assumption) | assumption);obtain ⟨ad220,e220,hx220_0,hx220_1,hx220_2,hx220_3,hx220_4⟩:=at_T30 HR0.out x4_3 p220 q220;obtain rfl : ad214 = ad220:=(by injection e220);replace p220:=eq_true p220;replace q220:=eq_true q220) | (go_at_call 46;(with_reducible refine (estoversref19_in.calls ((rd_T30 l0 x4_3).f4) t221 _ A25.out).mono ?_);rintro e w' ⟨rfl,⟨nd,rfl⟩⟩;(try first | exact ⟨rfl,_,World.drewN_drewN _ _ _⟩ | exact ⟨rfl,_,Eq.trans (World.drewN_drewN _ _ _) (congrArg (World.drewN _) (Nat.add_assoc _ _ _))⟩)))
             repeat (go_quiet (first | (go_at_call 46;(with_reducible refine (estoversref19_in.calls ((rd_T30 l0 x4_3).f1) true _ A19.out).mono ?_);rintro e w' ⟨rfl,⟨nd,rfl⟩⟩;(try first | exact ⟨rfl,_,World.drewN_drewN _ _ _⟩ | exact ⟨rfl,_,Eq.trans (World.drewN_drewN _ _ _) (congrArg (World.drewN _) (Nat.add_assoc _ _ _))⟩);have p216 : 0≤(x4_3 : Int):=of_decide_eq_true (by first | (with_reducible assumption) | assumption);have q216 : x4_3 < (l0.length : Int):=of_decide_eq_true (by first | (with_reducible assumption) | assumption);obtain ⟨ad216,e216,hx216_0,hx216_1,hx216_2,hx216_3,hx216_4⟩:=at_T30 HR0.out x4_3 p216 q216;obtain rfl : ad214 = ad216:=(by injection e216);replace p216:=eq_true p216;replace q216:=eq_true q216) | (go_at_call 46;(with_reducible refine (estoversref19_in.calls ((rd_T30 l0 x4_3).f2) true _ A21.out).mono ?_);rintro e w' ⟨rfl,⟨nd,rfl⟩⟩;(try first | exact ⟨rfl,_,World.drewN_drewN _ _ _⟩ | exact ⟨rfl,_,Eq.trans (World.drewN_drewN _ _ _) (congrArg (World.drewN _) (Nat.add_assoc _ _ _))⟩);have p218 : 0≤(x4_3 : Int):=of_decide_eq_true (by first | (with_reducible assumption) | assumption);have q218 : x4_3 < (l0.length : Int):=of_decide_eq_true (by first | (with_reducible assumption) | assumption);obtain ⟨ad218,e218,hx218_0,hx218_1,hx218_2,hx218_3,hx218_4⟩:=at_T30 HR0.out x4_3 p218 q218;obtain rfl : ad214 = ad218:=(by injection e218);replace p218:=eq_true p218;replace q218:=eq_true q218) | (go_at_call 46;(with_reducible refine (estoversref19_in.calls ((rd_T30 l0 x4_3).f3) true _ A23.out).mono ?_);rintro e w' ⟨rfl,⟨nd,rfl⟩⟩;(try first | exact ⟨rfl,_,World.drewN_drewN _ _ _⟩ | exact ⟨rfl,_,Eq.trans (World.drewN_drewN _ _ _) (congrArg (World.drewN _) (Nat.add_assoc _ _ _))⟩);have p220 : 0≤(x4_3 : Int):=of_decide_eq_true (by first | (with_reducible assumption) | assumption);have q220 : x4_3 < (l0.length : Int):=of_decide_eq_true (by first | (with_reducible assumption) | assumption);obtain ⟨ad220,e220,hx220_0,hx220_1,hx220_2,hx220_3,hx220_4⟩:=at_T30 HR0.out x4_3 p220 q220;obtain rfl : ad214 = ad220:=(by injection e220);replace p220:=eq_true p220;replace q220:=eq_true q220) | (go_at_call 46;(with_reducible refine (estoversref19_in.calls ((rd_T30 l0 x4_3).f4) t221 _ A25.out).mono ?_);rintro e w' ⟨rfl,⟨nd,rfl⟩⟩;(try first | exact ⟨rfl,_,World.drewN_drewN _ _ _⟩ | exact ⟨rfl,_,Eq.trans (World.drewN_drewN _ _ _) (congrArg (World.drewN _) (Nat.add_assoc _ _ _))⟩)));try go_wp2_with (first | (go_at_call 46;(with_reducible refine (estoversref19_in.calls ((rd_T30 l0 x4_3).f1) true _ A19.out).mono ?_);rintro e w' ⟨rfl,⟨nd,rfl⟩⟩;(try first | exact ⟨rfl,_,World.drewN_drewN _ _ _⟩ | exact ⟨rfl,_,Eq.trans (World.drewN_drewN _ _ _) (congrArg (World.drewN _) (Nat.add_assoc _ _ _))⟩);have p216 : 0≤(x4_3 : Int):=of_decide_eq_true (by first | (with_reducible assumption) | assumption);have q216 : x4_3 < (l0.length : Int):=of_decide_eq_true (by first | (with_reducible assumption) | assumption);obtain ⟨ad216,e216,hx216_0,hx216_1,hx216_2,hx216_3,hx216_4⟩:=at_T30 HR0.out x4_3 p216 q216;obtain rfl : ad214 = ad216:=(by injection e216);replace p216:=eq_true p216;replace q216:=eq_true q216) | (go_at_call 46;(with_reducible refine (estoversref19_in.calls ((rd_T30 l0 x4_3).f2) true _ A21.out).mono ?_);rintro e w' ⟨rfl,⟨nd,rfl⟩⟩;(try first | exact ⟨rfl,_,World.drewN_drewN _ _ _⟩ | exact ⟨rfl,_,Eq.trans (World.drewN_drewN _ _ _) (congrArg (World.drewN _) (Nat.add_assoc _ _ _))⟩);have p218 : 0≤(x4_3 : Int):=of_decide_eq_true (by first | (with_reducible assumption) | assumption);have q218 : x4_3 < (l0.length : Int):=of_decide_eq_true (by first | (with_reducible assumption) | assumption);obtain ⟨ad218,e218,hx218_0,hx218_1,hx218_2,hx218_3,hx218_4⟩:=at_T30 HR0.out x4_3 p218 q218;obtain rfl : ad214 = ad218:=(by injection e218);replace p218:=eq_true p218;replace q218:=eq_true q218) | (go_at_call 46;(with_reducible refine (estoversref19_in.calls ((rd_T30 l0 x4_3).f3) true _ A23.out).mono ?_);rintro e w' ⟨rfl,⟨nd,rfl⟩⟩;(try first | exact ⟨rfl,_,World.drewN_drewN _ _ _⟩ | exact ⟨rfl,_,Eq.trans (World.drewN_drewN _ _ _) (congrArg (World.drewN _) (Nat.add_assoc _ _ _))⟩);have p220 : 0≤(x4_3 : Int):=of_decide_eq_true (by first | (with_reducible assumption) | assumption);have q220 : x4_3 < (l0.length : Int):=of_decide_eq_true (by first | (with_reducible assumption) | assumption);obtain ⟨ad220,e220,hx220_0,hx220_1,hx220_2,hx220_3,hx220_4⟩:=at_T30 HR0.out x4_3 p220 q220;obtain rfl : ad214 = ad220:=(by injection e220);replace p220:=eq_true p220;replace q220:=eq_true q220) | (go_at_call 46;(with_reducible refine (estoversref19_in.calls ((rd_T30 l0 x4_3).f4) t221 _ A25.out).mono ?_);rintro e w' ⟨rfl,⟨nd,rfl⟩⟩;(try first | exact ⟨rfl,_,World.drewN_drewN _ _ _⟩ | exact ⟨rfl,_,Eq.trans (World.drewN_drewN _ _ _) (congrArg (World.drewN _) (Nat.add_assoc _ _ _))⟩))))
             go_meet
             case rel => exact ⟨_,(!t221),(by first | rfl | (simp;done) | (simp [*];done)),H',⟨by have:=HJ1.out;have:=HK2.out;have:=HK3.out;first | omega | exact Nat.le_refl _⟩,by repeat (first | exact Drawn0.refl _ | apply Drawn0.step)⟩
            case rest =>
             clear HC17;obtain ⟨kq,x91_16,rfl,HA,HJ16,⟨mc16,rfl⟩⟩:=hcut
             cases kq with
              | zero => exact absurd HA.out (by simp [estoversref19_Check.j4])
              | succ kj16 =>
               have H:=HA.out;clear HA;simp only [estoversref19_Check.j4] at H;by_cases c26 : x91_16 = true
               rotate_left
               ·
                replace c26:=Bool.eq_false_iff.mpr c26;subst c26
                have H1 : (estoversref19_Check.l1 kj16 l0 (wrap64 (x4_3 + 1))) = some r:=by rw [if_neg (show ¬ (false = true) by decide)] at H;exact H
                clear H;have H:=H1;clear H1;have H':=Aside0.mk H;clear H;go_wp2
                repeat (go_quiet (fail);try go_wp2)
                go_roundg kj16
                case measure => have:=HJ1.out;have:=HK2.out;have:=HK3.out;have:=HJ16.out;omega
                case rel => exact ⟨(wrap64 (x4_3 + 1)),(by first | rfl | (simp;done) | (simp [*];done)),H',⟨by have:=HJ1.out;have:=HK2.out;have:=HK3.out;have:=HJ16.out;omega⟩,by repeat (first | exact Drawn0.refl _ | apply Drawn0.step)⟩
               subst c26
               have H1 : (some 2) = some r:=by rw [if_pos rfl] at H;exact H
               clear H;have H:=H1;clear H1;obtain rfl:=Option.some.inj H;go_wp2
               repeat (go_quiet (fail);try go_wp2)
               go_ret;exact ⟨by first | rfl | (simp;done) | (simp [*];done),by repeat (first | exact Drawn0.refl _ | apply Drawn0.step)⟩
        rw [if_pos c5] at H;have c5b0 : decide (x3_2 < (l0.length : Int)) = true:=decide_eq_true c5;clear c5;have HC6:=Aside0.mk H;clear H
        go_upto_region 6 with (fail)
        repeat (go_quiet (fail);go_upto_region 6 with (fail))
        go_cut [51] (fun v51 wc => ∃ (kq : Nat) (x51_5 : Bool),v51 = .bool x51_5∧Aside0 (estoversref19_Check.j2 kq l0 x3_2 x51_5 = some r)∧Aside0 (kq≤k2)∧Drawn0 w wc)
        case first =>
         have H:=HC6.out;clear HC6;by_cases c7 : x3_2 = 0
         rotate_left
         ·
          rw [if_neg c7] at H;have c7b0 : (x3_2 == 0) = false:=beq_eq_false_iff_ne.mpr c7;have c7b1 : (x3_2 != 0) = true:=bne_iff_ne.mpr c7
          (first | rw [c7b0] | (simp only [i64_w,i32_w];rw [c7b0]) | skip)
          by_cases c12 : x3_2 > 0
          rotate_left
          ·
           rw [if_neg c12] at H;have c12b0 : decide (0 < x3_2) = false:=decide_eq_false c12;clear c12;have H':=Aside0.mk H;clear H;go_wp2
           repeat (go_quiet (fail);try go_wp2)
           go_meet
           case rel => exact ⟨_,(false),(by first | rfl | (simp;done) | (simp [*];done)),H',⟨by have:=HJ1.out;have:=HK2.out;first | omega | exact Nat.le_refl _⟩,by repeat (first | exact Drawn0.refl _ | apply Drawn0.step)⟩
          rw [if_pos c12] at H;have c12b0 : decide (0 < x3_2) = true:=decide_eq_true c12;clear c12;by_cases c13 : 0≤x3_2
          rotate_left
          · rw [if_neg c13] at H;exact absurd H (by simp)
          rw [if_pos c13] at H;have c13b0 : decide (0≤x3_2) = true:=decide_eq_true c13;clear c13;by_cases c14 : ((rd_T30 l0 x3_2).f0) < 0
          rotate_left
          ·
           rw [if_neg c14] at H;have c14b0 : decide (((rd_T30 l0 x3_2).f0) < 0) = false:=decide_eq_false c14;clear c14;have H':=Aside0.mk H;clear H;have p212 : 0≤(x3_2 : Int):=of_decide_eq_true (by first | (with_reducible assumption) | assumption);have q212 : x3_2 < (l0.length : Int):=of_decide_eq_true (by first | (with_reducible assumption) | assumption)
           obtain ⟨ad212,e212,hx212_0,hx212_1,hx212_2,hx212_3,hx212_4⟩:=at_T30 HR0.out x3_2 p212 q212;cases e212;replace p212:=eq_true p212;replace q212:=eq_true q212;have p213 : 0≤(x3_2 : Int):=of_decide_eq_true (by first | (with_reducible assumption) | assumption);have q213 : x3_2 < (l0.length : Int):=of_decide_eq_true (by first | (with_reducible assumption) | assumption)
           obtain ⟨ad213,e213,hx213_0,hx213_1,hx213_2,hx213_3,hx213_4⟩:=at_T30 HR0.out x3_2 p213 q213;obtain rfl : ad212 = ad213:=(by injection e213);replace p213:=eq_true p213;replace q213:=eq_true q213;go_wp2
           repeat (go_quiet (fail);try go_wp2)
           go_meet
           case rel => exact ⟨_,(decide (((rd_T30 l0 x3_2).f0)≥x3_2)),(by first | rfl | (simp;done) | (simp [*];done)),H',⟨by have:=HJ1.out;have:=HK2.out;first | omega | exact Nat.le_refl _⟩,by repeat (first | exact Drawn0.refl _ | apply Drawn0.step)⟩
          rw [if_pos c14] at H;have c14b0 : decide (((rd_T30 l0 x3_2).f0) < 0) = true:=decide_eq_true c14;clear c14;have H':=Aside0.mk H;clear H;have p212 : 0≤(x3_2 : Int):=of_decide_eq_true (by first | (with_reducible assumption) | assumption);have q212 : x3_2 < (l0.length : Int):=of_decide_eq_true (by first | (with_reducible assumption) | assumption)
          obtain ⟨ad212,e212,hx212_0,hx212_1,hx212_2,hx212_3,hx212_4⟩:=at_T30 HR0.out x3_2 p212 q212;cases e212;replace p212:=eq_true p212;replace q212:=eq_true q212;go_wp2
          repeat (go_quiet (fail);try go_wp2)
          go_meet
          case rel => exact ⟨_,(true),(by first | rfl | (simp;done) | (simp [*];done)),H',⟨by have:=HJ1.out;have:=HK2.out;first | omega | exact Nat.le_refl _⟩,by repeat (first | exact Drawn0.refl _ | apply Drawn0.step)⟩
         rw [if_pos c7] at H;have c7b0 : (x3_2 == 0) = true:=beq_iff_eq.mpr c7;have c7b1 : (x3_2 != 0) = false:=bne_eq_false_iff_eq.mpr c7;clear c7
         (first | rw [c7b0] | (simp only [i64_w,i32_w];rw [c7b0]) | skip)
         by_cases c8 : 0≤x3_2
         rotate_left
         · rw [if_neg c8] at H;exact absurd H (by simp)
         rw [if_pos c8] at H;have c8b0 : decide (0≤x3_2) = true:=decide_eq_true c8;clear c8;by_cases c9 : ((rd_T30 l0 x3_2).f0) = (-1)
         rotate_left
         ·
          rw [if_neg c9] at H;have c9b0 : (((rd_T30 l0 x3_2).f0) == (-1)) = false:=beq_eq_false_iff_ne.mpr c9;have c9b1 : (((rd_T30 l0 x3_2).f0) != (-1)) = true:=bne_iff_ne.mpr c9;have H':=Aside0.mk H;clear H;have p209 : 0≤(x3_2 : Int):=of_decide_eq_true (by first | (with_reducible assumption) | assumption)
          have q209 : x3_2 < (l0.length : Int):=of_decide_eq_true (by first | (with_reducible assumption) | assumption);obtain ⟨ad209,e209,hx209_0,hx209_1,hx209_2,hx209_3,hx209_4⟩:=at_T30 HR0.out x3_2 p209 q209;cases e209;replace p209:=eq_true p209;replace q209:=eq_true q209;go_wp2
          repeat (go_quiet (fail);try go_wp2)
          go_meet
          case rel => exact ⟨_,(true),(by first | rfl | (simp;done) | (simp [*];done)),H',⟨by have:=HJ1.out;have:=HK2.out;first | omega | exact Nat.le_refl _⟩,by repeat (first | exact Drawn0.refl _ | apply Drawn0.step)⟩
         rw [if_pos c9] at H;have c9b0 : (((rd_T30 l0 x3_2).f0) == (-1)) = true:=beq_iff_eq.mpr c9;have c9b1 : (((rd_T30 l0 x3_2).f0) != (-1)) = false:=bne_eq_false_iff_eq.mpr c9;clear c9;by_cases c10 : x3_2 > 0
         rotate_left
         ·
          rw [if_neg c10] at H;have c10b0 : decide (0 < x3_2) = false:=decide_eq_false c10;clear c10;have H':=Aside0.mk H;clear H;have p209 : 0≤(x3_2 : Int):=of_decide_eq_true (by first | (with_reducible assumption) | assumption);have q209 : x3_2 < (l0.length : Int):=of_decide_eq_true (by first | (with_reducible assumption) | assumption)
          obtain ⟨ad209,e209,hx209_0,hx209_1,hx209_2,hx209_3,hx209_4⟩:=at_T30 HR0.out x3_2 p209 q209;cases e209;replace p209:=eq_true p209;replace q209:=eq_true q209;go_wp2
          repeat (go_quiet (fail);try go_wp2)
          go_meet
          case rel => exact ⟨_,(false),(by first | rfl | (simp;done) | (simp [*];done)),H',⟨by have:=HJ1.out;have:=HK2.out;first | omega | exact Nat.le_refl _⟩,by repeat (first | exact Drawn0.refl _ | apply Drawn0.step)⟩
         rw [if_pos c10] at H;have c10b0 : decide (0 < x3_2) = true:=decide_eq_true c10;clear c10;by_cases c11 : ((rd_T30 l0 x3_2).f0) < 0
         rotate_left
         ·
          rw [if_neg c11] at H;have c11b0 : decide (((rd_T30 l0 x3_2).f0) < 0) = false:=decide_eq_false c11;clear c11;have H':=Aside0.mk H;clear H;have p209 : 0≤(x3_2 : Int):=of_decide_eq_true (by first | (with_reducible assumption) | assumption);have q209 : x3_2 < (l0.length : Int):=of_decide_eq_true (by first | (with_reducible assumption) | assumption)
          obtain ⟨ad209,e209,hx209_0,hx209_1,hx209_2,hx209_3,hx209_4⟩:=at_T30 HR0.out x3_2 p209 q209;cases e209;replace p209:=eq_true p209;replace q209:=eq_true q209;have p210 : 0≤(x3_2 : Int):=of_decide_eq_true (by first | (with_reducible assumption) | assumption);have q210 : x3_2 < (l0.length : Int):=of_decide_eq_true (by first | (with_reducible assumption) | assumption)
          obtain ⟨ad210,e210,hx210_0,hx210_1,hx210_2,hx210_3,hx210_4⟩:=at_T30 HR0.out x3_2 p210 q210;obtain rfl : ad209 = ad210:=(by injection e210);replace p210:=eq_true p210;replace q210:=eq_true q210;have p211 : 0≤(x3_2 : Int):=of_decide_eq_true (by first | (with_reducible assumption) | assumption)
          have q211 : x3_2 < (l0.length : Int):=of_decide_eq_true (by first | (with_reducible assumption) | assumption);obtain ⟨ad211,e211,hx211_0,hx211_1,hx211_2,hx211_3,hx211_4⟩:=at_T30 HR0.out x3_2 p211 q211;obtain rfl : ad209 = ad211:=(by injection e211);replace p211:=eq_true p211;replace q211:=eq_true q211;go_wp2
          repeat (go_quiet (fail);try go_wp2)
          go_meet
          case rel => exact ⟨_,(decide (((rd_T30 l0 x3_2).f0)≥x3_2)),(by first | rfl | (simp;done) | (simp [*];done)),H',⟨by have:=HJ1.out;have:=HK2.out;first | omega | exact Nat.le_refl _⟩,by repeat (first | exact Drawn0.refl _ | apply Drawn0.step)⟩
         rw [if_pos c11] at H;have c11b0 : decide (((rd_T30 l0 x3_2).f0) < 0) = true:=decide_eq_true c11;clear c11;have H':=Aside0.mk H;clear H;have p209 : 0≤(x3_2 : Int):=of_decide_eq_true (by first | (with_reducible assumption) | assumption);have q209 : x3_2 < (l0.length : Int):=of_decide_eq_true (by first | (with_reducible assumption) | assumption)
         obtain ⟨ad209,e209,hx209_0,hx209_1,hx209_2,hx209_3,hx209_4⟩:=at_T30 HR0.out x3_2 p209 q209;cases e209;replace p209:=eq_true p209;replace q209:=eq_true q209;have p210 : 0≤(x3_2 : Int):=of_decide_eq_true (by first | (with_reducible assumption) | assumption);have q210 : x3_2 < (l0.length : Int):=of_decide_eq_true (by first | (with_reducible assumption) | assumption)
         obtain ⟨ad210,e210,hx210_0,hx210_1,hx210_2,hx210_3,hx210_4⟩:=at_T30 HR0.out x3_2 p210 q210;obtain rfl : ad209 = ad210:=(by injection e210);replace p210:=eq_true p210;replace q210:=eq_true q210;go_wp2
         repeat (go_quiet (fail);try go_wp2)
         go_meet
         case rel => exact ⟨_,(true),(by first | rfl | (simp;done) | (simp [*];done)),H',⟨by have:=HJ1.out;have:=HK2.out;first | omega | exact Nat.le_refl _⟩,by repeat (first | exact Drawn0.refl _ | apply Drawn0.step)⟩
        case rest =>
         clear HC6;obtain ⟨kq,x51_5,rfl,HA,HJ5,⟨mc5,rfl⟩⟩:=hcut
         cases kq with
          | zero => exact absurd HA.out (by simp [estoversref19_Check.j2])
          | succ kj5 =>
           have H:=HA.out;clear HA;simp only [estoversref19_Check.j2] at H;by_cases c15 : x51_5 = true
           rotate_left
           ·
            replace c15:=Bool.eq_false_iff.mpr c15;subst c15
            have H1 : (estoversref19_Check.l0 kj5 l0 (wrap64 (x3_2 + 1))) = some r:=by rw [if_neg (show ¬ (false = true) by decide)] at H;exact H
            clear H;have H:=H1;clear H1;have H':=Aside0.mk H;clear H;go_wp2
            repeat (go_quiet (fail);try go_wp2)
            go_roundg kj5
            case measure => have:=HJ1.out;have:=HK2.out;have:=HJ5.out;omega
            case rel => exact ⟨(wrap64 (x3_2 + 1)),(by first | rfl | (simp;done) | (simp [*];done)),H',⟨by have:=HJ1.out;have:=HK2.out;have:=HJ5.out;omega⟩,by repeat (first | exact Drawn0.refl _ | apply Drawn0.step)⟩
           subst c15
           have H1 : (some 1) = some r:=by rw [if_pos rfl] at H;exact H
           clear H;have H:=H1;clear H1;obtain rfl:=Option.some.inj H;go_wp2
           repeat (go_quiet (fail);try go_wp2)
           go_ret;exact ⟨by first | rfl | (simp;done) | (simp [*];done),by repeat (first | exact Drawn0.refl _ | apply Drawn0.step)⟩
    subst c4
    have H1 : (some 9) = some r:=by rw [if_pos rfl] at H;exact H
    clear H;have H:=H1;clear H1;obtain rfl:=Option.some.inj H;go_wp2
    repeat (go_quiet (fail);try go_wp2)
    go_ret;exact ⟨by first | rfl | (simp;done) | (simp [*];done),by repeat (first | exact Drawn0.refl _ | apply Drawn0.step)⟩
end Go.Proofs.Ytnmenfkmndnoaaa.Pr
