-- Written by a program of this session (a changed copy of the kit's printer). Not trusted: Lean checks it.
import Derived.Test.YtnmenfkmndnoaaaM0
import Derived.Test.YtnmenfkmndnoaaaFestoversref19has
import Derived.Test.YtnmenfkmndnoaaaFestoversref19kids
namespace Go.Proofs.Ytnmenfkmndnoaaa.Pr
open Go.RowKit Go.Proofs.YtnmenfkmndnoaaaW.PrintWords Go.Proofs.YtnmenfkmndnoaaaW.PrintLast Go.Proofs.YtnmenfkmndnoaaaW.PrintMore
attribute [local go_sem] max2_int min2_int max_two min_two max_three min_three max_four min_four
set_option linter.unusedVariables false
set_option linter.unusedSimpArgs false
def estoversref19_Own.f (k : Nat) (l0 : List (S30)) (a1 : Int) : Option (Int):=(estoversref19_has.f k l0 a1).bind fun t447 => (if t447 = true then (if 0≤a1 then (if a1 < (l0.length : Int) then ((estoversref19_kids.f k l0 a1).bind fun t449 => (some (wrap64 (((rd_T30 l0 a1).f1) - t449)))) else (none)) else (none)) else (some (-1)))
theorem estoversref19_Own.mono : ∀ a0 a1 k,LeO (estoversref19_Own.f k a0 a1) (estoversref19_Own.f (k + 1) a0 a1):=by
 intro a0 a1 k
 unfold estoversref19_Own.f
 repeat' first
  | (with_reducible exact estoversref19_has.mono _ _ _)
  | (with_reducible exact estoversref19_kids.mono _ _ _)
  | (with_reducible exact LeO.refl _)
  | (with_reducible exact LeO.none _)
  | (with_reducible refine LeO.ite ?_ ?_)
  | (with_reducible refine LeO.bind ?_ (fun _ => ?_))
  | exact estoversref19_has.mono _ _ _
  | exact estoversref19_kids.mono _ _ _
  | exact LeO.none _
  | refine LeO.ite ?_ ?_
  | refine LeO.bind ?_ (fun _ => ?_)
set_option maxHeartbeats 8000000 in
set_option maxRecDepth 100000 in
theorem estoversref19_Own.calls (k : Nat) (A0 : Option Addr) (c0 : Nat) (l0 : List (S30)) (a1 : Int) (r : Int) (w : World) (hr0 : Kd.C k30 w A0 l0.length l0) (hc0 : l0.length≤c0) (h : estoversref19_Own.f k l0 a1 = some r) :
 Calls Try.prog 49 #[.slice A0 l0.length c0,.int .i64 a1] w fun e w' => e = .returned (.int .i64 r)∧Drawn0 w w':=by
 have HR0:=Aside0.mk hr0;have HC0:=Aside0.mk hc0;clear hr0 hc0;have H : ((estoversref19_has.f k l0 a1).bind fun t447 => (if t447 = true then (if 0≤a1 then (if a1 < (l0.length : Int) then ((estoversref19_kids.f k l0 a1).bind fun t449 => (some (wrap64 (((rd_T30 l0 a1).f1) - t449)))) else (none)) else (none)) else (some (-1)))) = some r:=h;clear h;replace H:=Option.bind_eq_some_iff.mp H
 obtain ⟨t447,A30,H⟩:=H;replace H : (if t447 = true then (if 0≤a1 then (if a1 < (l0.length : Int) then ((estoversref19_kids.f k l0 a1).bind fun t449 => (some (wrap64 (((rd_T30 l0 a1).f1) - t449)))) else (none)) else (none)) else (some (-1))) = some r:=H;have A3:=Aside0.mk A30;clear A30;by_cases c4 : t447 = true
 rotate_left
 ·
  replace c4:=Bool.eq_false_iff.mpr c4;subst c4
  have H1 : (some (-1)) = some r:=by rw [if_neg (show ¬ (false = true) by decide)] at H;exact H
  clear H;have H:=H1;clear H1;obtain rfl:=Option.some.inj H
  go_enter Try.func49,Try.ntmps49
  go_wp2_with (first | (go_at_call 69;(with_reducible refine (estoversref19_has.calls k _ _ l0 a1 false _ ?side1 ?side2 A3.out).mono ?_);(case side1 => repeat (first | exact HR0.out | (with_reducible refine Kd.C_alloc ?_ _) | (with_reducible refine Kd.C_drewN ?_ _) | (with_reducible refine Kd.C_drew ?_)));(case side2 => exact HC0.out);rintro e w' ⟨rfl,⟨nd,rfl⟩⟩;(try first | exact ⟨rfl,_,World.drewN_drewN _ _ _⟩ | exact ⟨rfl,_,Eq.trans (World.drewN_drewN _ _ _) (congrArg (World.drewN _) (Nat.add_assoc _ _ _))⟩)))
  repeat (go_quiet (first | (go_at_call 69;(with_reducible refine (estoversref19_has.calls k _ _ l0 a1 false _ ?side1 ?side2 A3.out).mono ?_);(case side1 => repeat (first | exact HR0.out | (with_reducible refine Kd.C_alloc ?_ _) | (with_reducible refine Kd.C_drewN ?_ _) | (with_reducible refine Kd.C_drew ?_)));(case side2 => exact HC0.out);rintro e w' ⟨rfl,⟨nd,rfl⟩⟩;(try first | exact ⟨rfl,_,World.drewN_drewN _ _ _⟩ | exact ⟨rfl,_,Eq.trans (World.drewN_drewN _ _ _) (congrArg (World.drewN _) (Nat.add_assoc _ _ _))⟩)));try go_wp2_with (first | (go_at_call 69;(with_reducible refine (estoversref19_has.calls k _ _ l0 a1 false _ ?side1 ?side2 A3.out).mono ?_);(case side1 => repeat (first | exact HR0.out | (with_reducible refine Kd.C_alloc ?_ _) | (with_reducible refine Kd.C_drewN ?_ _) | (with_reducible refine Kd.C_drew ?_)));(case side2 => exact HC0.out);rintro e w' ⟨rfl,⟨nd,rfl⟩⟩;(try first | exact ⟨rfl,_,World.drewN_drewN _ _ _⟩ | exact ⟨rfl,_,Eq.trans (World.drewN_drewN _ _ _) (congrArg (World.drewN _) (Nat.add_assoc _ _ _))⟩))))
  go_ret;exact ⟨by first | rfl | (simp;done) | (simp [*];done),by repeat (first | exact Drawn0.refl _ | apply Drawn0.step)⟩
 subst c4
 have H1 : (if 0≤a1 then (if a1 < (l0.length : Int) then ((estoversref19_kids.f k l0 a1).bind fun t449 => (some (wrap64 (((rd_T30 l0 a1).f1) - t449)))) else (none)) else (none)) = some r:=by rw [if_pos rfl] at H;exact H
 clear H;have H:=H1;clear H1;by_cases c5 : 0≤a1
 rotate_left
 · rw [if_neg c5] at H;exact absurd H (by simp)
 rw [if_pos c5] at H;have c5b0 : decide (0≤a1) = true:=decide_eq_true c5;clear c5;by_cases c6 : a1 < (l0.length : Int)
 rotate_left
 · rw [if_neg c6] at H;exact absurd H (by simp)
 rw [if_pos c6] at H;have c6b0 : decide (a1 < (l0.length : Int)) = true:=decide_eq_true c6;clear c6;replace H:=Option.bind_eq_some_iff.mp H;obtain ⟨t449,A70,H⟩:=H;replace H : (some (wrap64 (((rd_T30 l0 a1).f1) - t449))) = some r:=H;have A7:=Aside0.mk A70;clear A70;obtain rfl:=Option.some.inj H
 go_enter Try.func49,Try.ntmps49
 go_wp2_with (first | (go_at_call 69;(with_reducible refine (estoversref19_has.calls k _ _ l0 a1 true _ ?side1 ?side2 A3.out).mono ?_);(case side1 => repeat (first | exact HR0.out | (with_reducible refine Kd.C_alloc ?_ _) | (with_reducible refine Kd.C_drewN ?_ _) | (with_reducible refine Kd.C_drew ?_)));(case side2 => exact HC0.out);rintro e w' ⟨rfl,⟨nd,rfl⟩⟩;(try first | exact ⟨rfl,_,World.drewN_drewN _ _ _⟩ | exact ⟨rfl,_,Eq.trans (World.drewN_drewN _ _ _) (congrArg (World.drewN _) (Nat.add_assoc _ _ _))⟩);have p448 : 0≤(a1 : Int):=of_decide_eq_true (by first | (with_reducible assumption) | assumption);have q448 : a1 < (l0.length : Int):=of_decide_eq_true (by first | (with_reducible assumption) | assumption);obtain ⟨ad448,e448,hx448_0,hx448_1,hx448_2,hx448_3,hx448_4⟩:=at_T30 HR0.out a1 p448 q448;cases e448;replace p448:=eq_true p448;replace q448:=eq_true q448) | (go_at_call 47;(with_reducible refine (estoversref19_kids.calls k _ _ l0 a1 t449 _ ?side1 ?side2 A7.out).mono ?_);(case side1 => repeat (first | exact HR0.out | (with_reducible refine Kd.C_alloc ?_ _) | (with_reducible refine Kd.C_drewN ?_ _) | (with_reducible refine Kd.C_drew ?_)));(case side2 => exact HC0.out);rintro e w' ⟨rfl,⟨nd,rfl⟩⟩;(try first | exact ⟨rfl,_,World.drewN_drewN _ _ _⟩ | exact ⟨rfl,_,Eq.trans (World.drewN_drewN _ _ _) (congrArg (World.drewN _) (Nat.add_assoc _ _ _))⟩)))
 repeat (go_quiet (first | (go_at_call 69;(with_reducible refine (estoversref19_has.calls k _ _ l0 a1 true _ ?side1 ?side2 A3.out).mono ?_);(case side1 => repeat (first | exact HR0.out | (with_reducible refine Kd.C_alloc ?_ _) | (with_reducible refine Kd.C_drewN ?_ _) | (with_reducible refine Kd.C_drew ?_)));(case side2 => exact HC0.out);rintro e w' ⟨rfl,⟨nd,rfl⟩⟩;(try first | exact ⟨rfl,_,World.drewN_drewN _ _ _⟩ | exact ⟨rfl,_,Eq.trans (World.drewN_drewN _ _ _) (congrArg (World.drewN _) (Nat.add_assoc _ _ _))⟩);have p448 : 0≤(a1 : Int):=of_decide_eq_true (by first | (with_reducible assumption) | assumption);have q448 : a1 < (l0.length : Int):=of_decide_eq_true (by first | (with_reducible assumption) | assumption);obtain ⟨ad448,e448,hx448_0,hx448_1,hx448_2,hx448_3,hx448_4⟩:=at_T30 HR0.out a1 p448 q448;cases e448;replace p448:=eq_true p448;replace q448:=eq_true q448) | (go_at_call 47;(with_reducible refine (estoversref19_kids.calls k _ _ l0 a1 t449 _ ?side1 ?side2 A7.out).mono ?_);(case side1 => repeat (first | exact HR0.out | (with_reducible refine Kd.C_alloc ?_ _) | (with_reducible refine Kd.C_drewN ?_ _) | (with_reducible refine Kd.C_drew ?_)));(case side2 => exact HC0.out);rintro e w' ⟨rfl,⟨nd,rfl⟩⟩;(try first | exact ⟨rfl,_,World.drewN_drewN _ _ _⟩ | exact ⟨rfl,_,Eq.trans (World.drewN_drewN _ _ _) (congrArg (World.drewN _) (Nat.add_assoc _ _ _))⟩)));try go_wp2_with (first | (go_at_call 69;(with_reducible refine (estoversref19_has.calls k _ _ l0 a1 true _ ?side1 ?side2 A3.out).mono ?_);(case side1 => repeat (first | exact HR0.out | (with_reducible refine Kd.C_alloc ?_ _) | (with_reducible refine Kd.C_drewN ?_ _) | (with_reducible refine Kd.C_drew ?_)));(case side2 => exact HC0.out);rintro e w' ⟨rfl,⟨nd,rfl⟩⟩;(try first | exact ⟨rfl,_,World.drewN_drewN _ _ _⟩ | exact ⟨rfl,_,Eq.trans (World.drewN_drewN _ _ _) (congrArg (World.drewN _) (Nat.add_assoc _ _ _))⟩);have p448 : 0≤(a1 : Int):=of_decide_eq_true (by first | (with_reducible assumption) | assumption);have q448 : a1 < (l0.length : Int):=of_decide_eq_true (by first | (with_reducible assumption) | assumption);obtain ⟨ad448,e448,hx448_0,hx448_1,hx448_2,hx448_3,hx448_4⟩:=at_T30 HR0.out a1 p448 q448;cases e448;replace p448:=eq_true p448;replace q448:=eq_true q448) | (go_at_call 47;(with_reducible refine (estoversref19_kids.calls k _ _ l0 a1 t449 _ ?side1 ?side2 A7.out).mono ?_);(case side1 => repeat (first | exact HR0.out | (with_reducible refine Kd.C_alloc ?_ _) | (with_reducible refine Kd.C_drewN ?_ _) | (with_reducible refine Kd.C_drew ?_)));(case side2 => exact HC0.out);rintro e w' ⟨rfl,⟨nd,rfl⟩⟩;(try first | exact ⟨rfl,_,World.drewN_drewN _ _ _⟩ | exact ⟨rfl,_,Eq.trans (World.drewN_drewN _ _ _) (congrArg (World.drewN _) (Nat.add_assoc _ _ _))⟩))))
 go_ret;exact ⟨by first | rfl | (simp;done) | (simp [*];done),by repeat (first | exact Drawn0.refl _ | apply Drawn0.step)⟩
end Go.Proofs.Ytnmenfkmndnoaaa.Pr
