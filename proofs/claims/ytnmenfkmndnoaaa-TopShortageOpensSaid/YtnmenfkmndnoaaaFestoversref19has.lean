-- Written by a program of this session (a changed copy of the kit's printer). Not trusted: Lean checks it.
import Derived.Test.YtnmenfkmndnoaaaM0
import Derived.Test.YtnmenfkmndnoaaaFestoversref19Check
namespace Go.Proofs.Ytnmenfkmndnoaaa.Pr
open Go.RowKit Go.Proofs.YtnmenfkmndnoaaaW.PrintWords Go.Proofs.YtnmenfkmndnoaaaW.PrintLast Go.Proofs.YtnmenfkmndnoaaaW.PrintMore
attribute [local go_sem] max2_int min2_int max_two min_two max_three min_three max_four min_four
set_option linter.unusedVariables false
set_option linter.unusedSimpArgs false
def estoversref19_has.f (k : Nat) (l0 : List (S30)) (a1 : Int) : Option (Bool):=(estoversref19_Check.f k l0).bind fun t240 => (if t240 = 0 then (if a1≥0 then (some (decide (a1 < (l0.length : Int)))) else (some false)) else (some false))
theorem estoversref19_has.mono : ∀ a0 a1 k,LeO (estoversref19_has.f k a0 a1) (estoversref19_has.f (k + 1) a0 a1):=by
 intro a0 a1 k
 unfold estoversref19_has.f
 repeat' first
  | (with_reducible exact estoversref19_Check.mono _ _)
  | (with_reducible exact LeO.refl _)
  | (with_reducible exact LeO.none _)
  | (with_reducible refine LeO.ite ?_ ?_)
  | (with_reducible refine LeO.bind ?_ (fun _ => ?_))
  | exact estoversref19_Check.mono _ _
  | exact LeO.none _
  | refine LeO.ite ?_ ?_
  | refine LeO.bind ?_ (fun _ => ?_)
set_option maxHeartbeats 8000000 in
set_option maxRecDepth 100000 in
theorem estoversref19_has.calls (k : Nat) (A0 : Option Addr) (c0 : Nat) (l0 : List (S30)) (a1 : Int) (r : Bool) (w : World) (hr0 : Kd.C k30 w A0 l0.length l0) (hc0 : l0.length≤c0) (h : estoversref19_has.f k l0 a1 = some r) :
 Calls Try.prog 69 #[.slice A0 l0.length c0,.int .i64 a1] w fun e w' => e = .returned (.bool r)∧Drawn0 w w':=by
 have HR0:=Aside0.mk hr0;have HC0:=Aside0.mk hc0;clear hr0 hc0;have H : ((estoversref19_Check.f k l0).bind fun t240 => (if t240 = 0 then (if a1≥0 then (some (decide (a1 < (l0.length : Int)))) else (some false)) else (some false))) = some r:=h;clear h;replace H:=Option.bind_eq_some_iff.mp H;obtain ⟨t240,A30,H⟩:=H
 replace H : (if t240 = 0 then (if a1≥0 then (some (decide (a1 < (l0.length : Int)))) else (some false)) else (some false)) = some r:=H;have A3:=Aside0.mk A30;clear A30;by_cases c4 : t240 = 0
 rotate_left
 ·
  rw [if_neg c4] at H;have c4b0 : (t240 == 0) = false:=beq_eq_false_iff_ne.mpr c4;have c4b1 : (t240 != 0) = true:=bne_iff_ne.mpr c4;obtain rfl:=Option.some.inj H
  go_enter Try.func69,Try.ntmps69
  go_wp2_with (first | ((with_reducible refine gate_callee (f:=16) rfl ?_);refine goesL_ (some 6) rfl rfl Try.func16 (by kernel_rfl) rfl #[.slice A0 l0.length c0] rfl (by (try simp only [z3_,z4_,z5_]);first | done | rfl | (simp only [z6_,z7_];rfl)) ?_;(with_reducible refine (estoversref19_Check.calls k _ _ l0 t240 _ ?side1 ?side2 A3.out).mono ?_);(case side1 => repeat (first | exact HR0.out | (with_reducible refine Kd.C_alloc ?_ _) | (with_reducible refine Kd.C_drewN ?_ _) | (with_reducible refine Kd.C_drew ?_)));(case side2 => exact HC0.out);rintro e w' ⟨rfl,⟨nd,rfl⟩⟩;refine ⟨_,rfl,?_⟩))
  go_ret;exact ⟨by first | rfl | (simp;done) | (simp [*];done),by repeat (first | exact Drawn0.refl _ | apply Drawn0.step)⟩
 rw [if_pos c4] at H;have c4b0 : (t240 == 0) = true:=beq_iff_eq.mpr c4;have c4b1 : (t240 != 0) = false:=bne_eq_false_iff_eq.mpr c4;clear c4;by_cases c5 : a1≥0
 rotate_left
 ·
  rw [if_neg c5] at H;have c5b0 : decide (0≤a1) = false:=decide_eq_false c5;clear c5;obtain rfl:=Option.some.inj H
  go_enter Try.func69,Try.ntmps69
  go_wp2_with (first | ((with_reducible refine gate_callee (f:=16) rfl ?_);refine goesL_ (some 6) rfl rfl Try.func16 (by kernel_rfl) rfl #[.slice A0 l0.length c0] rfl (by (try simp only [z3_,z4_,z5_]);first | done | rfl | (simp only [z6_,z7_];rfl)) ?_;(with_reducible refine (estoversref19_Check.calls k _ _ l0 t240 _ ?side1 ?side2 A3.out).mono ?_);(case side1 => repeat (first | exact HR0.out | (with_reducible refine Kd.C_alloc ?_ _) | (with_reducible refine Kd.C_drewN ?_ _) | (with_reducible refine Kd.C_drew ?_)));(case side2 => exact HC0.out);rintro e w' ⟨rfl,⟨nd,rfl⟩⟩;refine ⟨_,rfl,?_⟩))
  go_ret;exact ⟨by first | rfl | (simp;done) | (simp [*];done),by repeat (first | exact Drawn0.refl _ | apply Drawn0.step)⟩
 rw [if_pos c5] at H;have c5b0 : decide (0≤a1) = true:=decide_eq_true c5;clear c5;obtain rfl:=Option.some.inj H
 go_enter Try.func69,Try.ntmps69
 go_wp2_with (first | ((with_reducible refine gate_callee (f:=16) rfl ?_);refine goesL_ (some 6) rfl rfl Try.func16 (by kernel_rfl) rfl #[.slice A0 l0.length c0] rfl (by (try simp only [z3_,z4_,z5_]);first | done | rfl | (simp only [z6_,z7_];rfl)) ?_;(with_reducible refine (estoversref19_Check.calls k _ _ l0 t240 _ ?side1 ?side2 A3.out).mono ?_);(case side1 => repeat (first | exact HR0.out | (with_reducible refine Kd.C_alloc ?_ _) | (with_reducible refine Kd.C_drewN ?_ _) | (with_reducible refine Kd.C_drew ?_)));(case side2 => exact HC0.out);rintro e w' ⟨rfl,⟨nd,rfl⟩⟩;refine ⟨_,rfl,?_⟩))
 go_ret;exact ⟨by first | rfl | (simp;done) | (simp [*];done),by repeat (first | exact Drawn0.refl _ | apply Drawn0.step)⟩
end Go.Proofs.Ytnmenfkmndnoaaa.Pr
