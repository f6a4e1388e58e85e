-- Written by a program of this session (a changed copy of the kit's printer). Not trusted: Lean checks it.
import Derived.Test.YtnmenfkmndnoaaaM0
import Derived.Test.YtnmenfkmndnoaaaM1
import Derived.Test.YtnmenfkmndnoaaaM2
namespace Go.Proofs.Ytnmenfkmndnoaaa.Pr
open Go.RowKit Go.Proofs.YtnmenfkmndnoaaaW.PrintWords Go.Proofs.YtnmenfkmndnoaaaW.PrintLast Go.Proofs.YtnmenfkmndnoaaaW.PrintMore
attribute [local go_sem] max2_int min2_int max_two min_two max_three min_three max_four min_four
set_option linter.unusedVariables false
set_option linter.unusedSimpArgs false
def accounts_Own.f (k : Nat) (l0 : List (S30)) (a1 : Int) : Option (Int):=(accounts_is.f k l0 a1).bind fun t461 => (if t461 = true then ((accounts_own.f k l0).bind fun t462 => (if 0≤a1 then (if a1 < (t462.length : Int) then (some (rd t462 a1)) else (none)) else (none))) else (some (-1)))
theorem accounts_Own.mono : ∀ a0 a1 k,LeO (accounts_Own.f k a0 a1) (accounts_Own.f (k + 1) a0 a1):=by
 intro a0 a1 k
 unfold accounts_Own.f
 repeat' first
  | (with_reducible exact accounts_is.mono _ _ _)
  | (with_reducible exact accounts_own.mono _ _)
  | (with_reducible exact LeO.refl _)
  | (with_reducible exact LeO.none _)
  | (with_reducible refine LeO.ite ?_ ?_)
  | (with_reducible refine LeO.bind ?_ (fun _ => ?_))
  | exact accounts_is.mono _ _ _
  | exact accounts_own.mono _ _
  | exact LeO.none _
  | refine LeO.ite ?_ ?_
  | refine LeO.bind ?_ (fun _ => ?_)
set_option maxHeartbeats 8000000 in
set_option maxRecDepth 100000 in
theorem accounts_Own.calls (k : Nat) (A0 : Option Addr) (c0 : Nat) (l0 : List (S30)) (a1 : Int) (r : Int) (w : World) (hr0 : Kd.C k30 w A0 l0.length l0) (hc0 : l0.length≤c0) (h : accounts_Own.f k l0 a1 = some r) :
 Calls Try.prog 73 #[.slice A0 l0.length c0,.int .i64 a1] w fun e w' => e = .returned (.int .i64 r)∧Below w.heap.size w w':=by
 have HR0:=Aside0.mk hr0;have HC0:=Aside0.mk hc0;clear hr0 hc0;have HB:=Aside0.mk (Below.refl w.heap.size w);have H : ((accounts_is.f k l0 a1).bind fun t461 => (if t461 = true then ((accounts_own.f k l0).bind fun t462 => (if 0≤a1 then (if a1 < (t462.length : Int) then (some (rd t462 a1)) else (none)) else (none))) else (some (-1)))) = some r:=h;clear h
 replace H:=Option.bind_eq_some_iff.mp H;obtain ⟨t461,A30,H⟩:=H;replace H : (if t461 = true then ((accounts_own.f k l0).bind fun t462 => (if 0≤a1 then (if a1 < (t462.length : Int) then (some (rd t462 a1)) else (none)) else (none))) else (some (-1))) = some r:=H;have A3:=Aside0.mk A30;clear A30;by_cases c4 : t461 = true
 rotate_left
 ·
  replace c4:=Bool.eq_false_iff.mpr c4;subst c4
  have H1 : (some (-1)) = some r:=by rw [if_neg (show ¬ (false = true) by decide)] at H;exact H
  clear H;have H:=H1;clear H1;obtain rfl:=Option.some.inj H
  go_enter Try.func73,Try.ntmps73
  go_wp2_with (first | ((with_reducible refine gate_callee (f:=89) rfl ?_);refine goesL_ (some 7) rfl rfl Try.func89 (by kernel_rfl) rfl #[.slice A0 l0.length c0,.int .i64 a1] rfl (by (try simp only [z3_,z4_,z5_]);first | done | rfl | (simp only [z6_,z7_];rfl)) ?_;(with_reducible refine (accounts_is.calls k _ _ l0 a1 false _ ?side1 ?side2 A3.out).mono ?_);(case side1 => repeat (first | exact HR0.out | (with_reducible refine Kd.C_alloc ?_ _) | (with_reducible refine Kd.C_drewN ?_ _) | (with_reducible refine Kd.C_drew ?_)));(case side2 => exact HC0.out);rintro e w11 ⟨rfl,hb⟩;refine ⟨_,rfl,?_⟩;have n0_:=Aside0.mk (below_step (by repeat (first | (with_reducible first | exact HB.out | apply b0_ | apply b1_ | apply b2_) | exact HB.out)) hb);clear HB;have HB:=n0_;clear n0_))
  go_ret;exact ⟨by first | rfl | (simp [errW_none,errW_some] <;> rfl) | (simp [*,errW_none,errW_some] <;> rfl),by repeat (first | (with_reducible first | exact HB.out | apply b0_ | apply b1_ | apply b2_) | exact HB.out)⟩
 subst c4
 have H1 : ((accounts_own.f k l0).bind fun t462 => (if 0≤a1 then (if a1 < (t462.length : Int) then (some (rd t462 a1)) else (none)) else (none))) = some r:=by rw [if_pos rfl] at H;exact H
 clear H;have H:=H1;clear H1;replace H:=Option.bind_eq_some_iff.mp H;obtain ⟨t462,A50,H⟩:=H;replace H : (if 0≤a1 then (if a1 < (t462.length : Int) then (some (rd t462 a1)) else (none)) else (none)) = some r:=H;have A5:=Aside0.mk A50;clear A50;by_cases c6 : 0≤a1
 rotate_left
 · rw [if_neg c6] at H;exact absurd H (by simp)
 rw [if_pos c6] at H;have c6b0 : decide (0≤a1) = true:=decide_eq_true c6;clear c6;by_cases c7 : a1 < (t462.length : Int)
 rotate_left
 · rw [if_neg c7] at H;exact absurd H (by simp)
 rw [if_pos c7] at H;have c7b0 : decide (a1 < (t462.length : Int)) = true:=decide_eq_true c7;clear c7;obtain rfl:=Option.some.inj H
 go_enter Try.func73,Try.ntmps73
 go_wp2_with (first | ((with_reducible refine gate_callee (f:=89) rfl ?_);refine goesL_ (some 7) rfl rfl Try.func89 (by kernel_rfl) rfl #[.slice A0 l0.length c0,.int .i64 a1] rfl (by (try simp only [z3_,z4_,z5_]);first | done | rfl | (simp only [z6_,z7_];rfl)) ?_;(with_reducible refine (accounts_is.calls k _ _ l0 a1 true _ ?side1 ?side2 A3.out).mono ?_);(case side1 => repeat (first | exact HR0.out | (with_reducible refine Kd.C_alloc ?_ _) | (with_reducible refine Kd.C_drewN ?_ _) | (with_reducible refine Kd.C_drew ?_)));(case side2 => exact HC0.out);rintro e w8 ⟨rfl,hb⟩;refine ⟨_,rfl,?_⟩;have n0_:=Aside0.mk (below_step (by repeat (first | (with_reducible first | exact HB.out | apply b0_ | apply b1_ | apply b2_) | exact HB.out)) hb);clear HB;have HB:=n0_;clear n0_) | ((with_reducible refine gate_callee (f:=80) rfl ?_);refine goesL_ (some 10) rfl rfl Try.func80 (by kernel_rfl) rfl #[.slice A0 l0.length c0] rfl (by (try simp only [z3_,z4_,z5_]);first | done | rfl | (simp only [z6_,z7_];rfl)) ?_;(with_reducible refine (accounts_own.calls k _ _ l0 t462 _ ?side1 ?side2 A5.out).mono ?_);(case side1 => repeat (first | exact (Kd.C_below HR0.out HB.out) | (with_reducible refine Kd.C_alloc ?_ _) | (with_reducible refine Kd.C_drewN ?_ _) | (with_reducible refine Kd.C_drew ?_)));(case side2 => exact HC0.out);rintro e w9 ⟨v463,rfl,ho0,hb⟩;refine ⟨_,rfl,?_⟩;have n0_:=Aside0.mk (Kd.R_lower ho0 (below_size (by repeat (first | (with_reducible first | exact HB.out | apply b0_ | apply b1_ | apply b2_) | exact HB.out))));have n1_:=Aside0.mk (below_step (by repeat (first | (with_reducible first | exact HB.out | apply b0_ | apply b1_ | apply b2_) | exact HB.out)) hb);clear HB;have HO464:=n0_;have HB:=n1_;clear n0_ n1_;(try clear ho0);obtain ⟨Ao10,co10,eo10⟩:=Kd.R_slice HO464.out;subst eo10;have p465 : 0≤(a1 : Int):=of_decide_eq_true (by first | (with_reducible assumption) | assumption);have q465 : a1 < (t462.length : Int):=of_decide_eq_true (by first | (with_reducible assumption) | assumption);obtain ⟨ad465,e465,hx465_0⟩:=Kd.at_int (Kd.R_reads' HO464.out).2.2 a1 p465 q465;cases e465;replace p465:=eq_true p465;replace q465:=eq_true q465))
 go_ret;exact ⟨by first | rfl | (simp [errW_none,errW_some] <;> rfl) | (simp [*,errW_none,errW_some] <;> rfl),by repeat (first | (with_reducible first | exact HB.out | apply b0_ | apply b1_ | apply b2_) | exact HB.out)⟩
end Go.Proofs.Ytnmenfkmndnoaaa.Pr
