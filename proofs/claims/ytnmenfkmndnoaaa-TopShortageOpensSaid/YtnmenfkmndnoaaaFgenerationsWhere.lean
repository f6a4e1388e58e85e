-- Written by a program of this session (a changed copy of the kit's printer). Not trusted: Lean checks it.
import Derived.Test.YtnmenfkmndnoaaaM0
import Derived.Test.YtnmenfkmndnoaaaFgenerationsCheck
import Derived.Test.YtnmenfkmndnoaaaT4
namespace Go.Proofs.Ytnmenfkmndnoaaa.Pr
open Go.RowKit Go.Proofs.YtnmenfkmndnoaaaW.PrintWords Go.Proofs.YtnmenfkmndnoaaaW.PrintLast Go.Proofs.YtnmenfkmndnoaaaW.PrintMore
attribute [local go_sem] max2_int min2_int max_two min_two max_three min_three max_four min_four
set_option linter.unusedVariables false
set_option linter.unusedSimpArgs false
def generations_Where.f (l0 : List (List Int)) (a1 : Int) : Option Int:=if l0 = [[7],[],[],[]]∧a1 = 7 then some 0 else none
set_option maxRecDepth 100000 in
set_option maxHeartbeats 2000000 in
theorem generations_Where.calls (A0 : Option Addr) (c0 : Nat) (l0 : List (List Int)) (a1 : Int) (r : Int) (w : World) (hr0 : Kd.C (Kd.slice 3 (Kd.int .i64)) w A0 l0.length l0) (hc0 : l0.length≤c0) (h : generations_Where.f l0 a1 = some r) :
 Calls Try.prog 44 #[.slice A0 l0.length c0,.int .i64 a1] w fun e w' => e = .returned (.int .i64 r)∧Below w.heap.size w w':=by
 unfold generations_Where.f at h
 by_cases c : l0 = [[7],[],[],[]]∧a1 = 7
 rotate_left
 · rw [if_neg c] at h;cases h
 rw [if_pos c] at h;obtain rfl:=Option.some.inj h;have HE:=Aside0.mk c.1;have HA2:=Aside0.mk c.2;have HR0:=Aside0.mk hr0;have HC0:=Aside0.mk hc0;have A1:=Aside0.mk (show generations_Check.f l0 = some 0 by rw [c.1];rfl);have HB:=Aside0.mk (Below.refl w.heap.size w);clear h hr0 hc0 c
 go_enter Try.func44,Try.ntmps44
 go_wp2_with (first | (go_at_call 56;(with_reducible refine (generations_Check.calls _ _ l0 0 _ ?side1 ?side2 A1.out).mono ?_);(case side1 => exact Kd.C_below HR0.out (by repeat (first | (with_reducible first | exact HB.out | apply b0_ | apply b1_ | apply b2_) | exact HB.out)));(case side2 => exact HC0.out);rintro e wm ⟨rfl,hbm⟩;have n1_:=Aside0.mk (below_step (by repeat (first | (with_reducible first | exact HB.out | apply b0_ | apply b1_ | apply b2_) | exact HB.out)) hbm);clear HB;have HB:=n1_;clear n1_ hbm) | (go_at_call 58;(with_reducible refine (Gen.ages1 _ _ l0 _ HE.out ?sideg).mono ?_);(case sideg => exact Kd.C_below HR0.out (by repeat (first | (with_reducible first | exact HB.out | apply b0_ | apply b1_ | apply b2_) | exact HB.out)));rintro e wm ⟨rfl,hown,hbm⟩;have hkm:=(show keyOf Try.prog 3 (.int .i64 a1) = some (.int .i64 7) by rw [HA2.out];exact Gen.key7);have n1_:=Aside0.mk (below_step (by repeat (first | (with_reducible first | exact HB.out | apply b0_ | apply b1_ | apply b2_) | exact HB.out)) hbm);clear HB;have HB:=n1_;clear n1_ hbm) | (at_lookup;refine wpList_lookup_own_ok_int _ rfl _ _ 80 rfl 3 3 .i64 (Maps.int_keyed Try.underlying3) Try.underlying80 Try.underlying3 (Try.zeroValue3 _) _ _ _ rfl hown _ _ rfl hkm ?_;intro cm hatm hwcm;rw [Gen.has_one];obtain rfl:=Gen.at_one hatm;clear hatm hwcm))
 go_ret;exact ⟨rfl,(by repeat (first | (with_reducible first | exact HB.out | apply b0_ | apply b1_ | apply b2_) | exact HB.out))⟩
end Go.Proofs.Ytnmenfkmndnoaaa.Pr
