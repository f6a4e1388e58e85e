-- Written by a program of this session (a changed copy of the kit's printer). Not trusted: Lean checks it.
import Derived.Test.YtnmenfkmndnoaaaM0
import Derived.Test.YtnmenfkmndnoaaaFestoversref19Inside
namespace Go.Proofs.Ytnmenfkmndnoaaa.Pr
open Go.RowKit Go.Proofs.YtnmenfkmndnoaaaW.PrintWords Go.Proofs.YtnmenfkmndnoaaaW.PrintLast Go.Proofs.YtnmenfkmndnoaaaW.PrintMore
attribute [local go_sem] max2_int min2_int max_two min_two max_three min_three max_four min_four
set_option linter.unusedVariables false
set_option linter.unusedSimpArgs false
def estoversref39_outside.f (k : Nat) (a0_0 : Int) (a0_1 : Int) (a0_2 : Int) (a0_3 : Int) (a0_4 : Int) (a0_5 : Bool) (a0_6 : Bool) (l1 : List (S30)) (a2 : Int) : Option (Bool):=if a2≥0 then (if a0_1 < 0 then (some true) else ((estoversref19_Inside.f k l1 a0_1 a2).bind fun t274 => (some (!t274)))) else (some false)
theorem estoversref39_outside.mono : ∀ a0 a1 a2 a3 a4 a5 a6 a7 a8 k,LeO (estoversref39_outside.f k a0 a1 a2 a3 a4 a5 a6 a7 a8) (estoversref39_outside.f (k + 1) a0 a1 a2 a3 a4 a5 a6 a7 a8):=by
 intro a0 a1 a2 a3 a4 a5 a6 a7 a8 k
 unfold estoversref39_outside.f
 repeat' first
  | (with_reducible exact estoversref19_Inside.mono _ _ _ _)
  | (with_reducible exact LeO.refl _)
  | (with_reducible exact LeO.none _)
  | (with_reducible refine LeO.ite ?_ ?_)
  | (with_reducible refine LeO.bind ?_ (fun _ => ?_))
  | exact estoversref19_Inside.mono _ _ _ _
  | exact LeO.none _
  | refine LeO.ite ?_ ?_
  | refine LeO.bind ?_ (fun _ => ?_)
set_option maxHeartbeats 8000000 in
set_option maxRecDepth 100000 in
theorem estoversref39_outside.calls (k : Nat) (a0_0 : Int) (a0_1 : Int) (a0_2 : Int) (a0_3 : Int) (a0_4 : Int) (a0_5 : Bool) (a0_6 : Bool) (A1 : Option Addr) (c1 : Nat) (l1 : List (S30)) (a2 : Int) (r : Bool) (w : World) (hr1 : Kd.C k30 w A1 l1.length l1) (hc1 : l1.length≤c1) (h : estoversref39_outside.f k a0_0 a0_1 a0_2 a0_3 a0_4 a0_5 a0_6 l1 a2 = some r) :
 Calls Try.prog 67 #[.agg #[.int .i64 a0_0,.int .i64 a0_1,.int .i64 a0_2,.int .i64 a0_3,.int .i64 a0_4,.bool a0_5,.bool a0_6],.slice A1 l1.length c1,.int .i64 a2] w fun e w' => e = .returned (.bool r)∧Below w.heap.size w w':=by
 have hu34:=Try.underlying34;have HR1:=Aside0.mk hr1;have HC1:=Aside0.mk hc1;clear hr1 hc1;have HB:=Aside0.mk (Below.refl w.heap.size w);have H : (if a2≥0 then (if a0_1 < 0 then (some true) else ((estoversref19_Inside.f k l1 a0_1 a2).bind fun t274 => (some (!t274)))) else (some false)) = some r:=h;clear h;by_cases c4 : a2≥0
 rotate_left
 ·
  rw [if_neg c4] at H;have c4b0 : decide (0≤a2) = false:=decide_eq_false c4;clear c4;obtain rfl:=Option.some.inj H
  go_enter Try.func67,Try.ntmps67
  go_wp2_with (first | ((with_reducible refine gate_dst (N:=3) rfl ?_);refine box_event ?hg (N:=3) ?hd (cs:=#[.int .i64 a0_0,.int .i64 a0_1,.int .i64 a0_2,.int .i64 a0_3,.int .i64 a0_4,.bool a0_5,.bool a0_6]) (t:=34) ?hr ?_;(case hd => rfl);(case hg => rfl);(case hr => first | (go_simp;done) | (go_simp;rfl));intro gb273 hg w12 hbox hb;have n0_:=Aside0.mk (below_step (by repeat (first | (with_reducible first | exact HB.out | apply b0_ | apply b1_ | apply b2_) | exact HB.out)) hb);have n1_:=Aside0.mk (hbox);have n2_:=Aside0.mk ((by rw [hg];exact (below_size (by repeat (first | (with_reducible first | exact HB.out | apply b0_ | apply b1_ | apply b2_) | exact HB.out))) : w.heap.size≤gb273));have n3_:=Aside0.mk ((by rw [hg];exact (below_size (by repeat (first | (with_reducible first | exact HB.out | apply b0_ | apply b1_ | apply b2_) | exact HB.out))) : w.heap.size≤gb273));clear HB;have HB:=n0_;have BK273:=n1_;have GW273:=n2_;have GE273:=n3_;clear n0_ n1_ n2_ n3_;clear hb hbox hg))
  go_ret;exact ⟨by first | rfl | (simp [errW_none,errW_some] <;> rfl) | (simp [*,errW_none,errW_some] <;> rfl),by repeat (first | (with_reducible first | exact HB.out | apply b0_ | apply b1_ | apply b2_ | refine below_set ?_ GE273.out) | exact HB.out)⟩
 rw [if_pos c4] at H;have c4b0 : decide (0≤a2) = true:=decide_eq_true c4;clear c4;by_cases c5 : a0_1 < 0
 rotate_left
 ·
  rw [if_neg c5] at H;have c5b0 : decide (a0_1 < 0) = false:=decide_eq_false c5;clear c5;replace H:=Option.bind_eq_some_iff.mp H;obtain ⟨t274,A80,H⟩:=H;replace H : (some (!t274)) = some r:=H;have A8:=Aside0.mk A80;clear A80;obtain rfl:=Option.some.inj H
  go_enter Try.func67,Try.ntmps67
  go_wp2_with (first | ((with_reducible refine gate_dst (N:=3) rfl ?_);refine box_event ?hg (N:=3) ?hd (cs:=#[.int .i64 a0_0,.int .i64 a0_1,.int .i64 a0_2,.int .i64 a0_3,.int .i64 a0_4,.bool a0_5,.bool a0_6]) (t:=34) ?hr ?_;(case hd => rfl);(case hg => rfl);(case hr => first | (go_simp;done) | (go_simp;rfl));intro gb273 hg w9 hbox hb;have n0_:=Aside0.mk (below_step (by repeat (first | (with_reducible first | exact HB.out | apply b0_ | apply b1_ | apply b2_) | exact HB.out)) hb);have n1_:=Aside0.mk (hbox);have n2_:=Aside0.mk ((by rw [hg];exact (below_size (by repeat (first | (with_reducible first | exact HB.out | apply b0_ | apply b1_ | apply b2_) | exact HB.out))) : w.heap.size≤gb273));have n3_:=Aside0.mk ((by rw [hg];exact (below_size (by repeat (first | (with_reducible first | exact HB.out | apply b0_ | apply b1_ | apply b2_) | exact HB.out))) : w.heap.size≤gb273));clear HB;have HB:=n0_;have BK273:=n1_;have GW273:=n2_;have GE273:=n3_;clear n0_ n1_ n2_ n3_;clear hb hbox hg;obtain ⟨hcz10_0,hcz10_1,hcz10_2,hcz10_3,hcz10_4,hcz10_5,hcz10_6,hfz10_0,hfz10_1,hfz10_2,hfz10_3,hfz10_4,hfz10_5,hfz10_6⟩:=q7_ BK273.out) | (go_at_call 42;(with_reducible refine (estoversref19_Inside.calls k _ _ l1 a0_1 a2 t274 _ ?side1 ?side2 A8.out).mono ?_);(case side1 => repeat (first | exact (Kd.C_below HR1.out HB.out) | (with_reducible refine Kd.C_alloc ?_ _) | (with_reducible refine Kd.C_drewN ?_ _) | (with_reducible refine Kd.C_drew ?_)));(case side2 => exact HC1.out);rintro e w11 ⟨rfl,hb⟩;have n0_:=Aside0.mk (blk_below (g:=gb273) (o:=.cells #[.int .i64 a0_0,.int .i64 a0_1,.int .i64 a0_2,.int .i64 a0_3,.int .i64 a0_4,.bool a0_5,.bool a0_6] 34 (0,0)) (by (with_reducible repeat (first | refine blk_drewN ?_ _ | refine blk_drew ?_ | refine blk_alloc ?_ _));exact BK273.out) hb);have n1_:=Aside0.mk (below_step (by repeat (first | (with_reducible first | exact HB.out | apply b0_ | apply b1_ | apply b2_ | refine below_set ?_ GE273.out) | exact HB.out)) hb);clear BK273;clear HB;have BK273:=n0_;have HB:=n1_;clear n0_ n1_))
  go_ret;exact ⟨by first | rfl | (simp [errW_none,errW_some] <;> rfl) | (simp [*,errW_none,errW_some] <;> rfl),by repeat (first | (with_reducible first | exact HB.out | apply b0_ | apply b1_ | apply b2_ | refine below_set ?_ GE273.out) | exact HB.out)⟩
 rw [if_pos c5] at H;have c5b0 : decide (a0_1 < 0) = true:=decide_eq_true c5;clear c5;obtain rfl:=Option.some.inj H
 go_enter Try.func67,Try.ntmps67
 go_wp2_with (first | ((with_reducible refine gate_dst (N:=3) rfl ?_);refine box_event ?hg (N:=3) ?hd (cs:=#[.int .i64 a0_0,.int .i64 a0_1,.int .i64 a0_2,.int .i64 a0_3,.int .i64 a0_4,.bool a0_5,.bool a0_6]) (t:=34) ?hr ?_;(case hd => rfl);(case hg => rfl);(case hr => first | (go_simp;done) | (go_simp;rfl));intro gb273 hg w6 hbox hb;have n0_:=Aside0.mk (below_step (by repeat (first | (with_reducible first | exact HB.out | apply b0_ | apply b1_ | apply b2_) | exact HB.out)) hb);have n1_:=Aside0.mk (hbox);have n2_:=Aside0.mk ((by rw [hg];exact (below_size (by repeat (first | (with_reducible first | exact HB.out | apply b0_ | apply b1_ | apply b2_) | exact HB.out))) : w.heap.size≤gb273));have n3_:=Aside0.mk ((by rw [hg];exact (below_size (by repeat (first | (with_reducible first | exact HB.out | apply b0_ | apply b1_ | apply b2_) | exact HB.out))) : w.heap.size≤gb273));clear HB;have HB:=n0_;have BK273:=n1_;have GW273:=n2_;have GE273:=n3_;clear n0_ n1_ n2_ n3_;clear hb hbox hg;obtain ⟨hcz7_0,hcz7_1,hcz7_2,hcz7_3,hcz7_4,hcz7_5,hcz7_6,hfz7_0,hfz7_1,hfz7_2,hfz7_3,hfz7_4,hfz7_5,hfz7_6⟩:=q7_ BK273.out))
 go_ret;exact ⟨by first | rfl | (simp [errW_none,errW_some] <;> rfl) | (simp [*,errW_none,errW_some] <;> rfl),by repeat (first | (with_reducible first | exact HB.out | apply b0_ | apply b1_ | apply b2_ | refine below_set ?_ GE273.out) | exact HB.out)⟩
end Go.Proofs.Ytnmenfkmndnoaaa.Pr
