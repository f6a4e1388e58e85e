-- Written by a program of this session (a changed copy of the kit's printer). Not trusted: Lean checks it.
import Derived.Test.YtnmenfkmndnoaaaM0
import Derived.Test.YtnmenfkmndnoaaaFestoversref39Leaving
import Derived.Test.YtnmenfkmndnoaaaFestoversref39Question
import Derived.Test.YtnmenfkmndnoaaaFestoversref39reason
namespace Go.Proofs.Ytnmenfkmndnoaaa.Pr
open Go.RowKit Go.Proofs.YtnmenfkmndnoaaaW.PrintWords Go.Proofs.YtnmenfkmndnoaaaW.PrintLast Go.Proofs.YtnmenfkmndnoaaaW.PrintMore
attribute [local go_sem] max2_int min2_int max_two min_two max_three min_three max_four min_four
set_option linter.unusedVariables false
set_option linter.unusedSimpArgs false
def estoversref39_Transit.l0 : Nat→List (S34)→List (S30)→Int→Bool→List Int→Int→Option (Bool)
 | 0,_,_,_,_,_,_ => none
 | k + 1,x0,x1,x2,x3,x9,x10 => if x10 < (x0.length : Int) then (if 0≤x10 then ((estoversref39_reason.f k ((rd_T34 x0 x10).f0) ((rd_T34 x0 x10).f1) ((rd_T34 x0 x10).f2) ((rd_T34 x0 x10).f3) ((rd_T34 x0 x10).f4) ((rd_T34 x0 x10).f5) ((rd_T34 x0 x10).f6) x1 x9 x2 x3).bind fun t346 => (if t346 = 8 then (some true) else (estoversref39_Transit.l0 k x0 x1 x2 x3 x9 (wrap64 (x10 + 1))))) else (none)) else (some false)
def estoversref39_Transit.f (k : Nat) (l0 : List (S34)) (l1 : List (S30)) (a2 : Int) (a3 : Bool) : Option (Bool):=(estoversref39_Question.f k l0 l1 a2).bind fun t341 => (if t341 = true then ((estoversref39_Leaving.f k l0 l1).bind fun t342 => (estoversref39_Transit.l0 k l0 l1 a2 a3 t342 0)) else (some false))
theorem estoversref39_Transit.mono_l : ∀ k,(∀ y0 y1 y2 y3 y4 y5,LeO (estoversref39_Transit.l0 k y0 y1 y2 y3 y4 y5) (estoversref39_Transit.l0 (k + 1) y0 y1 y2 y3 y4 y5))
 | 0 => fun _ _ _ _ _ _ r h => by simp [estoversref39_Transit.l0] at h
 | k + 1 => by
  have ih0:=estoversref39_Transit.mono_l k
  ·
   intro y0 y1 y2 y3 y4 y5
   unfold estoversref39_Transit.l0
   repeat' first
    | (with_reducible exact ih0 _ _ _ _ _ _)
    | (with_reducible exact estoversref39_Leaving.mono _ _ _)
    | (with_reducible exact estoversref39_Question.mono _ _ _ _)
    | (with_reducible exact estoversref39_reason.mono _ _ _ _ _ _ _ _ _ _ _ _)
    | (with_reducible exact LeO.refl _)
    | (with_reducible exact LeO.none _)
    | (with_reducible refine LeO.ite ?_ ?_)
    | (with_reducible refine LeO.bind ?_ (fun _ => ?_))
    | exact ih0 _ _ _ _ _ _
    | exact estoversref39_Leaving.mono _ _ _
    | exact estoversref39_Question.mono _ _ _ _
    | exact estoversref39_reason.mono _ _ _ _ _ _ _ _ _ _ _ _
    | exact LeO.none _
    | refine LeO.ite ?_ ?_
    | refine LeO.bind ?_ (fun _ => ?_)
theorem estoversref39_Transit.mono : ∀ a0 a1 a2 a3 k,LeO (estoversref39_Transit.f k a0 a1 a2 a3) (estoversref39_Transit.f (k + 1) a0 a1 a2 a3):=by
 intro a0 a1 a2 a3 k;have ih0:=estoversref39_Transit.mono_l k
 unfold estoversref39_Transit.f
 repeat' first
  | (with_reducible exact ih0 _ _ _ _ _ _)
  | (with_reducible exact estoversref39_Leaving.mono _ _ _)
  | (with_reducible exact estoversref39_Question.mono _ _ _ _)
  | (with_reducible exact estoversref39_reason.mono _ _ _ _ _ _ _ _ _ _ _ _)
  | (with_reducible exact LeO.refl _)
  | (with_reducible exact LeO.none _)
  | (with_reducible refine LeO.ite ?_ ?_)
  | (with_reducible refine LeO.bind ?_ (fun _ => ?_))
  | exact ih0 _ _ _ _ _ _
  | exact estoversref39_Leaving.mono _ _ _
  | exact estoversref39_Question.mono _ _ _ _
  | exact estoversref39_reason.mono _ _ _ _ _ _ _ _ _ _ _ _
  | exact LeO.none _
  | refine LeO.ite ?_ ?_
  | refine LeO.bind ?_ (fun _ => ?_)
set_option maxHeartbeats 8000000 in
set_option maxRecDepth 100000 in
theorem estoversref39_Transit.calls (k : Nat) (A0 : Option Addr) (c0 : Nat) (l0 : List (S34)) (A1 : Option Addr) (c1 : Nat) (l1 : List (S30)) (a2 : Int) (a3 : Bool) (r : Bool) (w : World) (hr0 : Kd.C k34 w A0 l0.length l0) (hc0 : l0.length≤c0) (hr1 : Kd.C k30 w A1 l1.length l1) (hc1 : l1.length≤c1) (h : estoversref39_Transit.f k l0 l1 a2 a3 = some r) :
 Calls Try.prog 40 #[.slice A0 l0.length c0,.slice A1 l1.length c1,.int .i64 a2,.bool a3] w fun e w' => e = .returned (.bool r)∧Below w.heap.size w w':=by
 have hu34:=Try.underlying34;have HR0:=Aside0.mk hr0;have HC0:=Aside0.mk hc0;clear hr0 hc0;have HR1:=Aside0.mk hr1;have HC1:=Aside0.mk hc1;clear hr1 hc1;have HB:=Aside0.mk (Below.refl w.heap.size w)
 have H : ((estoversref39_Question.f k l0 l1 a2).bind fun t341 => (if t341 = true then ((estoversref39_Leaving.f k l0 l1).bind fun t342 => (estoversref39_Transit.l0 k l0 l1 a2 a3 t342 0)) else (some false))) = some r:=h;clear h;replace H:=Option.bind_eq_some_iff.mp H;obtain ⟨t341,A50,H⟩:=H
 replace H : (if t341 = true then ((estoversref39_Leaving.f k l0 l1).bind fun t342 => (estoversref39_Transit.l0 k l0 l1 a2 a3 t342 0)) else (some false)) = some r:=H;have A5:=Aside0.mk A50;clear A50;by_cases c6 : t341 = true
 rotate_left
 ·
  replace c6:=Bool.eq_false_iff.mpr c6;subst c6
  have H1 : (some false) = some r:=by rw [if_neg (show ¬ (false = true) by decide)] at H;exact H
  clear H;have H:=H1;clear H1;obtain rfl:=Option.some.inj H
  go_enter Try.func40,Try.ntmps40
  go_wp2_with (first | ((with_reducible refine gate_callee (f:=63) rfl ?_);refine goesL_ (some 14) rfl rfl Try.func63 (by kernel_rfl) rfl #[.slice A0 l0.length c0,.slice A1 l1.length c1,.int .i64 a2] rfl (by (try simp only [z3_,z4_,z5_]);first | done | rfl | (simp only [z6_,z7_];rfl)) ?_;(with_reducible refine (estoversref39_Question.calls k _ _ l0 _ _ l1 a2 false _ ?side1 ?side2 ?side3 ?side4 A5.out).mono ?_);(case side1 => repeat (first | exact HR0.out | (with_reducible refine Kd.C_alloc ?_ _) | (with_reducible refine Kd.C_drewN ?_ _) | (with_reducible refine Kd.C_drew ?_)));(case side2 => exact HC0.out);(case side3 => repeat (first | exact HR1.out | (with_reducible refine Kd.C_alloc ?_ _) | (with_reducible refine Kd.C_drewN ?_ _) | (with_reducible refine Kd.C_drew ?_)));(case side4 => exact HC1.out);rintro e w18 ⟨rfl,hb⟩;refine ⟨_,rfl,?_⟩;have n0_:=Aside0.mk (below_step (by repeat (first | (with_reducible first | exact HB.out | apply b0_ | apply b1_ | apply b2_) | exact HB.out)) hb);clear HB;have HB:=n0_;clear n0_))
  go_ret;exact ⟨by first | rfl | (simp [errW_none,errW_some] <;> rfl) | (simp [*,errW_none,errW_some] <;> rfl),by repeat (first | (with_reducible first | exact HB.out | apply b0_ | apply b1_ | apply b2_) | exact HB.out)⟩
 subst c6
 have H1 : ((estoversref39_Leaving.f k l0 l1).bind fun t342 => (estoversref39_Transit.l0 k l0 l1 a2 a3 t342 0)) = some r:=by rw [if_pos rfl] at H;exact H
 clear H;have H:=H1;clear H1;replace H:=Option.bind_eq_some_iff.mp H;obtain ⟨t342,A70,H⟩:=H;replace H : (estoversref39_Transit.l0 k l0 l1 a2 a3 t342 0) = some r:=H;have A7:=Aside0.mk A70;clear A70;have H':=Aside0.mk H;clear H
 go_enter Try.func40,Try.ntmps40
 go_wp2_with (first | ((with_reducible refine gate_callee (f:=63) rfl ?_);refine goesL_ (some 14) rfl rfl Try.func63 (by kernel_rfl) rfl #[.slice A0 l0.length c0,.slice A1 l1.length c1,.int .i64 a2] rfl (by (try simp only [z3_,z4_,z5_]);first | done | rfl | (simp only [z6_,z7_];rfl)) ?_;(with_reducible refine (estoversref39_Question.calls k _ _ l0 _ _ l1 a2 true _ ?side1 ?side2 ?side3 ?side4 A5.out).mono ?_);(case side1 => repeat (first | exact HR0.out | (with_reducible refine Kd.C_alloc ?_ _) | (with_reducible refine Kd.C_drewN ?_ _) | (with_reducible refine Kd.C_drew ?_)));(case side2 => exact HC0.out);(case side3 => repeat (first | exact HR1.out | (with_reducible refine Kd.C_alloc ?_ _) | (with_reducible refine Kd.C_drewN ?_ _) | (with_reducible refine Kd.C_drew ?_)));(case side4 => exact HC1.out);rintro e w8 ⟨rfl,hb⟩;refine ⟨_,rfl,?_⟩;have n0_:=Aside0.mk (below_step (by repeat (first | (with_reducible first | exact HB.out | apply b0_ | apply b1_ | apply b2_) | exact HB.out)) hb);clear HB;have HB:=n0_;clear n0_) | ((with_reducible refine gate_callee (f:=65) rfl ?_);refine goesL_ (some 18) rfl rfl Try.func65 (by kernel_rfl) rfl #[.slice A0 l0.length c0,.slice A1 l1.length c1] rfl (by (try simp only [z3_,z4_,z5_]);first | done | rfl | (simp only [z6_,z7_];rfl)) ?_;(with_reducible refine (estoversref39_Leaving.calls k _ _ l0 _ _ l1 t342 _ ?side1 ?side2 ?side3 ?side4 A7.out).mono ?_);(case side1 => repeat (first | exact (Kd.C_below HR0.out HB.out) | (with_reducible refine Kd.C_alloc ?_ _) | (with_reducible refine Kd.C_drewN ?_ _) | (with_reducible refine Kd.C_drew ?_)));(case side2 => exact HC0.out);(case side3 => repeat (first | exact (Kd.C_below HR1.out HB.out) | (with_reducible refine Kd.C_alloc ?_ _) | (with_reducible refine Kd.C_drewN ?_ _) | (with_reducible refine Kd.C_drew ?_)));(case side4 => exact HC1.out);rintro e w9 ⟨v343,rfl,ho0,hb⟩;refine ⟨_,rfl,?_⟩;have n0_:=Aside0.mk (Kd.R_lower ho0 (below_size (by repeat (first | (with_reducible first | exact HB.out | apply b0_ | apply b1_ | apply b2_) | exact HB.out))));have n1_:=Aside0.mk (below_step (by repeat (first | (with_reducible first | exact HB.out | apply b0_ | apply b1_ | apply b2_) | exact HB.out)) hb);clear HB;have HO344:=n0_;have HB:=n1_;clear n0_ n1_;(try clear ho0)))
 go_loopg [10] k (fun kq v10 w' => ∃ (x10_1 : Int),v10 = .int .i64 x10_1∧Aside0 (estoversref39_Transit.l0 kq l0 l1 a2 a3 t342 x10_1 = some r)∧Aside0 (kq≤k)∧Aside0 (Kd.R (Kd.int .i64) 3 w' w.heap.size (fun _ => True) v343 t342)∧Aside0 (Below w.heap.size w w'))
 case atStart => exact ⟨(0),(by first | rfl | (simp;done) | (simp [*];done)),H',⟨Nat.le_refl _⟩,⟨by (with_reducible repeat (first | apply Kd.R_alloc | apply Kd.R_drewN | apply Kd.R_drew));exact HO344.out⟩,⟨by repeat (first | (with_reducible first | exact HB.out | apply b0_ | apply b1_ | apply b2_) | exact HB.out)⟩⟩
 case round =>
  clear H';obtain ⟨x10_1,rfl,HA,HK1,HO_9,HB⟩:=hrel
  cases gk with
   | zero => exact absurd HA.out (by simp [estoversref39_Transit.l0])
   | succ k1 =>
    have H:=HA.out;clear HA;simp only [estoversref39_Transit.l0] at H;by_cases c10 : x10_1 < (l0.length : Int)
    rotate_left
    · rw [if_neg c10] at H;have c10b0 : decide (x10_1 < (l0.length : Int)) = false:=decide_eq_false c10;clear c10;obtain rfl:=Option.some.inj H;go_wp2;go_ret;exact ⟨by first | rfl | (simp [errW_none,errW_some] <;> rfl) | (simp [*,errW_none,errW_some] <;> rfl),by repeat (first | (with_reducible first | exact HB.out | apply b0_ | apply b1_ | apply b2_) | exact HB.out)⟩
    rw [if_pos c10] at H;have c10b0 : decide (x10_1 < (l0.length : Int)) = true:=decide_eq_true c10;clear c10;by_cases c11 : 0≤x10_1
    rotate_left
    · rw [if_neg c11] at H;exact absurd H (by simp)
    rw [if_pos c11] at H;have c11b0 : decide (0≤x10_1) = true:=decide_eq_true c11;clear c11;replace H:=Option.bind_eq_some_iff.mp H;obtain ⟨t346,A120,H⟩:=H;replace H : (if t346 = 8 then (some true) else (estoversref39_Transit.l0 k1 l0 l1 a2 a3 t342 (wrap64 (x10_1 + 1)))) = some r:=H;have A12:=Aside0.mk A120;clear A120;by_cases c13 : t346 = 8
    rotate_left
    ·
     rw [if_neg c13] at H;have c13b0 : (t346 == 8) = false:=beq_eq_false_iff_ne.mpr c13;have c13b1 : (t346 != 8) = true:=bne_iff_ne.mpr c13;have H':=Aside0.mk H;clear H;have p345 : 0≤(x10_1 : Int):=of_decide_eq_true (by first | (with_reducible assumption) | assumption);have q345 : x10_1 < (l0.length : Int):=of_decide_eq_true (by first | (with_reducible assumption) | assumption)
     obtain ⟨ad345,e345,hx345_0,hx345_1,hx345_2,hx345_3,hx345_4,hx345_5,hx345_6⟩:=at_T34 HR0.out x10_1 p345 q345;cases e345;replace hx345_0:=(HB.out.cell (World.block_lt_of_cell? w _ hx345_0)).trans hx345_0;replace hx345_1:=(HB.out.cell (World.block_lt_of_cell? w _ hx345_1)).trans hx345_1;replace hx345_2:=(HB.out.cell (World.block_lt_of_cell? w _ hx345_2)).trans hx345_2
     replace hx345_3:=(HB.out.cell (World.block_lt_of_cell? w _ hx345_3)).trans hx345_3;replace hx345_4:=(HB.out.cell (World.block_lt_of_cell? w _ hx345_4)).trans hx345_4;replace hx345_5:=(HB.out.cell (World.block_lt_of_cell? w _ hx345_5)).trans hx345_5;replace hx345_6:=(HB.out.cell (World.block_lt_of_cell? w _ hx345_6)).trans hx345_6;replace p345:=eq_true p345
     replace q345:=eq_true q345;obtain ⟨Ao16,co16,eo16⟩:=Kd.R_slice HO_9.out;subst eo16
     go_wp2_with (first | ((with_reducible refine gate_callee (f:=64) rfl ?_);refine goesL_ (some 33) rfl rfl Try.func64 (by kernel_rfl) rfl #[.agg #[.int .i64 ((rd_T34 l0 x10_1).f0),.int .i64 ((rd_T34 l0 x10_1).f1),.int .i64 ((rd_T34 l0 x10_1).f2),.int .i64 ((rd_T34 l0 x10_1).f3),.int .i64 ((rd_T34 l0 x10_1).f4),.bool ((rd_T34 l0 x10_1).f5),.bool ((rd_T34 l0 x10_1).f6)],.slice A1 l1.length c1,.slice Ao16 t342.length co16,.int .i64 a2,.bool a3] rfl (by (try simp only [z3_,z4_,z5_]);first | done | rfl | (simp only [z6_,z7_];rfl)) ?_;(with_reducible refine (estoversref39_reason.calls k1 ((rd_T34 l0 x10_1).f0) ((rd_T34 l0 x10_1).f1) ((rd_T34 l0 x10_1).f2) ((rd_T34 l0 x10_1).f3) ((rd_T34 l0 x10_1).f4) ((rd_T34 l0 x10_1).f5) ((rd_T34 l0 x10_1).f6) _ _ l1 _ _ t342 a2 a3 t346 _ ?side1 ?side2 ?side3 ?side4 A12.out).mono ?_);(case side1 => repeat (first | exact (Kd.C_below HR1.out HB.out) | (with_reducible refine Kd.C_alloc ?_ _) | (with_reducible refine Kd.C_drewN ?_ _) | (with_reducible refine Kd.C_drew ?_)));(case side2 => exact HC1.out);(case side3 => repeat (first | exact (Kd.R_reads' HO_9.out).2.2 | (with_reducible refine Kd.C_alloc ?_ _) | (with_reducible refine Kd.C_drewN ?_ _) | (with_reducible refine Kd.C_drew ?_)));(case side4 => exact (Kd.R_reads' HO_9.out).2.1);rintro e w17 ⟨rfl,hb⟩;refine ⟨_,rfl,?_⟩;have n0_:=Aside0.mk (Kd.R_below (by (with_reducible repeat (first | apply Kd.R_alloc | apply Kd.R_drewN | apply Kd.R_drew));exact HO_9.out) hb);have n1_:=Aside0.mk (below_step (by repeat (first | (with_reducible first | exact HB.out | apply b0_ | apply b1_ | apply b2_) | exact HB.out)) hb);clear HO_9;clear HB;have HO_9:=n0_;have HB:=n1_;clear n0_ n1_))
     go_roundg k1
     case measure => have:=HK1.out;omega
     case rel => exact ⟨(wrap64 (x10_1 + 1)),(by first | rfl | (simp;done) | (simp [*];done)),H',⟨by have:=HK1.out;omega⟩,⟨by (with_reducible repeat (first | apply Kd.R_alloc | apply Kd.R_drewN | apply Kd.R_drew));exact HO_9.out⟩,⟨by repeat (first | (with_reducible first | exact HB.out | apply b0_ | apply b1_ | apply b2_) | exact HB.out)⟩⟩
    rw [if_pos c13] at H;have c13b0 : (t346 == 8) = true:=beq_iff_eq.mpr c13;have c13b1 : (t346 != 8) = false:=bne_eq_false_iff_eq.mpr c13;clear c13;obtain rfl:=Option.some.inj H;have p345 : 0≤(x10_1 : Int):=of_decide_eq_true (by first | (with_reducible assumption) | assumption)
    have q345 : x10_1 < (l0.length : Int):=of_decide_eq_true (by first | (with_reducible assumption) | assumption);obtain ⟨ad345,e345,hx345_0,hx345_1,hx345_2,hx345_3,hx345_4,hx345_5,hx345_6⟩:=at_T34 HR0.out x10_1 p345 q345;cases e345;replace hx345_0:=(HB.out.cell (World.block_lt_of_cell? w _ hx345_0)).trans hx345_0
    replace hx345_1:=(HB.out.cell (World.block_lt_of_cell? w _ hx345_1)).trans hx345_1;replace hx345_2:=(HB.out.cell (World.block_lt_of_cell? w _ hx345_2)).trans hx345_2;replace hx345_3:=(HB.out.cell (World.block_lt_of_cell? w _ hx345_3)).trans hx345_3;replace hx345_4:=(HB.out.cell (World.block_lt_of_cell? w _ hx345_4)).trans hx345_4
    replace hx345_5:=(HB.out.cell (World.block_lt_of_cell? w _ hx345_5)).trans hx345_5;replace hx345_6:=(HB.out.cell (World.block_lt_of_cell? w _ hx345_6)).trans hx345_6;replace p345:=eq_true p345;replace q345:=eq_true q345;obtain ⟨Ao14,co14,eo14⟩:=Kd.R_slice HO_9.out;subst eo14
    go_wp2_with (first | ((with_reducible refine gate_callee (f:=64) rfl ?_);refine goesL_ (some 33) rfl rfl Try.func64 (by kernel_rfl) rfl #[.agg #[.int .i64 ((rd_T34 l0 x10_1).f0),.int .i64 ((rd_T34 l0 x10_1).f1),.int .i64 ((rd_T34 l0 x10_1).f2),.int .i64 ((rd_T34 l0 x10_1).f3),.int .i64 ((rd_T34 l0 x10_1).f4),.bool ((rd_T34 l0 x10_1).f5),.bool ((rd_T34 l0 x10_1).f6)],.slice A1 l1.length c1,.slice Ao14 t342.length co14,.int .i64 a2,.bool a3] rfl (by (try simp only [z3_,z4_,z5_]);first | done | rfl | (simp only [z6_,z7_];rfl)) ?_;(with_reducible refine (estoversref39_reason.calls k1 ((rd_T34 l0 x10_1).f0) ((rd_T34 l0 x10_1).f1) ((rd_T34 l0 x10_1).f2) ((rd_T34 l0 x10_1).f3) ((rd_T34 l0 x10_1).f4) ((rd_T34 l0 x10_1).f5) ((rd_T34 l0 x10_1).f6) _ _ l1 _ _ t342 a2 a3 t346 _ ?side1 ?side2 ?side3 ?side4 A12.out).mono ?_);(case side1 => repeat (first | exact (Kd.C_below HR1.out HB.out) | (with_reducible refine Kd.C_alloc ?_ _) | (with_reducible refine Kd.C_drewN ?_ _) | (with_reducible refine Kd.C_drew ?_)));(case side2 => exact HC1.out);(case side3 => repeat (first | exact (Kd.R_reads' HO_9.out).2.2 | (with_reducible refine Kd.C_alloc ?_ _) | (with_reducible refine Kd.C_drewN ?_ _) | (with_reducible refine Kd.C_drew ?_)));(case side4 => exact (Kd.R_reads' HO_9.out).2.1);rintro e w15 ⟨rfl,hb⟩;refine ⟨_,rfl,?_⟩;have n0_:=Aside0.mk (Kd.R_below (by (with_reducible repeat (first | apply Kd.R_alloc | apply Kd.R_drewN | apply Kd.R_drew));exact HO_9.out) hb);have n1_:=Aside0.mk (below_step (by repeat (first | (with_reducible first | exact HB.out | apply b0_ | apply b1_ | apply b2_) | exact HB.out)) hb);clear HO_9;clear HB;have HO_9:=n0_;have HB:=n1_;clear n0_ n1_))
    go_ret;exact ⟨by first | rfl | (simp [errW_none,errW_some] <;> rfl) | (simp [*,errW_none,errW_some] <;> rfl),by repeat (first | (with_reducible first | exact HB.out | apply b0_ | apply b1_ | apply b2_) | exact HB.out)⟩
end Go.Proofs.Ytnmenfkmndnoaaa.Pr
