-- Written by a program of this session (a changed copy of the kit's printer). Not trusted: Lean checks it.
import Derived.Test.YtnmenfkmndnoaaaM0
import Derived.Test.YtnmenfkmndnoaaaFestoversref39Question
import Derived.Test.YtnmenfkmndnoaaaFestoversref39outside
namespace Go.Proofs.Ytnmenfkmndnoaaa.Pr
open Go.RowKit Go.Proofs.YtnmenfkmndnoaaaW.PrintWords Go.Proofs.YtnmenfkmndnoaaaW.PrintLast Go.Proofs.YtnmenfkmndnoaaaW.PrintMore
attribute [local go_sem] max2_int min2_int max_two min_two max_three min_three max_four min_four
set_option linter.unusedVariables false
set_option linter.unusedSimpArgs false
mutual
def estoversref39_Useful.l0 : Nat→List (S34)→List (S30)→Int→Bool→Int→Int→Option (Int)
 | 0,_,_,_,_,_,_ => none
 | k + 1,x0,x1,x2,x3,x9,x10 => if x10 < (x0.length : Int) then (if 0≤x10 then (if (rd_T34 x0 x10).f6 = true then ((estoversref39_outside.f k ((rd_T34 x0 x10).f0) ((rd_T34 x0 x10).f1) ((rd_T34 x0 x10).f2) ((rd_T34 x0 x10).f3) ((rd_T34 x0 x10).f4) ((rd_T34 x0 x10).f5) ((rd_T34 x0 x10).f6) x1 x2).bind fun t339 => (if t339 = true then (estoversref39_Useful.j1 k x0 x1 x2 x3 x9 x10 false) else (if x3 = true then (estoversref39_Useful.j1 k x0 x1 x2 x3 x9 x10 ((rd_T34 x0 x10).f5)) else (estoversref39_Useful.j1 k x0 x1 x2 x3 x9 x10 true)))) else (estoversref39_Useful.j1 k x0 x1 x2 x3 x9 x10 false)) else (none)) else (some x9)
def estoversref39_Useful.j1 : Nat→List (S34)→List (S30)→Int→Bool→Int→Int→Bool→Option (Int)
 | 0,_,_,_,_,_,_,_ => none
 | k + 1,x0,x1,x2,x3,x9,x10,x48 => if x48 = true then (estoversref39_Useful.l0 k x0 x1 x2 x3 (wrap64 (x9 + 1)) (wrap64 (x10 + 1))) else (estoversref39_Useful.l0 k x0 x1 x2 x3 x9 (wrap64 (x10 + 1)))
end
def estoversref39_Useful.f (k : Nat) (l0 : List (S34)) (l1 : List (S30)) (a2 : Int) (a3 : Bool) : Option (Int):=(estoversref39_Question.f k l0 l1 a2).bind fun t336 => (if t336 = true then (estoversref39_Useful.l0 k l0 l1 a2 a3 0 0) else (some 0))
theorem estoversref39_Useful.mono_l : ∀ k,(∀ y0 y1 y2 y3 y4 y5,LeO (estoversref39_Useful.l0 k y0 y1 y2 y3 y4 y5) (estoversref39_Useful.l0 (k + 1) y0 y1 y2 y3 y4 y5))∧(∀ y0 y1 y2 y3 y4 y5 y6,LeO (estoversref39_Useful.j1 k y0 y1 y2 y3 y4 y5 y6) (estoversref39_Useful.j1 (k + 1) y0 y1 y2 y3 y4 y5 y6))
 | 0 => ⟨fun _ _ _ _ _ _ r h => by simp [estoversref39_Useful.l0] at h,fun _ _ _ _ _ _ _ r h => by simp [estoversref39_Useful.j1] at h⟩
 | k + 1 => by
  obtain ⟨ih0,ih1⟩:=estoversref39_Useful.mono_l k;refine ⟨?_,?_⟩
  ·
   intro y0 y1 y2 y3 y4 y5
   unfold estoversref39_Useful.l0
   repeat' first
    | (with_reducible exact ih0 _ _ _ _ _ _)
    | (with_reducible exact ih1 _ _ _ _ _ _ _)
    | (with_reducible exact estoversref39_Question.mono _ _ _ _)
    | (with_reducible exact estoversref39_outside.mono _ _ _ _ _ _ _ _ _ _)
    | (with_reducible exact LeO.refl _)
    | (with_reducible exact LeO.none _)
    | (with_reducible refine LeO.ite ?_ ?_)
    | (with_reducible refine LeO.bind ?_ (fun _ => ?_))
    | exact ih0 _ _ _ _ _ _
    | exact ih1 _ _ _ _ _ _ _
    | exact estoversref39_Question.mono _ _ _ _
    | exact estoversref39_outside.mono _ _ _ _ _ _ _ _ _ _
    | exact LeO.none _
    | refine LeO.ite ?_ ?_
    | refine LeO.bind ?_ (fun _ => ?_)
  ·
   intro y0 y1 y2 y3 y4 y5 y6
   unfold estoversref39_Useful.j1
   repeat' first
    | (with_reducible exact ih0 _ _ _ _ _ _)
    | (with_reducible exact ih1 _ _ _ _ _ _ _)
    | (with_reducible exact estoversref39_Question.mono _ _ _ _)
    | (with_reducible exact estoversref39_outside.mono _ _ _ _ _ _ _ _ _ _)
    | (with_reducible exact LeO.refl _)
    | (with_reducible exact LeO.none _)
    | (with_reducible refine LeO.ite ?_ ?_)
    | (with_reducible refine LeO.bind ?_ (fun _ => ?_))
    | exact ih0 _ _ _ _ _ _
    | exact ih1 _ _ _ _ _ _ _
    | exact estoversref39_Question.mono _ _ _ _
    | exact estoversref39_outside.mono _ _ _ _ _ _ _ _ _ _
    | exact LeO.none _
    | refine LeO.ite ?_ ?_
    | refine LeO.bind ?_ (fun _ => ?_)
theorem estoversref39_Useful.mono : ∀ a0 a1 a2 a3 k,LeO (estoversref39_Useful.f k a0 a1 a2 a3) (estoversref39_Useful.f (k + 1) a0 a1 a2 a3):=by
 intro a0 a1 a2 a3 k;obtain ⟨ih0,ih1⟩:=estoversref39_Useful.mono_l k
 unfold estoversref39_Useful.f
 repeat' first
  | (with_reducible exact ih0 _ _ _ _ _ _)
  | (with_reducible exact ih1 _ _ _ _ _ _ _)
  | (with_reducible exact estoversref39_Question.mono _ _ _ _)
  | (with_reducible exact estoversref39_outside.mono _ _ _ _ _ _ _ _ _ _)
  | (with_reducible exact LeO.refl _)
  | (with_reducible exact LeO.none _)
  | (with_reducible refine LeO.ite ?_ ?_)
  | (with_reducible refine LeO.bind ?_ (fun _ => ?_))
  | exact ih0 _ _ _ _ _ _
  | exact ih1 _ _ _ _ _ _ _
  | exact estoversref39_Question.mono _ _ _ _
  | exact estoversref39_outside.mono _ _ _ _ _ _ _ _ _ _
  | exact LeO.none _
  | refine LeO.ite ?_ ?_
  | refine LeO.bind ?_ (fun _ => ?_)
set_option maxHeartbeats 8000000 in
set_option maxRecDepth 100000 in
theorem estoversref39_Useful.calls (k : Nat) (A0 : Option Addr) (c0 : Nat) (l0 : List (S34)) (A1 : Option Addr) (c1 : Nat) (l1 : List (S30)) (a2 : Int) (a3 : Bool) (r : Int) (w : World) (hr0 : Kd.C k34 w A0 l0.length l0) (hc0 : l0.length≤c0) (hr1 : Kd.C k30 w A1 l1.length l1) (hc1 : l1.length≤c1) (h : estoversref39_Useful.f k l0 l1 a2 a3 = some r) :
 Calls Try.prog 39 #[.slice A0 l0.length c0,.slice A1 l1.length c1,.int .i64 a2,.bool a3] w fun e w' => e = .returned (.int .i64 r)∧Below w.heap.size w w':=by
 have hu34:=Try.underlying34;have HR0:=Aside0.mk hr0;have HC0:=Aside0.mk hc0;clear hr0 hc0;have HR1:=Aside0.mk hr1;have HC1:=Aside0.mk hc1;clear hr1 hc1;have HB:=Aside0.mk (Below.refl w.heap.size w);have H : ((estoversref39_Question.f k l0 l1 a2).bind fun t336 => (if t336 = true then (estoversref39_Useful.l0 k l0 l1 a2 a3 0 0) else (some 0))) = some r:=h;clear h
 replace H:=Option.bind_eq_some_iff.mp H;obtain ⟨t336,A50,H⟩:=H;replace H : (if t336 = true then (estoversref39_Useful.l0 k l0 l1 a2 a3 0 0) else (some 0)) = some r:=H;have A5:=Aside0.mk A50;clear A50;by_cases c6 : t336 = true
 rotate_left
 ·
  replace c6:=Bool.eq_false_iff.mpr c6;subst c6
  have H1 : (some 0) = some r:=by rw [if_neg (show ¬ (false = true) by decide)] at H;exact H
  clear H;have H:=H1;clear H1;obtain rfl:=Option.some.inj H
  go_enter Try.func39,Try.ntmps39
  go_wp2_with (first | ((with_reducible refine gate_callee (f:=63) rfl ?_);refine goesL_ (some 14) rfl rfl Try.func63 (by kernel_rfl) rfl #[.slice A0 l0.length c0,.slice A1 l1.length c1,.int .i64 a2] rfl (by (try simp only [z3_,z4_,z5_]);first | done | rfl | (simp only [z6_,z7_];rfl)) ?_;(with_reducible refine (estoversref39_Question.calls k _ _ l0 _ _ l1 a2 false _ ?side1 ?side2 ?side3 ?side4 A5.out).mono ?_);(case side1 => repeat (first | exact HR0.out | (with_reducible refine Kd.C_alloc ?_ _) | (with_reducible refine Kd.C_drewN ?_ _) | (with_reducible refine Kd.C_drew ?_)));(case side2 => exact HC0.out);(case side3 => repeat (first | exact HR1.out | (with_reducible refine Kd.C_alloc ?_ _) | (with_reducible refine Kd.C_drewN ?_ _) | (with_reducible refine Kd.C_drew ?_)));(case side4 => exact HC1.out);rintro e w20 ⟨rfl,hb⟩;refine ⟨_,rfl,?_⟩;have n0_:=Aside0.mk (below_step (by repeat (first | (with_reducible first | exact HB.out | apply b0_ | apply b1_ | apply b2_) | exact HB.out)) hb);clear HB;have HB:=n0_;clear n0_))
  go_ret;exact ⟨by first | rfl | (simp [errW_none,errW_some] <;> rfl) | (simp [*,errW_none,errW_some] <;> rfl),by repeat (first | (with_reducible first | exact HB.out | apply b0_ | apply b1_ | apply b2_) | exact HB.out)⟩
 subst c6
 have H1 : (estoversref39_Useful.l0 k l0 l1 a2 a3 0 0) = some r:=by rw [if_pos rfl] at H;exact H
 clear H;have H:=H1;clear H1;have H':=Aside0.mk H;clear H
 go_enter Try.func39,Try.ntmps39
 go_wp2_with (first | ((with_reducible refine gate_callee (f:=63) rfl ?_);refine goesL_ (some 14) rfl rfl Try.func63 (by kernel_rfl) rfl #[.slice A0 l0.length c0,.slice A1 l1.length c1,.int .i64 a2] rfl (by (try simp only [z3_,z4_,z5_]);first | done | rfl | (simp only [z6_,z7_];rfl)) ?_;(with_reducible refine (estoversref39_Question.calls k _ _ l0 _ _ l1 a2 true _ ?side1 ?side2 ?side3 ?side4 A5.out).mono ?_);(case side1 => repeat (first | exact HR0.out | (with_reducible refine Kd.C_alloc ?_ _) | (with_reducible refine Kd.C_drewN ?_ _) | (with_reducible refine Kd.C_drew ?_)));(case side2 => exact HC0.out);(case side3 => repeat (first | exact HR1.out | (with_reducible refine Kd.C_alloc ?_ _) | (with_reducible refine Kd.C_drewN ?_ _) | (with_reducible refine Kd.C_drew ?_)));(case side4 => exact HC1.out);rintro e w7 ⟨rfl,hb⟩;refine ⟨_,rfl,?_⟩;have n0_:=Aside0.mk (below_step (by repeat (first | (with_reducible first | exact HB.out | apply b0_ | apply b1_ | apply b2_) | exact HB.out)) hb);clear HB;have HB:=n0_;clear n0_))
 go_loopg [9,10] k (fun kq v9 v10 w' => ∃ (x9_1 : Int) (x10_1 : Int),v9 = .int .i64 x9_1∧v10 = .int .i64 x10_1∧Aside0 (estoversref39_Useful.l0 kq l0 l1 a2 a3 x9_1 x10_1 = some r)∧Aside0 (kq≤k)∧Aside0 (Below w.heap.size w w'))
 case atStart => exact ⟨(0),(0),(by first | rfl | (simp;done) | (simp [*];done)),(by first | rfl | (simp;done) | (simp [*];done)),H',⟨Nat.le_refl _⟩,⟨by repeat (first | (with_reducible first | exact HB.out | apply b0_ | apply b1_ | apply b2_) | exact HB.out)⟩⟩
 case round =>
  clear H';obtain ⟨x9_1,x10_1,rfl,rfl,HA,HK1,HB⟩:=hrel
  cases gk with
   | zero => exact absurd HA.out (by simp [estoversref39_Useful.l0])
   | succ k1 =>
    have H:=HA.out;clear HA;simp only [estoversref39_Useful.l0] at H;by_cases c8 : x10_1 < (l0.length : Int)
    rotate_left
    · rw [if_neg c8] at H;have c8b0 : decide (x10_1 < (l0.length : Int)) = false:=decide_eq_false c8;clear c8;obtain rfl:=Option.some.inj H;go_wp2;go_ret;exact ⟨by first | rfl | (simp [errW_none,errW_some] <;> rfl) | (simp [*,errW_none,errW_some] <;> rfl),by repeat (first | (with_reducible first | exact HB.out | apply b0_ | apply b1_ | apply b2_) | exact HB.out)⟩
    rw [if_pos c8] at H;have c8b0 : decide (x10_1 < (l0.length : Int)) = true:=decide_eq_true c8;clear c8;have HC9:=Aside0.mk H;clear H
    go_upto_region 7 with (fail)
    go_cut [48] (fun v48 wc => ∃ (kq : Nat) (x48_8 : Bool),v48 = .bool x48_8∧Aside0 (estoversref39_Useful.j1 kq l0 l1 a2 a3 x9_1 x10_1 x48_8 = some r)∧Aside0 (kq≤k1)∧Aside0 (Below w.heap.size w wc))
    case first =>
     have H:=HC9.out;clear HC9;by_cases c10 : 0≤x10_1
     rotate_left
     · rw [if_neg c10] at H;exact absurd H (by simp)
     rw [if_pos c10] at H;have c10b0 : decide (0≤x10_1) = true:=decide_eq_true c10;clear c10
     (first | rw [c10b0] | (simp only [i64_w,i32_w];rw [c10b0]) | skip)
     obtain ⟨bq11,hbq11⟩ : ∃ b_ : Bool,b_ = ((rd_T34 l0 x10_1).f6):=⟨_,rfl⟩
     replace H : (if bq11 = true then ((estoversref39_outside.f k1 ((rd_T34 l0 x10_1).f0) ((rd_T34 l0 x10_1).f1) ((rd_T34 l0 x10_1).f2) ((rd_T34 l0 x10_1).f3) ((rd_T34 l0 x10_1).f4) ((rd_T34 l0 x10_1).f5) (bq11) l1 a2).bind fun t339 => (if t339 = true then (estoversref39_Useful.j1 k1 l0 l1 a2 a3 x9_1 x10_1 false) else (if a3 = true then (estoversref39_Useful.j1 k1 l0 l1 a2 a3 x9_1 x10_1 ((rd_T34 l0 x10_1).f5)) else (estoversref39_Useful.j1 k1 l0 l1 a2 a3 x9_1 x10_1 true)))) else (estoversref39_Useful.j1 k1 l0 l1 a2 a3 x9_1 x10_1 false)) = some r:=by rw [← hbq11] at H;exact H
     have Nbq11:=Aside0.mk hbq11;clear hbq11;by_cases c12 : bq11 = true
     rotate_left
     ·
      replace c12:=Bool.eq_false_iff.mpr c12;subst c12
      have H1 : (estoversref39_Useful.j1 k1 l0 l1 a2 a3 x9_1 x10_1 false) = some r:=by rw [if_neg (show ¬ (false = true) by decide)] at H;exact H
      clear H;have H:=H1;clear H1;have H':=Aside0.mk H;clear H;have p337 : 0≤(x10_1 : Int):=of_decide_eq_true (by first | (with_reducible assumption) | assumption);have q337 : x10_1 < (l0.length : Int):=of_decide_eq_true (by first | (with_reducible assumption) | assumption)
      obtain ⟨ad337,e337,hx337_0,hx337_1,hx337_2,hx337_3,hx337_4,hx337_5,hx337_6⟩:=at_T34 HR0.out x10_1 p337 q337
      (try rw [← Nbq11.out] at hx337_5)
      (try rw [← Nbq11.out] at hx337_6)
      cases e337;replace hx337_0:=(HB.out.cell (World.block_lt_of_cell? w _ hx337_0)).trans hx337_0;replace hx337_1:=(HB.out.cell (World.block_lt_of_cell? w _ hx337_1)).trans hx337_1;replace hx337_2:=(HB.out.cell (World.block_lt_of_cell? w _ hx337_2)).trans hx337_2;replace hx337_3:=(HB.out.cell (World.block_lt_of_cell? w _ hx337_3)).trans hx337_3
      replace hx337_4:=(HB.out.cell (World.block_lt_of_cell? w _ hx337_4)).trans hx337_4;replace hx337_5:=(HB.out.cell (World.block_lt_of_cell? w _ hx337_5)).trans hx337_5;replace hx337_6:=(HB.out.cell (World.block_lt_of_cell? w _ hx337_6)).trans hx337_6;replace p337:=eq_true p337;replace q337:=eq_true q337;go_wp2
      go_meet
      case rel => exact ⟨_,(false),(by first | rfl | (simp;done) | (simp [*];done)),H',⟨by have:=HK1.out;first | omega | exact Nat.le_refl _⟩,⟨by repeat (first | (with_reducible first | exact HB.out | apply b0_ | apply b1_ | apply b2_) | exact HB.out)⟩⟩
     subst c12
     have H1 : ((estoversref39_outside.f k1 ((rd_T34 l0 x10_1).f0) ((rd_T34 l0 x10_1).f1) ((rd_T34 l0 x10_1).f2) ((rd_T34 l0 x10_1).f3) ((rd_T34 l0 x10_1).f4) ((rd_T34 l0 x10_1).f5) (true) l1 a2).bind fun t339 => (if t339 = true then (estoversref39_Useful.j1 k1 l0 l1 a2 a3 x9_1 x10_1 false) else (if a3 = true then (estoversref39_Useful.j1 k1 l0 l1 a2 a3 x9_1 x10_1 ((rd_T34 l0 x10_1).f5)) else (estoversref39_Useful.j1 k1 l0 l1 a2 a3 x9_1 x10_1 true)))) = some r:=by rw [if_pos rfl] at H;exact H
     clear H;have H:=H1;clear H1;replace H:=Option.bind_eq_some_iff.mp H;obtain ⟨t339,A130,H⟩:=H;replace H : (if t339 = true then (estoversref39_Useful.j1 k1 l0 l1 a2 a3 x9_1 x10_1 false) else (if a3 = true then (estoversref39_Useful.j1 k1 l0 l1 a2 a3 x9_1 x10_1 ((rd_T34 l0 x10_1).f5)) else (estoversref39_Useful.j1 k1 l0 l1 a2 a3 x9_1 x10_1 true))) = some r:=H;have A13:=Aside0.mk A130
     clear A130;by_cases c14 : t339 = true
     rotate_left
     ·
      replace c14:=Bool.eq_false_iff.mpr c14;subst c14
      have H1 : (if a3 = true then (estoversref39_Useful.j1 k1 l0 l1 a2 a3 x9_1 x10_1 ((rd_T34 l0 x10_1).f5)) else (estoversref39_Useful.j1 k1 l0 l1 a2 a3 x9_1 x10_1 true)) = some r:=by rw [if_neg (show ¬ (false = true) by decide)] at H;exact H
      clear H;have H:=H1;clear H1;by_cases c16 : a3 = true
      rotate_left
      ·
       replace c16:=Bool.eq_false_iff.mpr c16;subst c16
       have H1 : (estoversref39_Useful.j1 k1 l0 l1 a2 false x9_1 x10_1 true) = some r:=by rw [if_neg (show ¬ (false = true) by decide)] at H;exact H
       clear H;have H:=H1;clear H1;have H':=Aside0.mk H;clear H;have p337 : 0≤(x10_1 : Int):=of_decide_eq_true (by first | (with_reducible assumption) | assumption);have q337 : x10_1 < (l0.length : Int):=of_decide_eq_true (by first | (with_reducible assumption) | assumption)
       obtain ⟨ad337,e337,hx337_0,hx337_1,hx337_2,hx337_3,hx337_4,hx337_5,hx337_6⟩:=at_T34 HR0.out x10_1 p337 q337
       (try rw [← Nbq11.out] at hx337_5)
       (try rw [← Nbq11.out] at hx337_6)
       cases e337;replace hx337_0:=(HB.out.cell (World.block_lt_of_cell? w _ hx337_0)).trans hx337_0;replace hx337_1:=(HB.out.cell (World.block_lt_of_cell? w _ hx337_1)).trans hx337_1;replace hx337_2:=(HB.out.cell (World.block_lt_of_cell? w _ hx337_2)).trans hx337_2;replace hx337_3:=(HB.out.cell (World.block_lt_of_cell? w _ hx337_3)).trans hx337_3
       replace hx337_4:=(HB.out.cell (World.block_lt_of_cell? w _ hx337_4)).trans hx337_4;replace hx337_5:=(HB.out.cell (World.block_lt_of_cell? w _ hx337_5)).trans hx337_5;replace hx337_6:=(HB.out.cell (World.block_lt_of_cell? w _ hx337_6)).trans hx337_6;replace p337:=eq_true p337;replace q337:=eq_true q337
       have p338 : 0≤(x10_1 : Int):=of_decide_eq_true (by first | (with_reducible assumption) | assumption);have q338 : x10_1 < (l0.length : Int):=of_decide_eq_true (by first | (with_reducible assumption) | assumption);obtain ⟨ad338,e338,hx338_0,hx338_1,hx338_2,hx338_3,hx338_4,hx338_5,hx338_6⟩:=at_T34 HR0.out x10_1 p338 q338
       (try rw [← Nbq11.out] at hx338_5)
       (try rw [← Nbq11.out] at hx338_6)
       obtain rfl : ad337 = ad338:=(by injection e338);replace hx338_0:=(HB.out.cell (World.block_lt_of_cell? w _ hx338_0)).trans hx338_0;replace hx338_1:=(HB.out.cell (World.block_lt_of_cell? w _ hx338_1)).trans hx338_1;replace hx338_2:=(HB.out.cell (World.block_lt_of_cell? w _ hx338_2)).trans hx338_2;replace hx338_3:=(HB.out.cell (World.block_lt_of_cell? w _ hx338_3)).trans hx338_3
       replace hx338_4:=(HB.out.cell (World.block_lt_of_cell? w _ hx338_4)).trans hx338_4;replace hx338_5:=(HB.out.cell (World.block_lt_of_cell? w _ hx338_5)).trans hx338_5;replace hx338_6:=(HB.out.cell (World.block_lt_of_cell? w _ hx338_6)).trans hx338_6;replace p338:=eq_true p338;replace q338:=eq_true q338
       go_wp2_with (first | (go_at_call 67;(with_reducible refine (estoversref39_outside.calls k1 ((rd_T34 l0 x10_1).f0) ((rd_T34 l0 x10_1).f1) ((rd_T34 l0 x10_1).f2) ((rd_T34 l0 x10_1).f3) ((rd_T34 l0 x10_1).f4) ((rd_T34 l0 x10_1).f5) true _ _ l1 a2 false _ ?side1 ?side2 A13.out).mono ?_);(case side1 => repeat (first | exact (Kd.C_below HR1.out HB.out) | (with_reducible refine Kd.C_alloc ?_ _) | (with_reducible refine Kd.C_drewN ?_ _) | (with_reducible refine Kd.C_drew ?_)));(case side2 => exact HC1.out);rintro e w18 ⟨rfl,hb⟩;have n0_:=Aside0.mk (below_step (by repeat (first | (with_reducible first | exact HB.out | apply b0_ | apply b1_ | apply b2_) | exact HB.out)) hb);clear HB;have HB:=n0_;clear n0_))
       go_meet
       case rel => exact ⟨_,(true),(by first | rfl | (simp;done) | (simp [*];done)),H',⟨by have:=HK1.out;first | omega | exact Nat.le_refl _⟩,⟨by repeat (first | (with_reducible first | exact HB.out | apply b0_ | apply b1_ | apply b2_) | exact HB.out)⟩⟩
      subst c16
      have H1 : (estoversref39_Useful.j1 k1 l0 l1 a2 true x9_1 x10_1 ((rd_T34 l0 x10_1).f5)) = some r:=by rw [if_pos rfl] at H;exact H
      clear H;have H:=H1;clear H1;have H':=Aside0.mk H;clear H;have p337 : 0≤(x10_1 : Int):=of_decide_eq_true (by first | (with_reducible assumption) | assumption);have q337 : x10_1 < (l0.length : Int):=of_decide_eq_true (by first | (with_reducible assumption) | assumption)
      obtain ⟨ad337,e337,hx337_0,hx337_1,hx337_2,hx337_3,hx337_4,hx337_5,hx337_6⟩:=at_T34 HR0.out x10_1 p337 q337
      (try rw [← Nbq11.out] at hx337_5)
      (try rw [← Nbq11.out] at hx337_6)
      cases e337;replace hx337_0:=(HB.out.cell (World.block_lt_of_cell? w _ hx337_0)).trans hx337_0;replace hx337_1:=(HB.out.cell (World.block_lt_of_cell? w _ hx337_1)).trans hx337_1;replace hx337_2:=(HB.out.cell (World.block_lt_of_cell? w _ hx337_2)).trans hx337_2;replace hx337_3:=(HB.out.cell (World.block_lt_of_cell? w _ hx337_3)).trans hx337_3
      replace hx337_4:=(HB.out.cell (World.block_lt_of_cell? w _ hx337_4)).trans hx337_4;replace hx337_5:=(HB.out.cell (World.block_lt_of_cell? w _ hx337_5)).trans hx337_5;replace hx337_6:=(HB.out.cell (World.block_lt_of_cell? w _ hx337_6)).trans hx337_6;replace p337:=eq_true p337;replace q337:=eq_true q337
      have p338 : 0≤(x10_1 : Int):=of_decide_eq_true (by first | (with_reducible assumption) | assumption);have q338 : x10_1 < (l0.length : Int):=of_decide_eq_true (by first | (with_reducible assumption) | assumption);obtain ⟨ad338,e338,hx338_0,hx338_1,hx338_2,hx338_3,hx338_4,hx338_5,hx338_6⟩:=at_T34 HR0.out x10_1 p338 q338
      (try rw [← Nbq11.out] at hx338_5)
      (try rw [← Nbq11.out] at hx338_6)
      obtain rfl : ad337 = ad338:=(by injection e338);replace hx338_0:=(HB.out.cell (World.block_lt_of_cell? w _ hx338_0)).trans hx338_0;replace hx338_1:=(HB.out.cell (World.block_lt_of_cell? w _ hx338_1)).trans hx338_1;replace hx338_2:=(HB.out.cell (World.block_lt_of_cell? w _ hx338_2)).trans hx338_2;replace hx338_3:=(HB.out.cell (World.block_lt_of_cell? w _ hx338_3)).trans hx338_3
      replace hx338_4:=(HB.out.cell (World.block_lt_of_cell? w _ hx338_4)).trans hx338_4;replace hx338_5:=(HB.out.cell (World.block_lt_of_cell? w _ hx338_5)).trans hx338_5;replace hx338_6:=(HB.out.cell (World.block_lt_of_cell? w _ hx338_6)).trans hx338_6;replace p338:=eq_true p338;replace q338:=eq_true q338
      go_wp2_with (first | (go_at_call 67;(with_reducible refine (estoversref39_outside.calls k1 ((rd_T34 l0 x10_1).f0) ((rd_T34 l0 x10_1).f1) ((rd_T34 l0 x10_1).f2) ((rd_T34 l0 x10_1).f3) ((rd_T34 l0 x10_1).f4) ((rd_T34 l0 x10_1).f5) true _ _ l1 a2 false _ ?side1 ?side2 A13.out).mono ?_);(case side1 => repeat (first | exact (Kd.C_below HR1.out HB.out) | (with_reducible refine Kd.C_alloc ?_ _) | (with_reducible refine Kd.C_drewN ?_ _) | (with_reducible refine Kd.C_drew ?_)));(case side2 => exact HC1.out);rintro e w17 ⟨rfl,hb⟩;have n0_:=Aside0.mk (below_step (by repeat (first | (with_reducible first | exact HB.out | apply b0_ | apply b1_ | apply b2_) | exact HB.out)) hb);clear HB;have HB:=n0_;clear n0_;have p340 : 0≤(x10_1 : Int):=of_decide_eq_true (by first | (with_reducible assumption) | assumption);have q340 : x10_1 < (l0.length : Int):=of_decide_eq_true (by first | (with_reducible assumption) | assumption);obtain ⟨ad340,e340,hx340_0,hx340_1,hx340_2,hx340_3,hx340_4,hx340_5,hx340_6⟩:=at_T34 HR0.out x10_1 p340 q340;(try rw [← Nbq11.out] at hx340_5);(try rw [← Nbq11.out] at hx340_6);obtain rfl : ad337 = ad340:=(by injection e340);replace hx340_0:=(HB.out.cell (World.block_lt_of_cell? w _ hx340_0)).trans hx340_0;replace hx340_1:=(HB.out.cell (World.block_lt_of_cell? w _ hx340_1)).trans hx340_1;replace hx340_2:=(HB.out.cell (World.block_lt_of_cell? w _ hx340_2)).trans hx340_2;replace hx340_3:=(HB.out.cell (World.block_lt_of_cell? w _ hx340_3)).trans hx340_3;replace hx340_4:=(HB.out.cell (World.block_lt_of_cell? w _ hx340_4)).trans hx340_4;replace hx340_5:=(HB.out.cell (World.block_lt_of_cell? w _ hx340_5)).trans hx340_5;replace hx340_6:=(HB.out.cell (World.block_lt_of_cell? w _ hx340_6)).trans hx340_6;replace p340:=eq_true p340;replace q340:=eq_true q340))
      go_meet
      case rel => exact ⟨_,((rd_T34 l0 x10_1).f5),(by first | rfl | (simp;done) | (simp [*];done)),H',⟨by have:=HK1.out;first | omega | exact Nat.le_refl _⟩,⟨by repeat (first | (with_reducible first | exact HB.out | apply b0_ | apply b1_ | apply b2_) | exact HB.out)⟩⟩
     subst c14
     have H1 : (estoversref39_Useful.j1 k1 l0 l1 a2 a3 x9_1 x10_1 false) = some r:=by rw [if_pos rfl] at H;exact H
     clear H;have H:=H1;clear H1;have H':=Aside0.mk H;clear H;have p337 : 0≤(x10_1 : Int):=of_decide_eq_true (by first | (with_reducible assumption) | assumption);have q337 : x10_1 < (l0.length : Int):=of_decide_eq_true (by first | (with_reducible assumption) | assumption)
     obtain ⟨ad337,e337,hx337_0,hx337_1,hx337_2,hx337_3,hx337_4,hx337_5,hx337_6⟩:=at_T34 HR0.out x10_1 p337 q337
     (try rw [← Nbq11.out] at hx337_5)
     (try rw [← Nbq11.out] at hx337_6)
     cases e337;replace hx337_0:=(HB.out.cell (World.block_lt_of_cell? w _ hx337_0)).trans hx337_0;replace hx337_1:=(HB.out.cell (World.block_lt_of_cell? w _ hx337_1)).trans hx337_1;replace hx337_2:=(HB.out.cell (World.block_lt_of_cell? w _ hx337_2)).trans hx337_2;replace hx337_3:=(HB.out.cell (World.block_lt_of_cell? w _ hx337_3)).trans hx337_3
     replace hx337_4:=(HB.out.cell (World.block_lt_of_cell? w _ hx337_4)).trans hx337_4;replace hx337_5:=(HB.out.cell (World.block_lt_of_cell? w _ hx337_5)).trans hx337_5;replace hx337_6:=(HB.out.cell (World.block_lt_of_cell? w _ hx337_6)).trans hx337_6;replace p337:=eq_true p337;replace q337:=eq_true q337
     have p338 : 0≤(x10_1 : Int):=of_decide_eq_true (by first | (with_reducible assumption) | assumption);have q338 : x10_1 < (l0.length : Int):=of_decide_eq_true (by first | (with_reducible assumption) | assumption);obtain ⟨ad338,e338,hx338_0,hx338_1,hx338_2,hx338_3,hx338_4,hx338_5,hx338_6⟩:=at_T34 HR0.out x10_1 p338 q338
     (try rw [← Nbq11.out] at hx338_5)
     (try rw [← Nbq11.out] at hx338_6)
     obtain rfl : ad337 = ad338:=(by injection e338);replace hx338_0:=(HB.out.cell (World.block_lt_of_cell? w _ hx338_0)).trans hx338_0;replace hx338_1:=(HB.out.cell (World.block_lt_of_cell? w _ hx338_1)).trans hx338_1;replace hx338_2:=(HB.out.cell (World.block_lt_of_cell? w _ hx338_2)).trans hx338_2;replace hx338_3:=(HB.out.cell (World.block_lt_of_cell? w _ hx338_3)).trans hx338_3
     replace hx338_4:=(HB.out.cell (World.block_lt_of_cell? w _ hx338_4)).trans hx338_4;replace hx338_5:=(HB.out.cell (World.block_lt_of_cell? w _ hx338_5)).trans hx338_5;replace hx338_6:=(HB.out.cell (World.block_lt_of_cell? w _ hx338_6)).trans hx338_6;replace p338:=eq_true p338;replace q338:=eq_true q338
     go_wp2_with (first | (go_at_call 67;(with_reducible refine (estoversref39_outside.calls k1 ((rd_T34 l0 x10_1).f0) ((rd_T34 l0 x10_1).f1) ((rd_T34 l0 x10_1).f2) ((rd_T34 l0 x10_1).f3) ((rd_T34 l0 x10_1).f4) ((rd_T34 l0 x10_1).f5) true _ _ l1 a2 true _ ?side1 ?side2 A13.out).mono ?_);(case side1 => repeat (first | exact (Kd.C_below HR1.out HB.out) | (with_reducible refine Kd.C_alloc ?_ _) | (with_reducible refine Kd.C_drewN ?_ _) | (with_reducible refine Kd.C_drew ?_)));(case side2 => exact HC1.out);rintro e w15 ⟨rfl,hb⟩;have n0_:=Aside0.mk (below_step (by repeat (first | (with_reducible first | exact HB.out | apply b0_ | apply b1_ | apply b2_) | exact HB.out)) hb);clear HB;have HB:=n0_;clear n0_))
     go_meet
     case rel => exact ⟨_,(false),(by first | rfl | (simp;done) | (simp [*];done)),H',⟨by have:=HK1.out;first | omega | exact Nat.le_refl _⟩,⟨by repeat (first | (with_reducible first | exact HB.out | apply b0_ | apply b1_ | apply b2_) | exact HB.out)⟩⟩
    case rest =>
     clear HC9;obtain ⟨kq,x48_8,rfl,HA,HJ8,HB⟩:=hcut
     cases kq with
      | zero => exact absurd HA.out (by simp [estoversref39_Useful.j1])
      | succ kj8 =>
       have H:=HA.out;clear HA;simp only [estoversref39_Useful.j1] at H;by_cases c19 : x48_8 = true
       rotate_left
       ·
        replace c19:=Bool.eq_false_iff.mpr c19;subst c19
        have H1 : (estoversref39_Useful.l0 kj8 l0 l1 a2 a3 x9_1 (wrap64 (x10_1 + 1))) = some r:=by rw [if_neg (show ¬ (false = true) by decide)] at H;exact H
        clear H;have H:=H1;clear H1;have H':=Aside0.mk H;clear H;go_wp2
        go_roundg kj8
        case measure => have:=HK1.out;have:=HJ8.out;omega
        case rel => exact ⟨(x9_1),(wrap64 (x10_1 + 1)),(by first | rfl | (simp;done) | (simp [*];done)),(by first | rfl | (simp;done) | (simp [*];done)),H',⟨by have:=HK1.out;have:=HJ8.out;omega⟩,⟨by repeat (first | (with_reducible first | exact HB.out | apply b0_ | apply b1_ | apply b2_) | exact HB.out)⟩⟩
       subst c19
       have H1 : (estoversref39_Useful.l0 kj8 l0 l1 a2 a3 (wrap64 (x9_1 + 1)) (wrap64 (x10_1 + 1))) = some r:=by rw [if_pos rfl] at H;exact H
       clear H;have H:=H1;clear H1;have H':=Aside0.mk H;clear H;go_wp2
       go_roundg kj8
       case measure => have:=HK1.out;have:=HJ8.out;omega
       case rel => exact ⟨(wrap64 (x9_1 + 1)),(wrap64 (x10_1 + 1)),(by first | rfl | (simp;done) | (simp [*];done)),(by first | rfl | (simp;done) | (simp [*];done)),H',⟨by have:=HK1.out;have:=HJ8.out;omega⟩,⟨by repeat (first | (with_reducible first | exact HB.out | apply b0_ | apply b1_ | apply b2_) | exact HB.out)⟩⟩
end Go.Proofs.Ytnmenfkmndnoaaa.Pr
