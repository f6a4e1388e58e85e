-- Written by a program of this session (a changed copy of the kit's printer). Not trusted: Lean checks it.
import Derived.Test.YtnmenfkmndnoaaaM0
import Derived.Test.YtnmenfkmndnoaaaFestoversref19Inside
namespace Go.Proofs.Ytnmenfkmndnoaaa.Pr
open Go.RowKit Go.Proofs.YtnmenfkmndnoaaaW.PrintWords Go.Proofs.YtnmenfkmndnoaaaW.PrintLast Go.Proofs.YtnmenfkmndnoaaaW.PrintMore
attribute [local go_sem] max2_int min2_int max_two min_two max_three min_three max_four min_four
set_option linter.unusedVariables false
set_option linter.unusedSimpArgs false
mutual
def estoverstop_restOf.l0 : Nat→List (S30)→Int→Int→List (S34)→Int→Int→Option (Int)
 | 0,_,_,_,_,_,_ => none
 | k + 1,x1,x2,x7,x15,x16,x17 => if x17 < x16 then (if 0≤x17 then (if x17 < (x15.length : Int) then (if (rd_T34 x15 x17).f6 = true then ((estoversref19_Inside.f k x1 ((rd_T34 x15 x17).f1) x2).bind fun t501 => (estoverstop_restOf.j1 k x1 x2 x7 x15 x16 x17 t501)) else (estoverstop_restOf.j1 k x1 x2 x7 x15 x16 x17 false)) else (none)) else (none)) else (some x7)
def estoverstop_restOf.j1 : Nat→List (S30)→Int→Int→List (S34)→Int→Int→Bool→Option (Int)
 | 0,_,_,_,_,_,_,_ => none
 | k + 1,x1,x2,x7,x15,x16,x17,x29 => if x29 = true then (estoverstop_restOf.l0 k x1 x2 (wrap64 (x7 - 1)) x15 x16 (wrap64 (x17 + 1))) else (estoverstop_restOf.l0 k x1 x2 x7 x15 x16 (wrap64 (x17 + 1)))
end
def estoverstop_restOf.f (k : Nat) (l0 : List (S34)) (l1 : List (S30)) (a2 : Int) : Option (Int):=if 0≤a2 then (if a2 < (l1.length : Int) then (estoverstop_restOf.l0 k l1 a2 ((rd_T30 l1 a2).f1) l0 (l0.length : Int) 0) else (none)) else (none)
theorem estoverstop_restOf.mono_l : ∀ k,(∀ y0 y1 y2 y3 y4 y5,LeO (estoverstop_restOf.l0 k y0 y1 y2 y3 y4 y5) (estoverstop_restOf.l0 (k + 1) y0 y1 y2 y3 y4 y5))∧(∀ y0 y1 y2 y3 y4 y5 y6,LeO (estoverstop_restOf.j1 k y0 y1 y2 y3 y4 y5 y6) (estoverstop_restOf.j1 (k + 1) y0 y1 y2 y3 y4 y5 y6))
 | 0 => ⟨fun _ _ _ _ _ _ r h => by simp [estoverstop_restOf.l0] at h,fun _ _ _ _ _ _ _ r h => by simp [estoverstop_restOf.j1] at h⟩
 | k + 1 => by
  obtain ⟨ih0,ih1⟩:=estoverstop_restOf.mono_l k;refine ⟨?_,?_⟩
  ·
   intro y0 y1 y2 y3 y4 y5
   unfold estoverstop_restOf.l0
   repeat' first
    | (with_reducible exact ih0 _ _ _ _ _ _)
    | (with_reducible exact ih1 _ _ _ _ _ _ _)
    | (with_reducible exact estoversref19_Inside.mono _ _ _ _)
    | (with_reducible exact LeO.refl _)
    | (with_reducible exact LeO.none _)
    | (with_reducible refine LeO.ite ?_ ?_)
    | (with_reducible refine LeO.bind ?_ (fun _ => ?_))
    | exact ih0 _ _ _ _ _ _
    | exact ih1 _ _ _ _ _ _ _
    | exact estoversref19_Inside.mono _ _ _ _
    | exact LeO.none _
    | refine LeO.ite ?_ ?_
    | refine LeO.bind ?_ (fun _ => ?_)
  ·
   intro y0 y1 y2 y3 y4 y5 y6
   unfold estoverstop_restOf.j1
   repeat' first
    | (with_reducible exact ih0 _ _ _ _ _ _)
    | (with_reducible exact ih1 _ _ _ _ _ _ _)
    | (with_reducible exact estoversref19_Inside.mono _ _ _ _)
    | (with_reducible exact LeO.refl _)
    | (with_reducible exact LeO.none _)
    | (with_reducible refine LeO.ite ?_ ?_)
    | (with_reducible refine LeO.bind ?_ (fun _ => ?_))
    | exact ih0 _ _ _ _ _ _
    | exact ih1 _ _ _ _ _ _ _
    | exact estoversref19_Inside.mono _ _ _ _
    | exact LeO.none _
    | refine LeO.ite ?_ ?_
    | refine LeO.bind ?_ (fun _ => ?_)
theorem estoverstop_restOf.mono : ∀ a0 a1 a2 k,LeO (estoverstop_restOf.f k a0 a1 a2) (estoverstop_restOf.f (k + 1) a0 a1 a2):=by
 intro a0 a1 a2 k;obtain ⟨ih0,ih1⟩:=estoverstop_restOf.mono_l k
 unfold estoverstop_restOf.f
 repeat' first
  | (with_reducible exact ih0 _ _ _ _ _ _)
  | (with_reducible exact ih1 _ _ _ _ _ _ _)
  | (with_reducible exact estoversref19_Inside.mono _ _ _ _)
  | (with_reducible exact LeO.refl _)
  | (with_reducible exact LeO.none _)
  | (with_reducible refine LeO.ite ?_ ?_)
  | (with_reducible refine LeO.bind ?_ (fun _ => ?_))
  | exact ih0 _ _ _ _ _ _
  | exact ih1 _ _ _ _ _ _ _
  | exact estoversref19_Inside.mono _ _ _ _
  | exact LeO.none _
  | refine LeO.ite ?_ ?_
  | refine LeO.bind ?_ (fun _ => ?_)
set_option maxHeartbeats 8000000 in
set_option maxRecDepth 100000 in
theorem estoverstop_restOf.calls (k : Nat) (A0 : Option Addr) (c0 : Nat) (l0 : List (S34)) (A1 : Option Addr) (c1 : Nat) (l1 : List (S30)) (a2 : Int) (r : Int) (w : World) (hr0 : Kd.C k34 w A0 l0.length l0) (hc0 : l0.length≤c0) (hr1 : Kd.C k30 w A1 l1.length l1) (hc1 : l1.length≤c1) (h : estoverstop_restOf.f k l0 l1 a2 = some r) :
 Calls Try.prog 19 #[.slice A0 l0.length c0,.slice A1 l1.length c1,.int .i64 a2] w fun e w' => e = .returned (.int .i64 r)∧Below w.heap.size w w':=by
 have hu34:=Try.underlying34;have HR0:=Aside0.mk hr0;have HC0:=Aside0.mk hc0;clear hr0 hc0;have HR1:=Aside0.mk hr1;have HC1:=Aside0.mk hc1;clear hr1 hc1;have HB:=Aside0.mk (Below.refl w.heap.size w);have H : (if 0≤a2 then (if a2 < (l1.length : Int) then (estoverstop_restOf.l0 k l1 a2 ((rd_T30 l1 a2).f1) l0 (l0.length : Int) 0) else (none)) else (none)) = some r:=h;clear h
 by_cases c4 : 0≤a2
 rotate_left
 · rw [if_neg c4] at H;exact absurd H (by simp)
 rw [if_pos c4] at H;have c4b0 : decide (0≤a2) = true:=decide_eq_true c4;clear c4;by_cases c5 : a2 < (l1.length : Int)
 rotate_left
 · rw [if_neg c5] at H;exact absurd H (by simp)
 rw [if_pos c5] at H;have c5b0 : decide (a2 < (l1.length : Int)) = true:=decide_eq_true c5;clear c5;have H':=Aside0.mk H;clear H;have p498 : 0≤(a2 : Int):=of_decide_eq_true (by first | (with_reducible assumption) | assumption);have q498 : a2 < (l1.length : Int):=of_decide_eq_true (by first | (with_reducible assumption) | assumption)
 obtain ⟨ad498,e498,hx498_0,hx498_1,hx498_2,hx498_3,hx498_4⟩:=at_T30 HR1.out a2 p498 q498;cases e498;replace p498:=eq_true p498;replace q498:=eq_true q498
 go_enter Try.func19,Try.ntmps19
 go_wp2
 go_loopg [7,17] k (fun kq v7 v17 w' => ∃ (x7_1 : Int) (x17_1 : Int),v7 = .int .i64 x7_1∧v17 = .int .i64 x17_1∧Aside0 (estoverstop_restOf.l0 kq l1 a2 x7_1 l0 (l0.length : Int) x17_1 = some r)∧Aside0 (kq≤k)∧Aside0 (Below w.heap.size w w'))
 case atStart => exact ⟨((rd_T30 l1 a2).f1),(0),(by first | rfl | (simp;done) | (simp [*];done)),(by first | rfl | (simp;done) | (simp [*];done)),H',⟨Nat.le_refl _⟩,⟨by repeat (first | (with_reducible first | exact HB.out | apply b0_ | apply b1_ | apply b2_) | exact HB.out)⟩⟩
 case round =>
  clear H';obtain ⟨x7_1,x17_1,rfl,rfl,HA,HK1,HB⟩:=hrel
  cases gk with
   | zero => exact absurd HA.out (by simp [estoverstop_restOf.l0])
   | succ k1 =>
    have H:=HA.out;clear HA;simp only [estoverstop_restOf.l0] at H;by_cases c6 : x17_1 < (l0.length : Int)
    rotate_left
    · rw [if_neg c6] at H;have c6b0 : decide (x17_1 < (l0.length : Int)) = false:=decide_eq_false c6;clear c6;obtain rfl:=Option.some.inj H;go_wp2;go_ret;exact ⟨by first | rfl | (simp [errW_none,errW_some] <;> rfl) | (simp [*,errW_none,errW_some] <;> rfl),by repeat (first | (with_reducible first | exact HB.out | apply b0_ | apply b1_ | apply b2_) | exact HB.out)⟩
    rw [if_pos c6] at H;have c6b0 : decide (x17_1 < (l0.length : Int)) = true:=decide_eq_true c6;clear c6;by_cases c7 : 0≤x17_1
    rotate_left
    · rw [if_neg c7] at H;exact absurd H (by simp)
    rw [if_pos c7] at H;have c7b0 : decide (0≤x17_1) = true:=decide_eq_true c7;clear c7;by_cases c8 : x17_1 < (l0.length : Int)
    rotate_left
    · rw [if_neg c8] at H;exact absurd H (by simp)
    rw [if_pos c8] at H;have c8b0 : decide (x17_1 < (l0.length : Int)) = true:=decide_eq_true c8;clear c8;have HC9:=Aside0.mk H;clear H;have p499 : 0≤(x17_1 : Int):=of_decide_eq_true (by first | (with_reducible assumption) | assumption);have q499 : x17_1 < (l0.length : Int):=of_decide_eq_true (by first | (with_reducible assumption) | assumption)
    obtain ⟨ad499,e499,hx499_0,hx499_1,hx499_2,hx499_3,hx499_4,hx499_5,hx499_6⟩:=at_T34 HR0.out x17_1 p499 q499;cases e499;replace hx499_0:=(HB.out.cell (World.block_lt_of_cell? w _ hx499_0)).trans hx499_0;replace hx499_1:=(HB.out.cell (World.block_lt_of_cell? w _ hx499_1)).trans hx499_1;replace hx499_2:=(HB.out.cell (World.block_lt_of_cell? w _ hx499_2)).trans hx499_2
    replace hx499_3:=(HB.out.cell (World.block_lt_of_cell? w _ hx499_3)).trans hx499_3;replace hx499_4:=(HB.out.cell (World.block_lt_of_cell? w _ hx499_4)).trans hx499_4;replace hx499_5:=(HB.out.cell (World.block_lt_of_cell? w _ hx499_5)).trans hx499_5;replace hx499_6:=(HB.out.cell (World.block_lt_of_cell? w _ hx499_6)).trans hx499_6;replace p499:=eq_true p499
    replace q499:=eq_true q499
    go_upto_region 5 with (first | ((with_reducible refine gate_dst (N:=9) rfl ?_);refine box_event ?hg (N:=9) ?hd (cs:=#[.int .i64 0,.int .i64 0,.int .i64 0,.int .i64 0,.int .i64 0,.bool false,.bool false]) (t:=34) ?hr ?_;(case hd => rfl);(case hg => rfl);(case hr => first | (go_simp;done) | (go_simp;rfl));intro gb500 hg w10 hbox hb;have n0_:=Aside0.mk (below_step (by repeat (first | (with_reducible first | exact HB.out | apply b0_ | apply b1_ | apply b2_) | exact HB.out)) hb);have n1_:=Aside0.mk (hbox);have n2_:=Aside0.mk ((by rw [hg];exact (below_size (by repeat (first | (with_reducible first | exact HB.out | apply b0_ | apply b1_ | apply b2_) | exact HB.out))) : w.heap.size≤gb500));have n3_:=Aside0.mk ((by rw [hg];exact (below_size (by repeat (first | (with_reducible first | exact HB.out | apply b0_ | apply b1_ | apply b2_) | exact HB.out))) : w.heap.size≤gb500));clear HB;have HB:=n0_;have BK500:=n1_;have GW500:=n2_;have GE500:=n3_;clear n0_ n1_ n2_ n3_;clear hb hbox hg;obtain ⟨hcz11_0,hcz11_1,hcz11_2,hcz11_3,hcz11_4,hcz11_5,hcz11_6,hfz11_0,hfz11_1,hfz11_2,hfz11_3,hfz11_4,hfz11_5,hfz11_6⟩:=q7_ BK500.out))
    (try simp only [Act.put,List.setIfInBounds_toArray,List.set_cons_zero,List.set_cons_succ])
    go_cut [29] (fun v29 wc => ∃ (kq : Nat) (x29_8 : Bool),v29 = .bool x29_8∧Aside0 (estoverstop_restOf.j1 kq l1 a2 x7_1 l0 (l0.length : Int) x17_1 x29_8 = some r)∧Aside0 (kq≤k1)∧Aside0 (wc.heap[gb500]? = some (.cells #[.int .i64 ((rd_T34 l0 x17_1).f0),.int .i64 ((rd_T34 l0 x17_1).f1),.int .i64 ((rd_T34 l0 x17_1).f2),.int .i64 ((rd_T34 l0 x17_1).f3),.int .i64 ((rd_T34 l0 x17_1).f4),.bool ((rd_T34 l0 x17_1).f5),.bool ((rd_T34 l0 x17_1).f6)] 34 (0,0)))∧Aside0 (Below w.heap.size w wc))
    case first =>
     have H:=HC9.out;clear HC9;obtain ⟨bq12,hbq12⟩ : ∃ b_ : Bool,b_ = ((rd_T34 l0 x17_1).f6):=⟨_,rfl⟩
     replace H : (if bq12 = true then ((estoversref19_Inside.f k1 l1 ((rd_T34 l0 x17_1).f1) a2).bind fun t501 => (estoverstop_restOf.j1 k1 l1 a2 x7_1 l0 (l0.length : Int) x17_1 t501)) else (estoverstop_restOf.j1 k1 l1 a2 x7_1 l0 (l0.length : Int) x17_1 false)) = some r:=by rw [← hbq12] at H;exact H
     have Nbq12:=Aside0.mk hbq12;clear hbq12
     (try rw [← Nbq12.out])
     by_cases c13 : bq12 = true
     rotate_left
     ·
      replace c13:=Bool.eq_false_iff.mpr c13;subst c13
      have H1 : (estoverstop_restOf.j1 k1 l1 a2 x7_1 l0 (l0.length : Int) x17_1 false) = some r:=by rw [if_neg (show ¬ (false = true) by decide)] at H;exact H
      clear H;have H:=H1;clear H1;have H':=Aside0.mk H;clear H;obtain ⟨hcz17_0,hcz17_1,hcz17_2,hcz17_3,hcz17_4,hcz17_5,hcz17_6,hfz17_0,hfz17_1,hfz17_2,hfz17_3,hfz17_4,hfz17_5,hfz17_6⟩:=q7_ BK500.out;go_wp2
      go_meet
      case rel => exact ⟨_,(false),(by first | rfl | (simp;done) | (simp [*];done)),H',⟨by have:=HK1.out;first | omega | exact Nat.le_refl _⟩,⟨by (try rw [← Nbq12.out]); (with_reducible repeat (first | refine blk_drewN ?_ _ | refine blk_drew ?_ | refine blk_alloc ?_ _));refine blk_put (cs:=#[.int .i64 ((rd_T34 l0 x17_1).f0),.int .i64 ((rd_T34 l0 x17_1).f1),.int .i64 ((rd_T34 l0 x17_1).f2),.int .i64 ((rd_T34 l0 x17_1).f3),.int .i64 ((rd_T34 l0 x17_1).f4),.bool ((rd_T34 l0 x17_1).f5),.bool false]) ?_ 6 _ rfl;(try rw [← Nbq12.out]); (with_reducible repeat (first | refine blk_drewN ?_ _ | refine blk_drew ?_ | refine blk_alloc ?_ _));refine blk_put (cs:=#[.int .i64 ((rd_T34 l0 x17_1).f0),.int .i64 ((rd_T34 l0 x17_1).f1),.int .i64 ((rd_T34 l0 x17_1).f2),.int .i64 ((rd_T34 l0 x17_1).f3),.int .i64 ((rd_T34 l0 x17_1).f4),.bool false,.bool false]) ?_ 5 _ rfl;(try rw [← Nbq12.out]); (with_reducible repeat (first | refine blk_drewN ?_ _ | refine blk_drew ?_ | refine blk_alloc ?_ _));refine blk_put (cs:=#[.int .i64 ((rd_T34 l0 x17_1).f0),.int .i64 ((rd_T34 l0 x17_1).f1),.int .i64 ((rd_T34 l0 x17_1).f2),.int .i64 ((rd_T34 l0 x17_1).f3),.int .i64 0,.bool false,.bool false]) ?_ 4 _ rfl;(try rw [← Nbq12.out]); (with_reducible repeat (first | refine blk_drewN ?_ _ | refine blk_drew ?_ | refine blk_alloc ?_ _));refine blk_put (cs:=#[.int .i64 ((rd_T34 l0 x17_1).f0),.int .i64 ((rd_T34 l0 x17_1).f1),.int .i64 ((rd_T34 l0 x17_1).f2),.int .i64 0,.int .i64 0,.bool false,.bool false]) ?_ 3 _ rfl;(try rw [← Nbq12.out]); (with_reducible repeat (first | refine blk_drewN ?_ _ | refine blk_drew ?_ | refine blk_alloc ?_ _));refine blk_put (cs:=#[.int .i64 ((rd_T34 l0 x17_1).f0),.int .i64 ((rd_T34 l0 x17_1).f1),.int .i64 0,.int .i64 0,.int .i64 0,.bool false,.bool false]) ?_ 2 _ rfl;(try rw [← Nbq12.out]); (with_reducible repeat (first | refine blk_drewN ?_ _ | refine blk_drew ?_ | refine blk_alloc ?_ _));refine blk_put (cs:=#[.int .i64 ((rd_T34 l0 x17_1).f0),.int .i64 0,.int .i64 0,.int .i64 0,.int .i64 0,.bool false,.bool false]) ?_ 1 _ rfl;(try rw [← Nbq12.out]); (with_reducible repeat (first | refine blk_drewN ?_ _ | refine blk_drew ?_ | refine blk_alloc ?_ _));refine blk_put (cs:=#[.int .i64 0,.int .i64 0,.int .i64 0,.int .i64 0,.int .i64 0,.bool false,.bool false]) ?_ 0 _ rfl;(try rw [← Nbq12.out]); (with_reducible repeat (first | refine blk_drewN ?_ _ | refine blk_drew ?_ | refine blk_alloc ?_ _));exact BK500.out⟩,⟨by repeat (first | (with_reducible first | exact HB.out | apply b0_ | apply b1_ | apply b2_ | refine below_set ?_ GE500.out) | exact HB.out)⟩⟩
     subst c13
     have H1 : ((estoversref19_Inside.f k1 l1 ((rd_T34 l0 x17_1).f1) a2).bind fun t501 => (estoverstop_restOf.j1 k1 l1 a2 x7_1 l0 (l0.length : Int) x17_1 t501)) = some r:=by rw [if_pos rfl] at H;exact H
     clear H;have H:=H1;clear H1;replace H:=Option.bind_eq_some_iff.mp H;obtain ⟨t501,A140,H⟩:=H;replace H : (estoverstop_restOf.j1 k1 l1 a2 x7_1 l0 (l0.length : Int) x17_1 t501) = some r:=H;have A14:=Aside0.mk A140;clear A140;have H':=Aside0.mk H;clear H;obtain ⟨hcz15_0,hcz15_1,hcz15_2,hcz15_3,hcz15_4,hcz15_5,hcz15_6,hfz15_0,hfz15_1,hfz15_2,hfz15_3,hfz15_4,hfz15_5,hfz15_6⟩:=q7_ BK500.out
     go_wp2_with (first | (go_at_call 42;(with_reducible refine (estoversref19_Inside.calls k1 _ _ l1 ((rd_T34 l0 x17_1).f1) a2 t501 _ ?side1 ?side2 A14.out).mono ?_);(case side1 => exact Kd.C_below HR1.out (by repeat (first | (with_reducible first | exact HB.out | apply b0_ | apply b1_ | apply b2_ | refine below_set ?_ GE500.out) | exact HB.out)));(case side2 => exact HC1.out);rintro e w16 ⟨rfl,hb⟩;have n0_:=Aside0.mk (blk_below (g:=gb500) (o:=.cells #[.int .i64 ((rd_T34 l0 x17_1).f0),.int .i64 ((rd_T34 l0 x17_1).f1),.int .i64 ((rd_T34 l0 x17_1).f2),.int .i64 ((rd_T34 l0 x17_1).f3),.int .i64 ((rd_T34 l0 x17_1).f4),.bool ((rd_T34 l0 x17_1).f5),.bool true] 34 (0,0)) (by (with_reducible repeat (first | refine blk_drewN ?_ _ | refine blk_drew ?_ | refine blk_alloc ?_ _));refine blk_put (cs:=#[.int .i64 ((rd_T34 l0 x17_1).f0),.int .i64 ((rd_T34 l0 x17_1).f1),.int .i64 ((rd_T34 l0 x17_1).f2),.int .i64 ((rd_T34 l0 x17_1).f3),.int .i64 ((rd_T34 l0 x17_1).f4),.bool ((rd_T34 l0 x17_1).f5),.bool false]) ?_ 6 _ rfl;(with_reducible repeat (first | refine blk_drewN ?_ _ | refine blk_drew ?_ | refine blk_alloc ?_ _));refine blk_put (cs:=#[.int .i64 ((rd_T34 l0 x17_1).f0),.int .i64 ((rd_T34 l0 x17_1).f1),.int .i64 ((rd_T34 l0 x17_1).f2),.int .i64 ((rd_T34 l0 x17_1).f3),.int .i64 ((rd_T34 l0 x17_1).f4),.bool false,.bool false]) ?_ 5 _ rfl;(with_reducible repeat (first | refine blk_drewN ?_ _ | refine blk_drew ?_ | refine blk_alloc ?_ _));refine blk_put (cs:=#[.int .i64 ((rd_T34 l0 x17_1).f0),.int .i64 ((rd_T34 l0 x17_1).f1),.int .i64 ((rd_T34 l0 x17_1).f2),.int .i64 ((rd_T34 l0 x17_1).f3),.int .i64 0,.bool false,.bool false]) ?_ 4 _ rfl;(with_reducible repeat (first | refine blk_drewN ?_ _ | refine blk_drew ?_ | refine blk_alloc ?_ _));refine blk_put (cs:=#[.int .i64 ((rd_T34 l0 x17_1).f0),.int .i64 ((rd_T34 l0 x17_1).f1),.int .i64 ((rd_T34 l0 x17_1).f2),.int .i64 0,.int .i64 0,.bool false,.bool false]) ?_ 3 _ rfl;(with_reducible repeat (first | refine blk_drewN ?_ _ | refine blk_drew ?_ | refine blk_alloc ?_ _));refine blk_put (cs:=#[.int .i64 ((rd_T34 l0 x17_1).f0),.int .i64 ((rd_T34 l0 x17_1).f1),.int .i64 0,.int .i64 0,.int .i64 0,.bool false,.bool false]) ?_ 2 _ rfl;(with_reducible repeat (first | refine blk_drewN ?_ _ | refine blk_drew ?_ | refine blk_alloc ?_ _));refine blk_put (cs:=#[.int .i64 ((rd_T34 l0 x17_1).f0),.int .i64 0,.int .i64 0,.int .i64 0,.int .i64 0,.bool false,.bool false]) ?_ 1 _ rfl;(with_reducible repeat (first | refine blk_drewN ?_ _ | refine blk_drew ?_ | refine blk_alloc ?_ _));refine blk_put (cs:=#[.int .i64 0,.int .i64 0,.int .i64 0,.int .i64 0,.int .i64 0,.bool false,.bool false]) ?_ 0 _ rfl;(with_reducible repeat (first | refine blk_drewN ?_ _ | refine blk_drew ?_ | refine blk_alloc ?_ _));exact BK500.out) hb);have n1_:=Aside0.mk (below_step (by repeat (first | (with_reducible first | exact HB.out | apply b0_ | apply b1_ | apply b2_ | refine below_set ?_ GE500.out) | exact HB.out)) hb);clear BK500;clear HB;have BK500:=n0_;have HB:=n1_;clear n0_ n1_))
     go_meet
     case rel => exact ⟨_,(t501),(by first | rfl | (simp;done) | (simp [*];done)),H',⟨by have:=HK1.out;first | omega | exact Nat.le_refl _⟩,⟨by (try rw [← Nbq12.out]); (with_reducible repeat (first | refine blk_drewN ?_ _ | refine blk_drew ?_ | refine blk_alloc ?_ _));exact BK500.out⟩,⟨by repeat (first | (with_reducible first | exact HB.out | apply b0_ | apply b1_ | apply b2_ | refine below_set ?_ GE500.out) | exact HB.out)⟩⟩
    case rest =>
     clear HC9;obtain ⟨kq,x29_8,rfl,HA,HJ8,BK500,HB⟩:=hcut
     cases kq with
      | zero => exact absurd HA.out (by simp [estoverstop_restOf.j1])
      | succ kj8 =>
       have H:=HA.out;clear HA;simp only [estoverstop_restOf.j1] at H;by_cases c18 : x29_8 = true
       rotate_left
       ·
        replace c18:=Bool.eq_false_iff.mpr c18;subst c18
        have H1 : (estoverstop_restOf.l0 kj8 l1 a2 x7_1 l0 (l0.length : Int) (wrap64 (x17_1 + 1))) = some r:=by rw [if_neg (show ¬ (false = true) by decide)] at H;exact H
        clear H;have H:=H1;clear H1;have H':=Aside0.mk H;clear H;go_wp2
        go_roundg kj8
        case measure => have:=HK1.out;have:=HJ8.out;omega
        case rel => exact ⟨(x7_1),(wrap64 (x17_1 + 1)),(by first | rfl | (simp;done) | (simp [*];done)),(by first | rfl | (simp;done) | (simp [*];done)),H',⟨by have:=HK1.out;have:=HJ8.out;omega⟩,⟨by repeat (first | (with_reducible first | exact HB.out | apply b0_ | apply b1_ | apply b2_ | refine below_set ?_ GE500.out) | exact HB.out)⟩⟩
       subst c18
       have H1 : (estoverstop_restOf.l0 kj8 l1 a2 (wrap64 (x7_1 - 1)) l0 (l0.length : Int) (wrap64 (x17_1 + 1))) = some r:=by rw [if_pos rfl] at H;exact H
       clear H;have H:=H1;clear H1;have H':=Aside0.mk H;clear H;go_wp2
       go_roundg kj8
       case measure => have:=HK1.out;have:=HJ8.out;omega
       case rel => exact ⟨(wrap64 (x7_1 - 1)),(wrap64 (x17_1 + 1)),(by first | rfl | (simp;done) | (simp [*];done)),(by first | rfl | (simp;done) | (simp [*];done)),H',⟨by have:=HK1.out;have:=HJ8.out;omega⟩,⟨by repeat (first | (with_reducible first | exact HB.out | apply b0_ | apply b1_ | apply b2_ | refine below_set ?_ GE500.out) | exact HB.out)⟩⟩
end Go.Proofs.Ytnmenfkmndnoaaa.Pr
