-- Written by a program of this session (a changed copy of the kit's printer). Not trusted: Lean checks it.
import Derived.Test.YtnmenfkmndnoaaaM0
namespace Go.Proofs.Ytnmenfkmndnoaaa.Pr
open Go.RowKit Go.Proofs.YtnmenfkmndnoaaaW.PrintWords Go.Proofs.YtnmenfkmndnoaaaW.PrintLast Go.Proofs.YtnmenfkmndnoaaaW.PrintMore
attribute [local go_sem] max2_int min2_int max_two min_two max_three min_three max_four min_four
set_option linter.unusedVariables false
set_option linter.unusedSimpArgs false
theorem eqA34 (d : Nat) (w : World) (x0 y0 : Int) (x1 y1 : Int) (x2 y2 : Int) (x3 y3 : Int) (x4 y4 : Int) (x5 y5 : Bool) (x6 y6 : Bool) :
 (Op.equalIn (d + 2) 34 (.agg #[.int .i64 x0,.int .i64 x1,.int .i64 x2,.int .i64 x3,.int .i64 x4,.bool x5,.bool x6]) (.agg #[.int .i64 y0,.int .i64 y1,.int .i64 y2,.int .i64 y3,.int .i64 y4,.bool y5,.bool y6])).run Try.prog w = .ok (x0 == y0 && (x1 == y1 && (x2 == y2 && (x3 == y3 && (x4 == y4 && (x5 == y5 && (x6 == y6))))))) w:=by
 refine eqA_of Try.underlying34 (by kernel_rfl) ?_;refine eqf_cons (by rfl) (by go_simp;rfl) (by go_simp;rfl) (by go_simp) ?_;refine eqf_cons (by rfl) (by go_simp;rfl) (by go_simp;rfl) (by go_simp) ?_;refine eqf_cons (by rfl) (by go_simp;rfl) (by go_simp;rfl) (by go_simp) ?_;refine eqf_cons (by rfl) (by go_simp;rfl) (by go_simp;rfl) (by go_simp) ?_
 refine eqf_cons (by rfl) (by go_simp;rfl) (by go_simp;rfl) (by go_simp) ?_;refine eqf_cons (by rfl) (by go_simp;rfl) (by go_simp;rfl) (by go_simp) ?_;exact eqf_last (by rfl) (by go_simp;rfl) (by go_simp;rfl) (by go_simp)
mutual
def accounts_tree.l0 : Nat→List (S30)→Int→Int→Option (Bool)
 | 0,_,_,_ => none
 | k + 1,x5,x6,x7 => if x7 < x6 then (if 0≤x7 then (if x7 < (x5.length : Int) then (if x7 = 0 then (if ((rd_T30 x5 x7).f0) = (-1) then (if x7 > 0 then (if ((rd_T30 x5 x7).f0) < 0 then (accounts_tree.j1 k x5 x6 x7 true) else (accounts_tree.j1 k x5 x6 x7 (decide (((rd_T30 x5 x7).f0)≥x7)))) else (accounts_tree.j1 k x5 x6 x7 false)) else (accounts_tree.j1 k x5 x6 x7 true)) else (if x7 > 0 then (if ((rd_T30 x5 x7).f0) < 0 then (accounts_tree.j1 k x5 x6 x7 true) else (accounts_tree.j1 k x5 x6 x7 (decide (((rd_T30 x5 x7).f0)≥x7)))) else (accounts_tree.j1 k x5 x6 x7 false))) else (none)) else (none)) else (some true)
def accounts_tree.j1 : Nat→List (S30)→Int→Int→Bool→Option (Bool)
 | 0,_,_,_,_ => none
 | k + 1,x5,x6,x7,x33 => if x33 = true then (some false) else (accounts_tree.l0 k x5 x6 (wrap64 (x7 + 1)))
end
def accounts_tree.f (k : Nat) (l0 : List (S30)) : Option (Bool):=accounts_tree.l0 k l0 (l0.length : Int) 0
theorem accounts_tree.mono_l : ∀ k,(∀ y0 y1 y2,LeO (accounts_tree.l0 k y0 y1 y2) (accounts_tree.l0 (k + 1) y0 y1 y2))∧(∀ y0 y1 y2 y3,LeO (accounts_tree.j1 k y0 y1 y2 y3) (accounts_tree.j1 (k + 1) y0 y1 y2 y3))
 | 0 => ⟨fun _ _ _ r h => by simp [accounts_tree.l0] at h,fun _ _ _ _ r h => by simp [accounts_tree.j1] at h⟩
 | k + 1 => by
  obtain ⟨ih0,ih1⟩:=accounts_tree.mono_l k;refine ⟨?_,?_⟩
  ·
   intro y0 y1 y2
   unfold accounts_tree.l0
   repeat' first
    | (with_reducible exact ih0 _ _ _)
    | (with_reducible exact ih1 _ _ _ _)
    | (with_reducible exact LeO.refl _)
    | (with_reducible exact LeO.none _)
    | (with_reducible refine LeO.ite ?_ ?_)
    | (with_reducible refine LeO.bind ?_ (fun _ => ?_))
    | exact ih0 _ _ _
    | exact ih1 _ _ _ _
    | exact LeO.none _
    | refine LeO.ite ?_ ?_
    | refine LeO.bind ?_ (fun _ => ?_)
  ·
   intro y0 y1 y2 y3
   unfold accounts_tree.j1
   repeat' first
    | (with_reducible exact ih0 _ _ _)
    | (with_reducible exact ih1 _ _ _ _)
    | (with_reducible exact LeO.refl _)
    | (with_reducible exact LeO.none _)
    | (with_reducible refine LeO.ite ?_ ?_)
    | (with_reducible refine LeO.bind ?_ (fun _ => ?_))
    | exact ih0 _ _ _
    | exact ih1 _ _ _ _
    | exact LeO.none _
    | refine LeO.ite ?_ ?_
    | refine LeO.bind ?_ (fun _ => ?_)
theorem accounts_tree.mono : ∀ a0 k,LeO (accounts_tree.f k a0) (accounts_tree.f (k + 1) a0):=by
 intro a0 k;obtain ⟨ih0,ih1⟩:=accounts_tree.mono_l k
 unfold accounts_tree.f
 repeat' first
  | (with_reducible exact ih0 _ _ _)
  | (with_reducible exact ih1 _ _ _ _)
  | (with_reducible exact LeO.refl _)
  | (with_reducible exact LeO.none _)
  | (with_reducible refine LeO.ite ?_ ?_)
  | (with_reducible refine LeO.bind ?_ (fun _ => ?_))
  | exact ih0 _ _ _
  | exact ih1 _ _ _ _
  | exact LeO.none _
  | refine LeO.ite ?_ ?_
  | refine LeO.bind ?_ (fun _ => ?_)
set_option maxHeartbeats 8000000 in
set_option maxRecDepth 100000 in
theorem accounts_tree.calls (k : Nat) (A0 : Option Addr) (c0 : Nat) (l0 : List (S30)) (r : Bool) (w : World) (hr0 : Kd.C k30 w A0 l0.length l0) (hc0 : l0.length≤c0) (h : accounts_tree.f k l0 = some r) :
 Calls Try.prog 75 #[.slice A0 l0.length c0] w fun e w' => e = .returned (.bool r)∧Below w.heap.size w w':=by
 have hu30:=Try.underlying30;have HR0:=Aside0.mk hr0;have HC0:=Aside0.mk hc0;clear hr0 hc0;have HB:=Aside0.mk (Below.refl w.heap.size w);have H : (accounts_tree.l0 k l0 (l0.length : Int) 0) = some r:=h;clear h;have H':=Aside0.mk H;clear H
 go_enter Try.func75,Try.ntmps75
 go_wp2
 go_loopg [7] k (fun kq v7 w' => ∃ (x7_1 : Int),v7 = .int .i64 x7_1∧Aside0 (accounts_tree.l0 kq l0 (l0.length : Int) x7_1 = some r)∧Aside0 (kq≤k)∧Aside0 (Below w.heap.size w w'))
 case atStart => exact ⟨(0),(by first | rfl | (simp;done) | (simp [*];done)),H',⟨Nat.le_refl _⟩,⟨by repeat (first | (with_reducible first | exact HB.out | apply b0_ | apply b1_ | apply b2_) | exact HB.out)⟩⟩
 case round =>
  clear H';obtain ⟨x7_1,rfl,HA,HK1,HB⟩:=hrel
  cases gk with
   | zero => exact absurd HA.out (by simp [accounts_tree.l0])
   | succ k1 =>
    have H:=HA.out;clear HA;simp only [accounts_tree.l0] at H;by_cases c2 : x7_1 < (l0.length : Int)
    rotate_left
    · rw [if_neg c2] at H;have c2b0 : decide (x7_1 < (l0.length : Int)) = false:=decide_eq_false c2;clear c2;obtain rfl:=Option.some.inj H;go_wp2;go_ret;exact ⟨by first | rfl | (simp [errW_none,errW_some] <;> rfl) | (simp [*,errW_none,errW_some] <;> rfl),by repeat (first | (with_reducible first | exact HB.out | apply b0_ | apply b1_ | apply b2_) | exact HB.out)⟩
    rw [if_pos c2] at H;have c2b0 : decide (x7_1 < (l0.length : Int)) = true:=decide_eq_true c2;clear c2;by_cases c3 : 0≤x7_1
    rotate_left
    · rw [if_neg c3] at H;exact absurd H (by simp)
    rw [if_pos c3] at H;have c3b0 : decide (0≤x7_1) = true:=decide_eq_true c3;clear c3;by_cases c4 : x7_1 < (l0.length : Int)
    rotate_left
    · rw [if_neg c4] at H;exact absurd H (by simp)
    rw [if_pos c4] at H;have c4b0 : decide (x7_1 < (l0.length : Int)) = true:=decide_eq_true c4;clear c4;have HC5:=Aside0.mk H;clear H;have p101 : 0≤(x7_1 : Int):=of_decide_eq_true (by first | (with_reducible assumption) | assumption);have q101 : x7_1 < (l0.length : Int):=of_decide_eq_true (by first | (with_reducible assumption) | assumption)
    obtain ⟨ad101,e101,hx101_0,hx101_1,hx101_2,hx101_3,hx101_4⟩:=at_T30 HR0.out x7_1 p101 q101;cases e101;replace hx101_0:=(HB.out.cell (World.block_lt_of_cell? w _ hx101_0)).trans hx101_0;replace hx101_1:=(HB.out.cell (World.block_lt_of_cell? w _ hx101_1)).trans hx101_1;replace hx101_2:=(HB.out.cell (World.block_lt_of_cell? w _ hx101_2)).trans hx101_2
    replace hx101_3:=(HB.out.cell (World.block_lt_of_cell? w _ hx101_3)).trans hx101_3;replace hx101_4:=(HB.out.cell (World.block_lt_of_cell? w _ hx101_4)).trans hx101_4;replace p101:=eq_true p101;replace q101:=eq_true q101
    go_upto_region 4 with (first | ((with_reducible refine gate_dst (N:=4) rfl ?_);refine box_event ?hg (N:=4) ?hd (cs:=#[.int .i64 0,.int .i64 0,.int .i64 0,.int .i64 0,.int .i64 0]) (t:=30) ?hr ?_;(case hd => rfl);(case hg => rfl);(case hr => first | (go_simp;done) | (go_simp;rfl));intro gb102 hg w6 hbox hb;have n0_:=Aside0.mk (below_step (by repeat (first | (with_reducible first | exact HB.out | apply b0_ | apply b1_ | apply b2_) | exact HB.out)) hb);have n1_:=Aside0.mk (hbox);have n2_:=Aside0.mk ((by rw [hg];exact (below_size (by repeat (first | (with_reducible first | exact HB.out | apply b0_ | apply b1_ | apply b2_) | exact HB.out))) : w.heap.size≤gb102));have n3_:=Aside0.mk ((by rw [hg];exact (below_size (by repeat (first | (with_reducible first | exact HB.out | apply b0_ | apply b1_ | apply b2_) | exact HB.out))) : w.heap.size≤gb102));clear HB;have HB:=n0_;have BK102:=n1_;have GW102:=n2_;have GE102:=n3_;clear n0_ n1_ n2_ n3_;clear hb hbox hg;obtain ⟨hcz7_0,hcz7_1,hcz7_2,hcz7_3,hcz7_4,hfz7_0,hfz7_1,hfz7_2,hfz7_3,hfz7_4⟩:=q5_ BK102.out))
    (try simp only [Act.put,List.setIfInBounds_toArray,List.set_cons_zero,List.set_cons_succ])
    go_cut [33] (fun v33 wc => ∃ (kq : Nat) (x33_4 : Bool),v33 = .bool x33_4∧Aside0 (accounts_tree.j1 kq l0 (l0.length : Int) x7_1 x33_4 = some r)∧Aside0 (kq≤k1)∧Aside0 (wc.heap[gb102]? = some (.cells #[.int .i64 ((rd_T30 l0 x7_1).f0),.int .i64 ((rd_T30 l0 x7_1).f1),.int .i64 ((rd_T30 l0 x7_1).f2),.int .i64 ((rd_T30 l0 x7_1).f3),.int .i64 ((rd_T30 l0 x7_1).f4)] 30 (0,0)))∧Aside0 (Below w.heap.size w wc))
    case first =>
     have H:=HC5.out;clear HC5;by_cases c8 : x7_1 = 0
     rotate_left
     ·
      rw [if_neg c8] at H;have c8b0 : (x7_1 == 0) = false:=beq_eq_false_iff_ne.mpr c8;have c8b1 : (x7_1 != 0) = true:=bne_iff_ne.mpr c8
      (first | rw [c8b0] | (simp only [i64_w,i32_w];rw [c8b0]) | skip)
      by_cases c16 : x7_1 > 0
      rotate_left
      ·
       rw [if_neg c16] at H;have c16b0 : decide (0 < x7_1) = false:=decide_eq_false c16;clear c16;have H':=Aside0.mk H;clear H;go_wp2
       go_meet
       case rel => exact ⟨_,(false),(by first | rfl | (simp;done) | (simp [*];done)),H',⟨by have:=HK1.out;first | omega | exact Nat.le_refl _⟩,⟨by (with_reducible repeat (first | refine blk_drewN ?_ _ | refine blk_drew ?_ | refine blk_alloc ?_ _));refine blk_put (cs:=#[.int .i64 ((rd_T30 l0 x7_1).f0),.int .i64 ((rd_T30 l0 x7_1).f1),.int .i64 ((rd_T30 l0 x7_1).f2),.int .i64 ((rd_T30 l0 x7_1).f3),.int .i64 0]) ?_ 4 _ rfl;(with_reducible repeat (first | refine blk_drewN ?_ _ | refine blk_drew ?_ | refine blk_alloc ?_ _));refine blk_put (cs:=#[.int .i64 ((rd_T30 l0 x7_1).f0),.int .i64 ((rd_T30 l0 x7_1).f1),.int .i64 ((rd_T30 l0 x7_1).f2),.int .i64 0,.int .i64 0]) ?_ 3 _ rfl;(with_reducible repeat (first | refine blk_drewN ?_ _ | refine blk_drew ?_ | refine blk_alloc ?_ _));refine blk_put (cs:=#[.int .i64 ((rd_T30 l0 x7_1).f0),.int .i64 ((rd_T30 l0 x7_1).f1),.int .i64 0,.int .i64 0,.int .i64 0]) ?_ 2 _ rfl;(with_reducible repeat (first | refine blk_drewN ?_ _ | refine blk_drew ?_ | refine blk_alloc ?_ _));refine blk_put (cs:=#[.int .i64 ((rd_T30 l0 x7_1).f0),.int .i64 0,.int .i64 0,.int .i64 0,.int .i64 0]) ?_ 1 _ rfl;(with_reducible repeat (first | refine blk_drewN ?_ _ | refine blk_drew ?_ | refine blk_alloc ?_ _));refine blk_put (cs:=#[.int .i64 0,.int .i64 0,.int .i64 0,.int .i64 0,.int .i64 0]) ?_ 0 _ rfl;(with_reducible repeat (first | refine blk_drewN ?_ _ | refine blk_drew ?_ | refine blk_alloc ?_ _));exact BK102.out⟩,⟨by repeat (first | (with_reducible first | exact HB.out | apply b0_ | apply b1_ | apply b2_ | refine below_set ?_ GE102.out) | exact HB.out)⟩⟩
      rw [if_pos c16] at H;have c16b0 : decide (0 < x7_1) = true:=decide_eq_true c16;clear c16;by_cases c17 : ((rd_T30 l0 x7_1).f0) < 0
      rotate_left
      ·
       rw [if_neg c17] at H;have c17b0 : decide (((rd_T30 l0 x7_1).f0) < 0) = false:=decide_eq_false c17;clear c17;have H':=Aside0.mk H;clear H;obtain ⟨hcz19_0,hcz19_1,hcz19_2,hcz19_3,hcz19_4,hfz19_0,hfz19_1,hfz19_2,hfz19_3,hfz19_4⟩:=q5_ BK102.out;go_wp2
       go_meet
       case rel => exact ⟨_,(decide (((rd_T30 l0 x7_1).f0)≥x7_1)),(by first | rfl | (simp;done) | (simp [*];done)),H',⟨by have:=HK1.out;first | omega | exact Nat.le_refl _⟩,⟨by (with_reducible repeat (first | refine blk_drewN ?_ _ | refine blk_drew ?_ | refine blk_alloc ?_ _));refine blk_put (cs:=#[.int .i64 ((rd_T30 l0 x7_1).f0),.int .i64 ((rd_T30 l0 x7_1).f1),.int .i64 ((rd_T30 l0 x7_1).f2),.int .i64 ((rd_T30 l0 x7_1).f3),.int .i64 0]) ?_ 4 _ rfl;(with_reducible repeat (first | refine blk_drewN ?_ _ | refine blk_drew ?_ | refine blk_alloc ?_ _));refine blk_put (cs:=#[.int .i64 ((rd_T30 l0 x7_1).f0),.int .i64 ((rd_T30 l0 x7_1).f1),.int .i64 ((rd_T30 l0 x7_1).f2),.int .i64 0,.int .i64 0]) ?_ 3 _ rfl;(with_reducible repeat (first | refine blk_drewN ?_ _ | refine blk_drew ?_ | refine blk_alloc ?_ _));refine blk_put (cs:=#[.int .i64 ((rd_T30 l0 x7_1).f0),.int .i64 ((rd_T30 l0 x7_1).f1),.int .i64 0,.int .i64 0,.int .i64 0]) ?_ 2 _ rfl;(with_reducible repeat (first | refine blk_drewN ?_ _ | refine blk_drew ?_ | refine blk_alloc ?_ _));refine blk_put (cs:=#[.int .i64 ((rd_T30 l0 x7_1).f0),.int .i64 0,.int .i64 0,.int .i64 0,.int .i64 0]) ?_ 1 _ rfl;(with_reducible repeat (first | refine blk_drewN ?_ _ | refine blk_drew ?_ | refine blk_alloc ?_ _));refine blk_put (cs:=#[.int .i64 0,.int .i64 0,.int .i64 0,.int .i64 0,.int .i64 0]) ?_ 0 _ rfl;(with_reducible repeat (first | refine blk_drewN ?_ _ | refine blk_drew ?_ | refine blk_alloc ?_ _));exact BK102.out⟩,⟨by repeat (first | (with_reducible first | exact HB.out | apply b0_ | apply b1_ | apply b2_ | refine below_set ?_ GE102.out) | exact HB.out)⟩⟩
      rw [if_pos c17] at H;have c17b0 : decide (((rd_T30 l0 x7_1).f0) < 0) = true:=decide_eq_true c17;clear c17;have H':=Aside0.mk H;clear H;obtain ⟨hcz18_0,hcz18_1,hcz18_2,hcz18_3,hcz18_4,hfz18_0,hfz18_1,hfz18_2,hfz18_3,hfz18_4⟩:=q5_ BK102.out;go_wp2
      go_meet
      case rel => exact ⟨_,(true),(by first | rfl | (simp;done) | (simp [*];done)),H',⟨by have:=HK1.out;first | omega | exact Nat.le_refl _⟩,⟨by (with_reducible repeat (first | refine blk_drewN ?_ _ | refine blk_drew ?_ | refine blk_alloc ?_ _));refine blk_put (cs:=#[.int .i64 ((rd_T30 l0 x7_1).f0),.int .i64 ((rd_T30 l0 x7_1).f1),.int .i64 ((rd_T30 l0 x7_1).f2),.int .i64 ((rd_T30 l0 x7_1).f3),.int .i64 0]) ?_ 4 _ rfl;(with_reducible repeat (first | refine blk_drewN ?_ _ | refine blk_drew ?_ | refine blk_alloc ?_ _));refine blk_put (cs:=#[.int .i64 ((rd_T30 l0 x7_1).f0),.int .i64 ((rd_T30 l0 x7_1).f1),.int .i64 ((rd_T30 l0 x7_1).f2),.int .i64 0,.int .i64 0]) ?_ 3 _ rfl;(with_reducible repeat (first | refine blk_drewN ?_ _ | refine blk_drew ?_ | refine blk_alloc ?_ _));refine blk_put (cs:=#[.int .i64 ((rd_T30 l0 x7_1).f0),.int .i64 ((rd_T30 l0 x7_1).f1),.int .i64 0,.int .i64 0,.int .i64 0]) ?_ 2 _ rfl;(with_reducible repeat (first | refine blk_drewN ?_ _ | refine blk_drew ?_ | refine blk_alloc ?_ _));refine blk_put (cs:=#[.int .i64 ((rd_T30 l0 x7_1).f0),.int .i64 0,.int .i64 0,.int .i64 0,.int .i64 0]) ?_ 1 _ rfl;(with_reducible repeat (first | refine blk_drewN ?_ _ | refine blk_drew ?_ | refine blk_alloc ?_ _));refine blk_put (cs:=#[.int .i64 0,.int .i64 0,.int .i64 0,.int .i64 0,.int .i64 0]) ?_ 0 _ rfl;(with_reducible repeat (first | refine blk_drewN ?_ _ | refine blk_drew ?_ | refine blk_alloc ?_ _));exact BK102.out⟩,⟨by repeat (first | (with_reducible first | exact HB.out | apply b0_ | apply b1_ | apply b2_ | refine below_set ?_ GE102.out) | exact HB.out)⟩⟩
     rw [if_pos c8] at H;have c8b0 : (x7_1 == 0) = true:=beq_iff_eq.mpr c8;have c8b1 : (x7_1 != 0) = false:=bne_eq_false_iff_eq.mpr c8;clear c8
     (first | rw [c8b0] | (simp only [i64_w,i32_w];rw [c8b0]) | skip)
     by_cases c9 : ((rd_T30 l0 x7_1).f0) = (-1)
     rotate_left
     ·
      rw [if_neg c9] at H;have c9b0 : (((rd_T30 l0 x7_1).f0) == (-1)) = false:=beq_eq_false_iff_ne.mpr c9;have c9b1 : (((rd_T30 l0 x7_1).f0) != (-1)) = true:=bne_iff_ne.mpr c9;have H':=Aside0.mk H;clear H;obtain ⟨hcz15_0,hcz15_1,hcz15_2,hcz15_3,hcz15_4,hfz15_0,hfz15_1,hfz15_2,hfz15_3,hfz15_4⟩:=q5_ BK102.out;go_wp2
      go_meet
      case rel => exact ⟨_,(true),(by first | rfl | (simp;done) | (simp [*];done)),H',⟨by have:=HK1.out;first | omega | exact Nat.le_refl _⟩,⟨by (with_reducible repeat (first | refine blk_drewN ?_ _ | refine blk_drew ?_ | refine blk_alloc ?_ _));refine blk_put (cs:=#[.int .i64 ((rd_T30 l0 x7_1).f0),.int .i64 ((rd_T30 l0 x7_1).f1),.int .i64 ((rd_T30 l0 x7_1).f2),.int .i64 ((rd_T30 l0 x7_1).f3),.int .i64 0]) ?_ 4 _ rfl;(with_reducible repeat (first | refine blk_drewN ?_ _ | refine blk_drew ?_ | refine blk_alloc ?_ _));refine blk_put (cs:=#[.int .i64 ((rd_T30 l0 x7_1).f0),.int .i64 ((rd_T30 l0 x7_1).f1),.int .i64 ((rd_T30 l0 x7_1).f2),.int .i64 0,.int .i64 0]) ?_ 3 _ rfl;(with_reducible repeat (first | refine blk_drewN ?_ _ | refine blk_drew ?_ | refine blk_alloc ?_ _));refine blk_put (cs:=#[.int .i64 ((rd_T30 l0 x7_1).f0),.int .i64 ((rd_T30 l0 x7_1).f1),.int .i64 0,.int .i64 0,.int .i64 0]) ?_ 2 _ rfl;(with_reducible repeat (first | refine blk_drewN ?_ _ | refine blk_drew ?_ | refine blk_alloc ?_ _));refine blk_put (cs:=#[.int .i64 ((rd_T30 l0 x7_1).f0),.int .i64 0,.int .i64 0,.int .i64 0,.int .i64 0]) ?_ 1 _ rfl;(with_reducible repeat (first | refine blk_drewN ?_ _ | refine blk_drew ?_ | refine blk_alloc ?_ _));refine blk_put (cs:=#[.int .i64 0,.int .i64 0,.int .i64 0,.int .i64 0,.int .i64 0]) ?_ 0 _ rfl;(with_reducible repeat (first | refine blk_drewN ?_ _ | refine blk_drew ?_ | refine blk_alloc ?_ _));exact BK102.out⟩,⟨by repeat (first | (with_reducible first | exact HB.out | apply b0_ | apply b1_ | apply b2_ | refine below_set ?_ GE102.out) | exact HB.out)⟩⟩
     rw [if_pos c9] at H;have c9b0 : (((rd_T30 l0 x7_1).f0) == (-1)) = true:=beq_iff_eq.mpr c9;have c9b1 : (((rd_T30 l0 x7_1).f0) != (-1)) = false:=bne_eq_false_iff_eq.mpr c9;clear c9;by_cases c10 : x7_1 > 0
     rotate_left
     ·
      rw [if_neg c10] at H;have c10b0 : decide (0 < x7_1) = false:=decide_eq_false c10;clear c10;have H':=Aside0.mk H;clear H;obtain ⟨hcz14_0,hcz14_1,hcz14_2,hcz14_3,hcz14_4,hfz14_0,hfz14_1,hfz14_2,hfz14_3,hfz14_4⟩:=q5_ BK102.out;go_wp2
      go_meet
      case rel => exact ⟨_,(false),(by first | rfl | (simp;done) | (simp [*];done)),H',⟨by have:=HK1.out;first | omega | exact Nat.le_refl _⟩,⟨by (with_reducible repeat (first | refine blk_drewN ?_ _ | refine blk_drew ?_ | refine blk_alloc ?_ _));refine blk_put (cs:=#[.int .i64 ((rd_T30 l0 x7_1).f0),.int .i64 ((rd_T30 l0 x7_1).f1),.int .i64 ((rd_T30 l0 x7_1).f2),.int .i64 ((rd_T30 l0 x7_1).f3),.int .i64 0]) ?_ 4 _ rfl;(with_reducible repeat (first | refine blk_drewN ?_ _ | refine blk_drew ?_ | refine blk_alloc ?_ _));refine blk_put (cs:=#[.int .i64 ((rd_T30 l0 x7_1).f0),.int .i64 ((rd_T30 l0 x7_1).f1),.int .i64 ((rd_T30 l0 x7_1).f2),.int .i64 0,.int .i64 0]) ?_ 3 _ rfl;(with_reducible repeat (first | refine blk_drewN ?_ _ | refine blk_drew ?_ | refine blk_alloc ?_ _));refine blk_put (cs:=#[.int .i64 ((rd_T30 l0 x7_1).f0),.int .i64 ((rd_T30 l0 x7_1).f1),.int .i64 0,.int .i64 0,.int .i64 0]) ?_ 2 _ rfl;(with_reducible repeat (first | refine blk_drewN ?_ _ | refine blk_drew ?_ | refine blk_alloc ?_ _));refine blk_put (cs:=#[.int .i64 ((rd_T30 l0 x7_1).f0),.int .i64 0,.int .i64 0,.int .i64 0,.int .i64 0]) ?_ 1 _ rfl;(with_reducible repeat (first | refine blk_drewN ?_ _ | refine blk_drew ?_ | refine blk_alloc ?_ _));refine blk_put (cs:=#[.int .i64 0,.int .i64 0,.int .i64 0,.int .i64 0,.int .i64 0]) ?_ 0 _ rfl;(with_reducible repeat (first | refine blk_drewN ?_ _ | refine blk_drew ?_ | refine blk_alloc ?_ _));exact BK102.out⟩,⟨by repeat (first | (with_reducible first | exact HB.out | apply b0_ | apply b1_ | apply b2_ | refine below_set ?_ GE102.out) | exact HB.out)⟩⟩
     rw [if_pos c10] at H;have c10b0 : decide (0 < x7_1) = true:=decide_eq_true c10;clear c10;by_cases c11 : ((rd_T30 l0 x7_1).f0) < 0
     rotate_left
     ·
      rw [if_neg c11] at H;have c11b0 : decide (((rd_T30 l0 x7_1).f0) < 0) = false:=decide_eq_false c11;clear c11;have H':=Aside0.mk H;clear H;obtain ⟨hcz13_0,hcz13_1,hcz13_2,hcz13_3,hcz13_4,hfz13_0,hfz13_1,hfz13_2,hfz13_3,hfz13_4⟩:=q5_ BK102.out;go_wp2
      go_meet
      case rel => exact ⟨_,(decide (((rd_T30 l0 x7_1).f0)≥x7_1)),(by first | rfl | (simp;done) | (simp [*];done)),H',⟨by have:=HK1.out;first | omega | exact Nat.le_refl _⟩,⟨by (with_reducible repeat (first | refine blk_drewN ?_ _ | refine blk_drew ?_ | refine blk_alloc ?_ _));refine blk_put (cs:=#[.int .i64 ((rd_T30 l0 x7_1).f0),.int .i64 ((rd_T30 l0 x7_1).f1),.int .i64 ((rd_T30 l0 x7_1).f2),.int .i64 ((rd_T30 l0 x7_1).f3),.int .i64 0]) ?_ 4 _ rfl;(with_reducible repeat (first | refine blk_drewN ?_ _ | refine blk_drew ?_ | refine blk_alloc ?_ _));refine blk_put (cs:=#[.int .i64 ((rd_T30 l0 x7_1).f0),.int .i64 ((rd_T30 l0 x7_1).f1),.int .i64 ((rd_T30 l0 x7_1).f2),.int .i64 0,.int .i64 0]) ?_ 3 _ rfl;(with_reducible repeat (first | refine blk_drewN ?_ _ | refine blk_drew ?_ | refine blk_alloc ?_ _));refine blk_put (cs:=#[.int .i64 ((rd_T30 l0 x7_1).f0),.int .i64 ((rd_T30 l0 x7_1).f1),.int .i64 0,.int .i64 0,.int .i64 0]) ?_ 2 _ rfl;(with_reducible repeat (first | refine blk_drewN ?_ _ | refine blk_drew ?_ | refine blk_alloc ?_ _));refine blk_put (cs:=#[.int .i64 ((rd_T30 l0 x7_1).f0),.int .i64 0,.int .i64 0,.int .i64 0,.int .i64 0]) ?_ 1 _ rfl;(with_reducible repeat (first | refine blk_drewN ?_ _ | refine blk_drew ?_ | refine blk_alloc ?_ _));refine blk_put (cs:=#[.int .i64 0,.int .i64 0,.int .i64 0,.int .i64 0,.int .i64 0]) ?_ 0 _ rfl;(with_reducible repeat (first | refine blk_drewN ?_ _ | refine blk_drew ?_ | refine blk_alloc ?_ _));exact BK102.out⟩,⟨by repeat (first | (with_reducible first | exact HB.out | apply b0_ | apply b1_ | apply b2_ | refine below_set ?_ GE102.out) | exact HB.out)⟩⟩
     rw [if_pos c11] at H;have c11b0 : decide (((rd_T30 l0 x7_1).f0) < 0) = true:=decide_eq_true c11;clear c11;have H':=Aside0.mk H;clear H;obtain ⟨hcz12_0,hcz12_1,hcz12_2,hcz12_3,hcz12_4,hfz12_0,hfz12_1,hfz12_2,hfz12_3,hfz12_4⟩:=q5_ BK102.out;go_wp2
     go_meet
     case rel => exact ⟨_,(true),(by first | rfl | (simp;done) | (simp [*];done)),H',⟨by have:=HK1.out;first | omega | exact Nat.le_refl _⟩,⟨by (with_reducible repeat (first | refine blk_drewN ?_ _ | refine blk_drew ?_ | refine blk_alloc ?_ _));refine blk_put (cs:=#[.int .i64 ((rd_T30 l0 x7_1).f0),.int .i64 ((rd_T30 l0 x7_1).f1),.int .i64 ((rd_T30 l0 x7_1).f2),.int .i64 ((rd_T30 l0 x7_1).f3),.int .i64 0]) ?_ 4 _ rfl;(with_reducible repeat (first | refine blk_drewN ?_ _ | refine blk_drew ?_ | refine blk_alloc ?_ _));refine blk_put (cs:=#[.int .i64 ((rd_T30 l0 x7_1).f0),.int .i64 ((rd_T30 l0 x7_1).f1),.int .i64 ((rd_T30 l0 x7_1).f2),.int .i64 0,.int .i64 0]) ?_ 3 _ rfl;(with_reducible repeat (first | refine blk_drewN ?_ _ | refine blk_drew ?_ | refine blk_alloc ?_ _));refine blk_put (cs:=#[.int .i64 ((rd_T30 l0 x7_1).f0),.int .i64 ((rd_T30 l0 x7_1).f1),.int .i64 0,.int .i64 0,.int .i64 0]) ?_ 2 _ rfl;(with_reducible repeat (first | refine blk_drewN ?_ _ | refine blk_drew ?_ | refine blk_alloc ?_ _));refine blk_put (cs:=#[.int .i64 ((rd_T30 l0 x7_1).f0),.int .i64 0,.int .i64 0,.int .i64 0,.int .i64 0]) ?_ 1 _ rfl;(with_reducible repeat (first | refine blk_drewN ?_ _ | refine blk_drew ?_ | refine blk_alloc ?_ _));refine blk_put (cs:=#[.int .i64 0,.int .i64 0,.int .i64 0,.int .i64 0,.int .i64 0]) ?_ 0 _ rfl;(with_reducible repeat (first | refine blk_drewN ?_ _ | refine blk_drew ?_ | refine blk_alloc ?_ _));exact BK102.out⟩,⟨by repeat (first | (with_reducible first | exact HB.out | apply b0_ | apply b1_ | apply b2_ | refine below_set ?_ GE102.out) | exact HB.out)⟩⟩
    case rest =>
     clear HC5;obtain ⟨kq,x33_4,rfl,HA,HJ4,BK102,HB⟩:=hcut
     cases kq with
      | zero => exact absurd HA.out (by simp [accounts_tree.j1])
      | succ kj4 =>
       have H:=HA.out;clear HA;simp only [accounts_tree.j1] at H;by_cases c20 : x33_4 = true
       rotate_left
       ·
        replace c20:=Bool.eq_false_iff.mpr c20;subst c20
        have H1 : (accounts_tree.l0 kj4 l0 (l0.length : Int) (wrap64 (x7_1 + 1))) = some r:=by rw [if_neg (show ¬ (false = true) by decide)] at H;exact H
        clear H;have H:=H1;clear H1;have H':=Aside0.mk H;clear H;go_wp2
        go_roundg kj4
        case measure => have:=HK1.out;have:=HJ4.out;omega
        case rel => exact ⟨(wrap64 (x7_1 + 1)),(by first | rfl | (simp;done) | (simp [*];done)),H',⟨by have:=HK1.out;have:=HJ4.out;omega⟩,⟨by repeat (first | (with_reducible first | exact HB.out | apply b0_ | apply b1_ | apply b2_ | refine below_set ?_ GE102.out) | exact HB.out)⟩⟩
       subst c20
       have H1 : (some false) = some r:=by rw [if_pos rfl] at H;exact H
       clear H;have H:=H1;clear H1;obtain rfl:=Option.some.inj H;go_wp2;go_ret;exact ⟨by first | rfl | (simp [errW_none,errW_some] <;> rfl) | (simp [*,errW_none,errW_some] <;> rfl),by repeat (first | (with_reducible first | exact HB.out | apply b0_ | apply b1_ | apply b2_ | refine below_set ?_ GE102.out) | exact HB.out)⟩
def accounts_in.f (a0 : Int) : Option (Bool):=if a0≥0 then (some (decide (a0≤1048576))) else (some false)
set_option maxHeartbeats 8000000 in
set_option maxRecDepth 100000 in
theorem accounts_in.calls (a0 : Int) (r : Bool) (w : World) (h : accounts_in.f a0 = some r) :
 Calls Try.prog 91 #[.int .i64 a0] w fun e w' => e = .returned (.bool r)∧Drawn0 w w':=by
 have H : (if a0≥0 then (some (decide (a0≤1048576))) else (some false)) = some r:=h;clear h;by_cases c2 : a0≥0
 rotate_left
 ·
  rw [if_neg c2] at H;have c2b0 : decide (0≤a0) = false:=decide_eq_false c2;clear c2;obtain rfl:=Option.some.inj H
  go_enter Try.func91,Try.ntmps91
  go_wp2;go_ret
  exact ⟨by first | rfl | (simp;done) | (simp [*];done),by repeat (first | exact Drawn0.refl _ | apply Drawn0.step)⟩
 rw [if_pos c2] at H;have c2b0 : decide (0≤a0) = true:=decide_eq_true c2;clear c2;obtain rfl:=Option.some.inj H
 go_enter Try.func91,Try.ntmps91
 go_wp2;go_ret
 exact ⟨by first | rfl | (simp;done) | (simp [*];done),by repeat (first | exact Drawn0.refl _ | apply Drawn0.step)⟩
mutual
def accounts_amounts.l0 : Nat→List (S30)→List (S30)→Int→Int→Option (Bool)
 | 0,_,_,_,_ => none
 | k + 1,x0,x5,x6,x7 => if x7 < x6 then (if 0≤x7 then (if x7 < (x5.length : Int) then ((accounts_in.f ((rd_T30 x5 x7).f1)).bind fun t107 => (if t107 = true then ((accounts_in.f ((rd_T30 x5 x7).f2)).bind fun t108 => (if t108 = true then ((accounts_in.f ((rd_T30 x5 x7).f3)).bind fun t109 => (if t109 = true then ((accounts_in.f ((rd_T30 x5 x7).f4)).bind fun t110 => (accounts_amounts.j1 k x0 x5 x6 x7 (!t110))) else (accounts_amounts.j1 k x0 x5 x6 x7 true))) else (accounts_amounts.j1 k x0 x5 x6 x7 true))) else (accounts_amounts.j1 k x0 x5 x6 x7 true))) else (none)) else (none)) else (if 0 < (x0.length : Int) then (if ((rd_T30 x0 0).f2) = 0 then (some (((rd_T30 x0 0).f3) == 0)) else (some false)) else (none))
def accounts_amounts.j1 : Nat→List (S30)→List (S30)→Int→Int→Bool→Option (Bool)
 | 0,_,_,_,_,_ => none
 | k + 1,x0,x5,x6,x7,x32 => if x32 = true then (some false) else (accounts_amounts.l0 k x0 x5 x6 (wrap64 (x7 + 1)))
end
def accounts_amounts.f (k : Nat) (l0 : List (S30)) : Option (Bool):=accounts_amounts.l0 k l0 l0 (l0.length : Int) 0
theorem accounts_amounts.mono_l : ∀ k,(∀ y0 y1 y2 y3,LeO (accounts_amounts.l0 k y0 y1 y2 y3) (accounts_amounts.l0 (k + 1) y0 y1 y2 y3))∧(∀ y0 y1 y2 y3 y4,LeO (accounts_amounts.j1 k y0 y1 y2 y3 y4) (accounts_amounts.j1 (k + 1) y0 y1 y2 y3 y4))
 | 0 => ⟨fun _ _ _ _ r h => by simp [accounts_amounts.l0] at h,fun _ _ _ _ _ r h => by simp [accounts_amounts.j1] at h⟩
 | k + 1 => by
  obtain ⟨ih0,ih1⟩:=accounts_amounts.mono_l k;refine ⟨?_,?_⟩
  ·
   intro y0 y1 y2 y3
   unfold accounts_amounts.l0
   repeat' first
    | (with_reducible exact ih0 _ _ _ _)
    | (with_reducible exact ih1 _ _ _ _ _)
    | (with_reducible exact LeO.refl _)
    | (with_reducible exact LeO.none _)
    | (with_reducible refine LeO.ite ?_ ?_)
    | (with_reducible refine LeO.bind ?_ (fun _ => ?_))
    | exact ih0 _ _ _ _
    | exact ih1 _ _ _ _ _
    | exact LeO.none _
    | refine LeO.ite ?_ ?_
    | refine LeO.bind ?_ (fun _ => ?_)
  ·
   intro y0 y1 y2 y3 y4
   unfold accounts_amounts.j1
   repeat' first
    | (with_reducible exact ih0 _ _ _ _)
    | (with_reducible exact ih1 _ _ _ _ _)
    | (with_reducible exact LeO.refl _)
    | (with_reducible exact LeO.none _)
    | (with_reducible refine LeO.ite ?_ ?_)
    | (with_reducible refine LeO.bind ?_ (fun _ => ?_))
    | exact ih0 _ _ _ _
    | exact ih1 _ _ _ _ _
    | exact LeO.none _
    | refine LeO.ite ?_ ?_
    | refine LeO.bind ?_ (fun _ => ?_)
theorem accounts_amounts.mono : ∀ a0 k,LeO (accounts_amounts.f k a0) (accounts_amounts.f (k + 1) a0):=by
 intro a0 k;obtain ⟨ih0,ih1⟩:=accounts_amounts.mono_l k
 unfold accounts_amounts.f
 repeat' first
  | (with_reducible exact ih0 _ _ _ _)
  | (with_reducible exact ih1 _ _ _ _ _)
  | (with_reducible exact LeO.refl _)
  | (with_reducible exact LeO.none _)
  | (with_reducible refine LeO.ite ?_ ?_)
  | (with_reducible refine LeO.bind ?_ (fun _ => ?_))
  | exact ih0 _ _ _ _
  | exact ih1 _ _ _ _ _
  | exact LeO.none _
  | refine LeO.ite ?_ ?_
  | refine LeO.bind ?_ (fun _ => ?_)
set_option maxHeartbeats 8000000 in
set_option maxRecDepth 100000 in
theorem accounts_amounts.calls (k : Nat) (A0 : Option Addr) (c0 : Nat) (l0 : List (S30)) (r : Bool) (w : World) (hr0 : Kd.C k30 w A0 l0.length l0) (hc0 : l0.length≤c0) (h : accounts_amounts.f k l0 = some r) :
 Calls Try.prog 76 #[.slice A0 l0.length c0] w fun e w' => e = .returned (.bool r)∧Below w.heap.size w w':=by
 have hu30:=Try.underlying30;have HR0:=Aside0.mk hr0;have HC0:=Aside0.mk hc0;clear hr0 hc0;have HB:=Aside0.mk (Below.refl w.heap.size w);have H : (accounts_amounts.l0 k l0 l0 (l0.length : Int) 0) = some r:=h;clear h;have H':=Aside0.mk H;clear H
 go_enter Try.func76,Try.ntmps76
 go_wp2
 go_loopg [7] k (fun kq v7 w' => ∃ (x7_1 : Int),v7 = .int .i64 x7_1∧Aside0 (accounts_amounts.l0 kq l0 l0 (l0.length : Int) x7_1 = some r)∧Aside0 (kq≤k)∧Aside0 (Below w.heap.size w w'))
 case atStart => exact ⟨(0),(by first | rfl | (simp;done) | (simp [*];done)),H',⟨Nat.le_refl _⟩,⟨by repeat (first | (with_reducible first | exact HB.out | apply b0_ | apply b1_ | apply b2_) | exact HB.out)⟩⟩
 case round =>
  clear H';obtain ⟨x7_1,rfl,HA,HK1,HB⟩:=hrel
  cases gk with
   | zero => exact absurd HA.out (by simp [accounts_amounts.l0])
   | succ k1 =>
    have H:=HA.out;clear HA;simp only [accounts_amounts.l0] at H;by_cases c2 : x7_1 < (l0.length : Int)
    rotate_left
    ·
     rw [if_neg c2] at H;have c2b0 : decide (x7_1 < (l0.length : Int)) = false:=decide_eq_false c2;clear c2;by_cases c20 : 0 < (l0.length : Int)
     rotate_left
     · rw [if_neg c20] at H;exact absurd H (by simp)
     rw [if_pos c20] at H;have c20b0 : decide (0 < (l0.length : Int)) = true:=decide_eq_true c20;have c20b1 : decide (0 < l0.length) = true:=decide_eq_true (by omega);clear c20;by_cases c21 : ((rd_T30 l0 0).f2) = 0
     rotate_left
     ·
      rw [if_neg c21] at H;have c21b0 : (((rd_T30 l0 0).f2) == 0) = false:=beq_eq_false_iff_ne.mpr c21;have c21b1 : (((rd_T30 l0 0).f2) != 0) = true:=bne_iff_ne.mpr c21;obtain rfl:=Option.some.inj H;have p103 : 0≤(0 : Int):=(by omega);have q103 : 0 < (l0.length : Int):=of_decide_eq_true (by first | (with_reducible assumption) | assumption)
      obtain ⟨ad103,e103,hx103_0,hx103_1,hx103_2,hx103_3,hx103_4⟩:=at_T30 HR0.out 0 p103 q103;cases e103;have qi103 : (0 < l0.length) = True:=eq_true (by omega)
      (try rw [show ((0 : Int)).toNat = 0 from rfl] at hx103_0)
      (try rw [show 0 * 5 = 0 from rfl] at hx103_0)
      (try rw [Addr.add_zero'] at hx103_0)
      (try rw [show ((0 : Int)).toNat = 0 from rfl] at hx103_1)
      (try rw [show 0 * 5 = 0 from rfl] at hx103_1)
      (try rw [Addr.add_zero'] at hx103_1)
      (try rw [show ((0 : Int)).toNat = 0 from rfl] at hx103_2)
      (try rw [show 0 * 5 = 0 from rfl] at hx103_2)
      (try rw [Addr.add_zero'] at hx103_2)
      (try rw [show ((0 : Int)).toNat = 0 from rfl] at hx103_3)
      (try rw [show 0 * 5 = 0 from rfl] at hx103_3)
      (try rw [Addr.add_zero'] at hx103_3)
      (try rw [show ((0 : Int)).toNat = 0 from rfl] at hx103_4)
      (try rw [show 0 * 5 = 0 from rfl] at hx103_4)
      (try rw [Addr.add_zero'] at hx103_4)
      replace hx103_0:=(HB.out.cell (World.block_lt_of_cell? w _ hx103_0)).trans hx103_0;replace hx103_1:=(HB.out.cell (World.block_lt_of_cell? w _ hx103_1)).trans hx103_1;replace hx103_2:=(HB.out.cell (World.block_lt_of_cell? w _ hx103_2)).trans hx103_2;replace hx103_3:=(HB.out.cell (World.block_lt_of_cell? w _ hx103_3)).trans hx103_3
      replace hx103_4:=(HB.out.cell (World.block_lt_of_cell? w _ hx103_4)).trans hx103_4;replace p103:=eq_true p103;replace q103:=eq_true q103;go_wp2;go_ret;exact ⟨by first | rfl | (simp [errW_none,errW_some] <;> rfl) | (simp [*,errW_none,errW_some] <;> rfl),by repeat (first | (with_reducible first | exact HB.out | apply b0_ | apply b1_ | apply b2_) | exact HB.out)⟩
     rw [if_pos c21] at H;have c21b0 : (((rd_T30 l0 0).f2) == 0) = true:=beq_iff_eq.mpr c21;have c21b1 : (((rd_T30 l0 0).f2) != 0) = false:=bne_eq_false_iff_eq.mpr c21;clear c21;obtain rfl:=Option.some.inj H;have p103 : 0≤(0 : Int):=(by omega);have q103 : 0 < (l0.length : Int):=of_decide_eq_true (by first | (with_reducible assumption) | assumption)
     obtain ⟨ad103,e103,hx103_0,hx103_1,hx103_2,hx103_3,hx103_4⟩:=at_T30 HR0.out 0 p103 q103;cases e103;have qi103 : (0 < l0.length) = True:=eq_true (by omega)
     (try rw [show ((0 : Int)).toNat = 0 from rfl] at hx103_0)
     (try rw [show 0 * 5 = 0 from rfl] at hx103_0)
     (try rw [Addr.add_zero'] at hx103_0)
     (try rw [show ((0 : Int)).toNat = 0 from rfl] at hx103_1)
     (try rw [show 0 * 5 = 0 from rfl] at hx103_1)
     (try rw [Addr.add_zero'] at hx103_1)
     (try rw [show ((0 : Int)).toNat = 0 from rfl] at hx103_2)
     (try rw [show 0 * 5 = 0 from rfl] at hx103_2)
     (try rw [Addr.add_zero'] at hx103_2)
     (try rw [show ((0 : Int)).toNat = 0 from rfl] at hx103_3)
     (try rw [show 0 * 5 = 0 from rfl] at hx103_3)
     (try rw [Addr.add_zero'] at hx103_3)
     (try rw [show ((0 : Int)).toNat = 0 from rfl] at hx103_4)
     (try rw [show 0 * 5 = 0 from rfl] at hx103_4)
     (try rw [Addr.add_zero'] at hx103_4)
     replace hx103_0:=(HB.out.cell (World.block_lt_of_cell? w _ hx103_0)).trans hx103_0;replace hx103_1:=(HB.out.cell (World.block_lt_of_cell? w _ hx103_1)).trans hx103_1;replace hx103_2:=(HB.out.cell (World.block_lt_of_cell? w _ hx103_2)).trans hx103_2;replace hx103_3:=(HB.out.cell (World.block_lt_of_cell? w _ hx103_3)).trans hx103_3
     replace hx103_4:=(HB.out.cell (World.block_lt_of_cell? w _ hx103_4)).trans hx103_4;replace p103:=eq_true p103;replace q103:=eq_true q103;have p104 : 0≤(0 : Int):=(by omega);have q104 : 0 < (l0.length : Int):=of_decide_eq_true (by first | (with_reducible assumption) | assumption);obtain ⟨ad104,e104,hx104_0,hx104_1,hx104_2,hx104_3,hx104_4⟩:=at_T30 HR0.out 0 p104 q104
     obtain rfl : ad103 = ad104:=(by injection e104);have qi104 : (0 < l0.length) = True:=eq_true (by omega)
     (try rw [show ((0 : Int)).toNat = 0 from rfl] at hx104_0)
     (try rw [show 0 * 5 = 0 from rfl] at hx104_0)
     (try rw [Addr.add_zero'] at hx104_0)
     (try rw [show ((0 : Int)).toNat = 0 from rfl] at hx104_1)
     (try rw [show 0 * 5 = 0 from rfl] at hx104_1)
     (try rw [Addr.add_zero'] at hx104_1)
     (try rw [show ((0 : Int)).toNat = 0 from rfl] at hx104_2)
     (try rw [show 0 * 5 = 0 from rfl] at hx104_2)
     (try rw [Addr.add_zero'] at hx104_2)
     (try rw [show ((0 : Int)).toNat = 0 from rfl] at hx104_3)
     (try rw [show 0 * 5 = 0 from rfl] at hx104_3)
     (try rw [Addr.add_zero'] at hx104_3)
     (try rw [show ((0 : Int)).toNat = 0 from rfl] at hx104_4)
     (try rw [show 0 * 5 = 0 from rfl] at hx104_4)
     (try rw [Addr.add_zero'] at hx104_4)
     replace hx104_0:=(HB.out.cell (World.block_lt_of_cell? w _ hx104_0)).trans hx104_0;replace hx104_1:=(HB.out.cell (World.block_lt_of_cell? w _ hx104_1)).trans hx104_1;replace hx104_2:=(HB.out.cell (World.block_lt_of_cell? w _ hx104_2)).trans hx104_2;replace hx104_3:=(HB.out.cell (World.block_lt_of_cell? w _ hx104_3)).trans hx104_3
     replace hx104_4:=(HB.out.cell (World.block_lt_of_cell? w _ hx104_4)).trans hx104_4;replace p104:=eq_true p104;replace q104:=eq_true q104;go_wp2;go_ret;exact ⟨by first | rfl | (simp [errW_none,errW_some] <;> rfl) | (simp [*,errW_none,errW_some] <;> rfl),by repeat (first | (with_reducible first | exact HB.out | apply b0_ | apply b1_ | apply b2_) | exact HB.out)⟩
    rw [if_pos c2] at H;have c2b0 : decide (x7_1 < (l0.length : Int)) = true:=decide_eq_true c2;clear c2;by_cases c3 : 0≤x7_1
    rotate_left
    · rw [if_neg c3] at H;exact absurd H (by simp)
    rw [if_pos c3] at H;have c3b0 : decide (0≤x7_1) = true:=decide_eq_true c3;clear c3;by_cases c4 : x7_1 < (l0.length : Int)
    rotate_left
    · rw [if_neg c4] at H;exact absurd H (by simp)
    rw [if_pos c4] at H;have c4b0 : decide (x7_1 < (l0.length : Int)) = true:=decide_eq_true c4;clear c4;have HC5:=Aside0.mk H;clear H;have p105 : 0≤(x7_1 : Int):=of_decide_eq_true (by first | (with_reducible assumption) | assumption);have q105 : x7_1 < (l0.length : Int):=of_decide_eq_true (by first | (with_reducible assumption) | assumption)
    obtain ⟨ad105,e105,hx105_0,hx105_1,hx105_2,hx105_3,hx105_4⟩:=at_T30 HR0.out x7_1 p105 q105;cases e105;replace hx105_0:=(HB.out.cell (World.block_lt_of_cell? w _ hx105_0)).trans hx105_0;replace hx105_1:=(HB.out.cell (World.block_lt_of_cell? w _ hx105_1)).trans hx105_1;replace hx105_2:=(HB.out.cell (World.block_lt_of_cell? w _ hx105_2)).trans hx105_2
    replace hx105_3:=(HB.out.cell (World.block_lt_of_cell? w _ hx105_3)).trans hx105_3;replace hx105_4:=(HB.out.cell (World.block_lt_of_cell? w _ hx105_4)).trans hx105_4;replace p105:=eq_true p105;replace q105:=eq_true q105
    go_upto_region 4 with (first | ((with_reducible refine gate_dst (N:=4) rfl ?_);refine box_event ?hg (N:=4) ?hd (cs:=#[.int .i64 0,.int .i64 0,.int .i64 0,.int .i64 0,.int .i64 0]) (t:=30) ?hr ?_;(case hd => rfl);(case hg => rfl);(case hr => first | (go_simp;done) | (go_simp;rfl));intro gb106 hg w6 hbox hb;have n0_:=Aside0.mk (below_step (by repeat (first | (with_reducible first | exact HB.out | apply b0_ | apply b1_ | apply b2_) | exact HB.out)) hb);have n1_:=Aside0.mk (hbox);have n2_:=Aside0.mk ((by rw [hg];exact (below_size (by repeat (first | (with_reducible first | exact HB.out | apply b0_ | apply b1_ | apply b2_) | exact HB.out))) : w.heap.size≤gb106));have n3_:=Aside0.mk ((by rw [hg];exact (below_size (by repeat (first | (with_reducible first | exact HB.out | apply b0_ | apply b1_ | apply b2_) | exact HB.out))) : w.heap.size≤gb106));clear HB;have HB:=n0_;have BK106:=n1_;have GW106:=n2_;have GE106:=n3_;clear n0_ n1_ n2_ n3_;clear hb hbox hg;obtain ⟨hcz7_0,hcz7_1,hcz7_2,hcz7_3,hcz7_4,hfz7_0,hfz7_1,hfz7_2,hfz7_3,hfz7_4⟩:=q5_ BK106.out))
    (try simp only [Act.put,List.setIfInBounds_toArray,List.set_cons_zero,List.set_cons_succ])
    go_cut [32] (fun v32 wc => ∃ (kq : Nat) (x32_4 : Bool),v32 = .bool x32_4∧Aside0 (accounts_amounts.j1 kq l0 l0 (l0.length : Int) x7_1 x32_4 = some r)∧Aside0 (kq≤k1)∧Aside0 (wc.heap[gb106]? = some (.cells #[.int .i64 ((rd_T30 l0 x7_1).f0),.int .i64 ((rd_T30 l0 x7_1).f1),.int .i64 ((rd_T30 l0 x7_1).f2),.int .i64 ((rd_T30 l0 x7_1).f3),.int .i64 ((rd_T30 l0 x7_1).f4)] 30 (0,0)))∧Aside0 (Below w.heap.size w wc))
    case first =>
     have H:=HC5.out;clear HC5;replace H:=Option.bind_eq_some_iff.mp H;obtain ⟨t107,A80,H⟩:=H
     replace H : (if t107 = true then ((accounts_in.f ((rd_T30 l0 x7_1).f2)).bind fun t108 => (if t108 = true then ((accounts_in.f ((rd_T30 l0 x7_1).f3)).bind fun t109 => (if t109 = true then ((accounts_in.f ((rd_T30 l0 x7_1).f4)).bind fun t110 => (accounts_amounts.j1 k1 l0 l0 (l0.length : Int) x7_1 (!t110))) else (accounts_amounts.j1 k1 l0 l0 (l0.length : Int) x7_1 true))) else (accounts_amounts.j1 k1 l0 l0 (l0.length : Int) x7_1 true))) else (accounts_amounts.j1 k1 l0 l0 (l0.length : Int) x7_1 true)) = some r:=H
     have A8:=Aside0.mk A80;clear A80;by_cases c9 : t107 = true
     rotate_left
     ·
      replace c9:=Bool.eq_false_iff.mpr c9;subst c9
      have H1 : (accounts_amounts.j1 k1 l0 l0 (l0.length : Int) x7_1 true) = some r:=by rw [if_neg (show ¬ (false = true) by decide)] at H;exact H
      clear H;have H:=H1;clear H1;have H':=Aside0.mk H;clear H;obtain ⟨hcz18_0,hcz18_1,hcz18_2,hcz18_3,hcz18_4,hfz18_0,hfz18_1,hfz18_2,hfz18_3,hfz18_4⟩:=q5_ BK106.out
      go_wp2_with (first | ((with_reducible refine gate_callee (f:=91) rfl ?_);refine goesL_ (some 13) rfl rfl Try.func91 (by kernel_rfl) rfl #[.int .i64 ((rd_T30 l0 x7_1).f1)] rfl (by (try simp only [z3_,z4_,z5_]);first | done | rfl | (simp only [z6_,z7_];rfl)) ?_;(with_reducible refine (accounts_in.calls ((rd_T30 l0 x7_1).f1) false _ A8.out).mono ?_);rintro e w' ⟨rfl,⟨nd,rfl⟩⟩;refine ⟨_,rfl,?_⟩))
      go_meet
      case rel => exact ⟨_,(true),(by first | rfl | (simp;done) | (simp [*];done)),H',⟨by have:=HK1.out;first | omega | exact Nat.le_refl _⟩,⟨by (with_reducible repeat (first | refine blk_drewN ?_ _ | refine blk_drew ?_ | refine blk_alloc ?_ _));refine blk_put (cs:=#[.int .i64 ((rd_T30 l0 x7_1).f0),.int .i64 ((rd_T30 l0 x7_1).f1),.int .i64 ((rd_T30 l0 x7_1).f2),.int .i64 ((rd_T30 l0 x7_1).f3),.int .i64 0]) ?_ 4 _ rfl;(with_reducible repeat (first | refine blk_drewN ?_ _ | refine blk_drew ?_ | refine blk_alloc ?_ _));refine blk_put (cs:=#[.int .i64 ((rd_T30 l0 x7_1).f0),.int .i64 ((rd_T30 l0 x7_1).f1),.int .i64 ((rd_T30 l0 x7_1).f2),.int .i64 0,.int .i64 0]) ?_ 3 _ rfl;(with_reducible repeat (first | refine blk_drewN ?_ _ | refine blk_drew ?_ | refine blk_alloc ?_ _));refine blk_put (cs:=#[.int .i64 ((rd_T30 l0 x7_1).f0),.int .i64 ((rd_T30 l0 x7_1).f1),.int .i64 0,.int .i64 0,.int .i64 0]) ?_ 2 _ rfl;(with_reducible repeat (first | refine blk_drewN ?_ _ | refine blk_drew ?_ | refine blk_alloc ?_ _));refine blk_put (cs:=#[.int .i64 ((rd_T30 l0 x7_1).f0),.int .i64 0,.int .i64 0,.int .i64 0,.int .i64 0]) ?_ 1 _ rfl;(with_reducible repeat (first | refine blk_drewN ?_ _ | refine blk_drew ?_ | refine blk_alloc ?_ _));refine blk_put (cs:=#[.int .i64 0,.int .i64 0,.int .i64 0,.int .i64 0,.int .i64 0]) ?_ 0 _ rfl;(with_reducible repeat (first | refine blk_drewN ?_ _ | refine blk_drew ?_ | refine blk_alloc ?_ _));exact BK106.out⟩,⟨by repeat (first | (with_reducible first | exact HB.out | apply b0_ | apply b1_ | apply b2_ | refine below_set ?_ GE106.out) | exact HB.out)⟩⟩
     subst c9
     have H1 : ((accounts_in.f ((rd_T30 l0 x7_1).f2)).bind fun t108 => (if t108 = true then ((accounts_in.f ((rd_T30 l0 x7_1).f3)).bind fun t109 => (if t109 = true then ((accounts_in.f ((rd_T30 l0 x7_1).f4)).bind fun t110 => (accounts_amounts.j1 k1 l0 l0 (l0.length : Int) x7_1 (!t110))) else (accounts_amounts.j1 k1 l0 l0 (l0.length : Int) x7_1 true))) else (accounts_amounts.j1 k1 l0 l0 (l0.length : Int) x7_1 true))) = some r:=by rw [if_pos rfl] at H;exact H
     clear H;have H:=H1;clear H1;replace H:=Option.bind_eq_some_iff.mp H;obtain ⟨t108,A100,H⟩:=H
     replace H : (if t108 = true then ((accounts_in.f ((rd_T30 l0 x7_1).f3)).bind fun t109 => (if t109 = true then ((accounts_in.f ((rd_T30 l0 x7_1).f4)).bind fun t110 => (accounts_amounts.j1 k1 l0 l0 (l0.length : Int) x7_1 (!t110))) else (accounts_amounts.j1 k1 l0 l0 (l0.length : Int) x7_1 true))) else (accounts_amounts.j1 k1 l0 l0 (l0.length : Int) x7_1 true)) = some r:=H;have A10:=Aside0.mk A100
     clear A100;by_cases c11 : t108 = true
     rotate_left
     ·
      replace c11:=Bool.eq_false_iff.mpr c11;subst c11
      have H1 : (accounts_amounts.j1 k1 l0 l0 (l0.length : Int) x7_1 true) = some r:=by rw [if_neg (show ¬ (false = true) by decide)] at H;exact H
      clear H;have H:=H1;clear H1;have H':=Aside0.mk H;clear H;obtain ⟨hcz17_0,hcz17_1,hcz17_2,hcz17_3,hcz17_4,hfz17_0,hfz17_1,hfz17_2,hfz17_3,hfz17_4⟩:=q5_ BK106.out
      go_wp2_with (first | ((with_reducible refine gate_callee (f:=91) rfl ?_);refine goesL_ (some 13) rfl rfl Try.func91 (by kernel_rfl) rfl #[.int .i64 ((rd_T30 l0 x7_1).f1)] rfl (by (try simp only [z3_,z4_,z5_]);first | done | rfl | (simp only [z6_,z7_];rfl)) ?_;(with_reducible refine (accounts_in.calls ((rd_T30 l0 x7_1).f1) true _ A8.out).mono ?_);rintro e w' ⟨rfl,⟨nd,rfl⟩⟩;refine ⟨_,rfl,?_⟩) | (go_at_call 91;(with_reducible refine (accounts_in.calls ((rd_T30 l0 x7_1).f2) false _ A10.out).mono ?_);rintro e w' ⟨rfl,⟨nd,rfl⟩⟩))
      go_meet
      case rel => exact ⟨_,(true),(by first | rfl | (simp;done) | (simp [*];done)),H',⟨by have:=HK1.out;first | omega | exact Nat.le_refl _⟩,⟨by (with_reducible repeat (first | refine blk_drewN ?_ _ | refine blk_drew ?_ | refine blk_alloc ?_ _));refine blk_put (cs:=#[.int .i64 ((rd_T30 l0 x7_1).f0),.int .i64 ((rd_T30 l0 x7_1).f1),.int .i64 ((rd_T30 l0 x7_1).f2),.int .i64 ((rd_T30 l0 x7_1).f3),.int .i64 0]) ?_ 4 _ rfl;(with_reducible repeat (first | refine blk_drewN ?_ _ | refine blk_drew ?_ | refine blk_alloc ?_ _));refine blk_put (cs:=#[.int .i64 ((rd_T30 l0 x7_1).f0),.int .i64 ((rd_T30 l0 x7_1).f1),.int .i64 ((rd_T30 l0 x7_1).f2),.int .i64 0,.int .i64 0]) ?_ 3 _ rfl;(with_reducible repeat (first | refine blk_drewN ?_ _ | refine blk_drew ?_ | refine blk_alloc ?_ _));refine blk_put (cs:=#[.int .i64 ((rd_T30 l0 x7_1).f0),.int .i64 ((rd_T30 l0 x7_1).f1),.int .i64 0,.int .i64 0,.int .i64 0]) ?_ 2 _ rfl;(with_reducible repeat (first | refine blk_drewN ?_ _ | refine blk_drew ?_ | refine blk_alloc ?_ _));refine blk_put (cs:=#[.int .i64 ((rd_T30 l0 x7_1).f0),.int .i64 0,.int .i64 0,.int .i64 0,.int .i64 0]) ?_ 1 _ rfl;(with_reducible repeat (first | refine blk_drewN ?_ _ | refine blk_drew ?_ | refine blk_alloc ?_ _));refine blk_put (cs:=#[.int .i64 0,.int .i64 0,.int .i64 0,.int .i64 0,.int .i64 0]) ?_ 0 _ rfl;(with_reducible repeat (first | refine blk_drewN ?_ _ | refine blk_drew ?_ | refine blk_alloc ?_ _));exact BK106.out⟩,⟨by repeat (first | (with_reducible first | exact HB.out | apply b0_ | apply b1_ | apply b2_ | refine below_set ?_ GE106.out) | exact HB.out)⟩⟩
     subst c11
     have H1 : ((accounts_in.f ((rd_T30 l0 x7_1).f3)).bind fun t109 => (if t109 = true then ((accounts_in.f ((rd_T30 l0 x7_1).f4)).bind fun t110 => (accounts_amounts.j1 k1 l0 l0 (l0.length : Int) x7_1 (!t110))) else (accounts_amounts.j1 k1 l0 l0 (l0.length : Int) x7_1 true))) = some r:=by rw [if_pos rfl] at H;exact H
     clear H;have H:=H1;clear H1;replace H:=Option.bind_eq_some_iff.mp H;obtain ⟨t109,A120,H⟩:=H;replace H : (if t109 = true then ((accounts_in.f ((rd_T30 l0 x7_1).f4)).bind fun t110 => (accounts_amounts.j1 k1 l0 l0 (l0.length : Int) x7_1 (!t110))) else (accounts_amounts.j1 k1 l0 l0 (l0.length : Int) x7_1 true)) = some r:=H;have A12:=Aside0.mk A120;clear A120
     by_cases c13 : t109 = true
     rotate_left
     ·
      replace c13:=Bool.eq_false_iff.mpr c13;subst c13
      have H1 : (accounts_amounts.j1 k1 l0 l0 (l0.length : Int) x7_1 true) = some r:=by rw [if_neg (show ¬ (false = true) by decide)] at H;exact H
      clear H;have H:=H1;clear H1;have H':=Aside0.mk H;clear H;obtain ⟨hcz16_0,hcz16_1,hcz16_2,hcz16_3,hcz16_4,hfz16_0,hfz16_1,hfz16_2,hfz16_3,hfz16_4⟩:=q5_ BK106.out
      go_wp2_with (first | ((with_reducible refine gate_callee (f:=91) rfl ?_);refine goesL_ (some 13) rfl rfl Try.func91 (by kernel_rfl) rfl #[.int .i64 ((rd_T30 l0 x7_1).f1)] rfl (by (try simp only [z3_,z4_,z5_]);first | done | rfl | (simp only [z6_,z7_];rfl)) ?_;(with_reducible refine (accounts_in.calls ((rd_T30 l0 x7_1).f1) true _ A8.out).mono ?_);rintro e w' ⟨rfl,⟨nd,rfl⟩⟩;refine ⟨_,rfl,?_⟩) | (go_at_call 91;(with_reducible refine (accounts_in.calls ((rd_T30 l0 x7_1).f2) true _ A10.out).mono ?_);rintro e w' ⟨rfl,⟨nd,rfl⟩⟩) | (go_at_call 91;(with_reducible refine (accounts_in.calls ((rd_T30 l0 x7_1).f3) false _ A12.out).mono ?_);rintro e w' ⟨rfl,⟨nd,rfl⟩⟩))
      go_meet
      case rel => exact ⟨_,(true),(by first | rfl | (simp;done) | (simp [*];done)),H',⟨by have:=HK1.out;first | omega | exact Nat.le_refl _⟩,⟨by (with_reducible repeat (first | refine blk_drewN ?_ _ | refine blk_drew ?_ | refine blk_alloc ?_ _));refine blk_put (cs:=#[.int .i64 ((rd_T30 l0 x7_1).f0),.int .i64 ((rd_T30 l0 x7_1).f1),.int .i64 ((rd_T30 l0 x7_1).f2),.int .i64 ((rd_T30 l0 x7_1).f3),.int .i64 0]) ?_ 4 _ rfl;(with_reducible repeat (first | refine blk_drewN ?_ _ | refine blk_drew ?_ | refine blk_alloc ?_ _));refine blk_put (cs:=#[.int .i64 ((rd_T30 l0 x7_1).f0),.int .i64 ((rd_T30 l0 x7_1).f1),.int .i64 ((rd_T30 l0 x7_1).f2),.int .i64 0,.int .i64 0]) ?_ 3 _ rfl;(with_reducible repeat (first | refine blk_drewN ?_ _ | refine blk_drew ?_ | refine blk_alloc ?_ _));refine blk_put (cs:=#[.int .i64 ((rd_T30 l0 x7_1).f0),.int .i64 ((rd_T30 l0 x7_1).f1),.int .i64 0,.int .i64 0,.int .i64 0]) ?_ 2 _ rfl;(with_reducible repeat (first | refine blk_drewN ?_ _ | refine blk_drew ?_ | refine blk_alloc ?_ _));refine blk_put (cs:=#[.int .i64 ((rd_T30 l0 x7_1).f0),.int .i64 0,.int .i64 0,.int .i64 0,.int .i64 0]) ?_ 1 _ rfl;(with_reducible repeat (first | refine blk_drewN ?_ _ | refine blk_drew ?_ | refine blk_alloc ?_ _));refine blk_put (cs:=#[.int .i64 0,.int .i64 0,.int .i64 0,.int .i64 0,.int .i64 0]) ?_ 0 _ rfl;(with_reducible repeat (first | refine blk_drewN ?_ _ | refine blk_drew ?_ | refine blk_alloc ?_ _));exact BK106.out⟩,⟨by repeat (first | (with_reducible first | exact HB.out | apply b0_ | apply b1_ | apply b2_ | refine below_set ?_ GE106.out) | exact HB.out)⟩⟩
     subst c13
     have H1 : ((accounts_in.f ((rd_T30 l0 x7_1).f4)).bind fun t110 => (accounts_amounts.j1 k1 l0 l0 (l0.length : Int) x7_1 (!t110))) = some r:=by rw [if_pos rfl] at H;exact H
     clear H;have H:=H1;clear H1;replace H:=Option.bind_eq_some_iff.mp H;obtain ⟨t110,A140,H⟩:=H;replace H : (accounts_amounts.j1 k1 l0 l0 (l0.length : Int) x7_1 (!t110)) = some r:=H;have A14:=Aside0.mk A140;clear A140;have H':=Aside0.mk H;clear H;obtain ⟨hcz15_0,hcz15_1,hcz15_2,hcz15_3,hcz15_4,hfz15_0,hfz15_1,hfz15_2,hfz15_3,hfz15_4⟩:=q5_ BK106.out
     go_wp2_with (first | ((with_reducible refine gate_callee (f:=91) rfl ?_);refine goesL_ (some 13) rfl rfl Try.func91 (by kernel_rfl) rfl #[.int .i64 ((rd_T30 l0 x7_1).f1)] rfl (by (try simp only [z3_,z4_,z5_]);first | done | rfl | (simp only [z6_,z7_];rfl)) ?_;(with_reducible refine (accounts_in.calls ((rd_T30 l0 x7_1).f1) true _ A8.out).mono ?_);rintro e w' ⟨rfl,⟨nd,rfl⟩⟩;refine ⟨_,rfl,?_⟩) | (go_at_call 91;(with_reducible refine (accounts_in.calls ((rd_T30 l0 x7_1).f2) true _ A10.out).mono ?_);rintro e w' ⟨rfl,⟨nd,rfl⟩⟩) | (go_at_call 91;(with_reducible refine (accounts_in.calls ((rd_T30 l0 x7_1).f3) true _ A12.out).mono ?_);rintro e w' ⟨rfl,⟨nd,rfl⟩⟩) | (go_at_call 91;(with_reducible refine (accounts_in.calls ((rd_T30 l0 x7_1).f4) t110 _ A14.out).mono ?_);rintro e w' ⟨rfl,⟨nd,rfl⟩⟩))
     go_meet
     case rel => exact ⟨_,(!t110),(by first | rfl | (simp;done) | (simp [*];done)),H',⟨by have:=HK1.out;first | omega | exact Nat.le_refl _⟩,⟨by (with_reducible repeat (first | refine blk_drewN ?_ _ | refine blk_drew ?_ | refine blk_alloc ?_ _));refine blk_put (cs:=#[.int .i64 ((rd_T30 l0 x7_1).f0),.int .i64 ((rd_T30 l0 x7_1).f1),.int .i64 ((rd_T30 l0 x7_1).f2),.int .i64 ((rd_T30 l0 x7_1).f3),.int .i64 0]) ?_ 4 _ rfl;(with_reducible repeat (first | refine blk_drewN ?_ _ | refine blk_drew ?_ | refine blk_alloc ?_ _));refine blk_put (cs:=#[.int .i64 ((rd_T30 l0 x7_1).f0),.int .i64 ((rd_T30 l0 x7_1).f1),.int .i64 ((rd_T30 l0 x7_1).f2),.int .i64 0,.int .i64 0]) ?_ 3 _ rfl;(with_reducible repeat (first | refine blk_drewN ?_ _ | refine blk_drew ?_ | refine blk_alloc ?_ _));refine blk_put (cs:=#[.int .i64 ((rd_T30 l0 x7_1).f0),.int .i64 ((rd_T30 l0 x7_1).f1),.int .i64 0,.int .i64 0,.int .i64 0]) ?_ 2 _ rfl;(with_reducible repeat (first | refine blk_drewN ?_ _ | refine blk_drew ?_ | refine blk_alloc ?_ _));refine blk_put (cs:=#[.int .i64 ((rd_T30 l0 x7_1).f0),.int .i64 0,.int .i64 0,.int .i64 0,.int .i64 0]) ?_ 1 _ rfl;(with_reducible repeat (first | refine blk_drewN ?_ _ | refine blk_drew ?_ | refine blk_alloc ?_ _));refine blk_put (cs:=#[.int .i64 0,.int .i64 0,.int .i64 0,.int .i64 0,.int .i64 0]) ?_ 0 _ rfl;(with_reducible repeat (first | refine blk_drewN ?_ _ | refine blk_drew ?_ | refine blk_alloc ?_ _));exact BK106.out⟩,⟨by repeat (first | (with_reducible first | exact HB.out | apply b0_ | apply b1_ | apply b2_ | refine below_set ?_ GE106.out) | exact HB.out)⟩⟩
    case rest =>
     clear HC5;obtain ⟨kq,x32_4,rfl,HA,HJ4,BK106,HB⟩:=hcut
     cases kq with
      | zero => exact absurd HA.out (by simp [accounts_amounts.j1])
      | succ kj4 =>
       have H:=HA.out;clear HA;simp only [accounts_amounts.j1] at H;by_cases c19 : x32_4 = true
       rotate_left
       ·
        replace c19:=Bool.eq_false_iff.mpr c19;subst c19
        have H1 : (accounts_amounts.l0 kj4 l0 l0 (l0.length : Int) (wrap64 (x7_1 + 1))) = some r:=by rw [if_neg (show ¬ (false = true) by decide)] at H;exact H
        clear H;have H:=H1;clear H1;have H':=Aside0.mk H;clear H;go_wp2
        go_roundg kj4
        case measure => have:=HK1.out;have:=HJ4.out;omega
        case rel => exact ⟨(wrap64 (x7_1 + 1)),(by first | rfl | (simp;done) | (simp [*];done)),H',⟨by have:=HK1.out;have:=HJ4.out;omega⟩,⟨by repeat (first | (with_reducible first | exact HB.out | apply b0_ | apply b1_ | apply b2_ | refine below_set ?_ GE106.out) | exact HB.out)⟩⟩
       subst c19
       have H1 : (some false) = some r:=by rw [if_pos rfl] at H;exact H
       clear H;have H:=H1;clear H1;obtain rfl:=Option.some.inj H;go_wp2;go_ret;exact ⟨by first | rfl | (simp [errW_none,errW_some] <;> rfl) | (simp [*,errW_none,errW_some] <;> rfl),by repeat (first | (with_reducible first | exact HB.out | apply b0_ | apply b1_ | apply b2_ | refine below_set ?_ GE106.out) | exact HB.out)⟩
def accounts_Check_1.f (a0_0 : Int) (a0_1 : Int) (a0_2 : Int) (a0_3 : Int) (a0_4 : Int) : Option (Bool):=some (decide (a0_1 > a0_4))
set_option maxHeartbeats 8000000 in
set_option maxRecDepth 100000 in
theorem accounts_Check_1.calls (a0_0 : Int) (a0_1 : Int) (a0_2 : Int) (a0_3 : Int) (a0_4 : Int) (r : Bool) (w : World) (h : accounts_Check_1.f a0_0 a0_1 a0_2 a0_3 a0_4 = some r) :
 Calls Try.prog 78 #[.agg #[.int .i64 a0_0,.int .i64 a0_1,.int .i64 a0_2,.int .i64 a0_3,.int .i64 a0_4]] w fun e w' => e = .returned (.bool r)∧Below w.heap.size w w':=by
 have hu30:=Try.underlying30;have HB:=Aside0.mk (Below.refl w.heap.size w);have H : (some (decide (a0_1 > a0_4))) = some r:=h;clear h;obtain rfl:=Option.some.inj H
 go_enter Try.func78,Try.ntmps78
 go_wp2_with (first | ((with_reducible refine gate_dst (N:=1) rfl ?_);refine box_event ?hg (N:=1) ?hd (cs:=#[.int .i64 a0_0,.int .i64 a0_1,.int .i64 a0_2,.int .i64 a0_3,.int .i64 a0_4]) (t:=30) ?hr ?_;(case hd => rfl);(case hg => rfl);(case hr => first | (go_simp;done) | (go_simp;rfl));intro gb111 hg w2 hbox hb;have n0_:=Aside0.mk (below_step (by repeat (first | (with_reducible first | exact HB.out | apply b0_ | apply b1_ | apply b2_) | exact HB.out)) hb);have n1_:=Aside0.mk (hbox);have n2_:=Aside0.mk ((by rw [hg];exact (below_size (by repeat (first | (with_reducible first | exact HB.out | apply b0_ | apply b1_ | apply b2_) | exact HB.out))) : w.heap.size≤gb111));have n3_:=Aside0.mk ((by rw [hg];exact (below_size (by repeat (first | (with_reducible first | exact HB.out | apply b0_ | apply b1_ | apply b2_) | exact HB.out))) : w.heap.size≤gb111));clear HB;have HB:=n0_;have BK111:=n1_;have GW111:=n2_;have GE111:=n3_;clear n0_ n1_ n2_ n3_;clear hb hbox hg;obtain ⟨hcz3_0,hcz3_1,hcz3_2,hcz3_3,hcz3_4,hfz3_0,hfz3_1,hfz3_2,hfz3_3,hfz3_4⟩:=q5_ BK111.out))
 go_ret;exact ⟨by first | rfl | (simp [errW_none,errW_some] <;> rfl) | (simp [*,errW_none,errW_some] <;> rfl),by repeat (first | (with_reducible first | exact HB.out | apply b0_ | apply b1_ | apply b2_ | refine below_set ?_ GE111.out) | exact HB.out)⟩
def api_Account_92.l0 : Nat→List (S30)→Int→Int→Option (Int)
 | 0,_,_,_ => none
 | k + 1,x0,x7,x8 => if x8 < x7 then (if 0≤x8 then (if x8 < (x0.length : Int) then ((accounts_Check_1.f ((rd_T30 x0 x8).f0) ((rd_T30 x0 x8).f1) ((rd_T30 x0 x8).f2) ((rd_T30 x0 x8).f3) ((rd_T30 x0 x8).f4)).bind fun t113 => (if t113 = true then (some x8) else (api_Account_92.l0 k x0 x7 (wrap64 (x8 + 1))))) else (none)) else (none)) else (some (-1))
def api_Account_92.f (k : Nat) (l0 : List (S30))  : Option (Int):=api_Account_92.l0 k l0 (l0.length : Int) 0
theorem api_Account_92.mono_l : ∀ k,(∀ y0 y1 y2,LeO (api_Account_92.l0 k y0 y1 y2) (api_Account_92.l0 (k + 1) y0 y1 y2))
 | 0 => fun _ _ _ r h => by simp [api_Account_92.l0] at h
 | k + 1 => by
  have ih0:=api_Account_92.mono_l k
  ·
   intro y0 y1 y2
   unfold api_Account_92.l0
   repeat' first
    | (with_reducible exact ih0 _ _ _)
    | (with_reducible exact LeO.refl _)
    | (with_reducible exact LeO.none _)
    | (with_reducible refine LeO.ite ?_ ?_)
    | (with_reducible refine LeO.bind ?_ (fun _ => ?_))
    | exact ih0 _ _ _
    | exact LeO.none _
    | refine LeO.ite ?_ ?_
    | refine LeO.bind ?_ (fun _ => ?_)
theorem api_Account_92.mono : ∀ a0 k,LeO (api_Account_92.f k a0) (api_Account_92.f (k + 1) a0):=by
 intro a0 k;have ih0:=api_Account_92.mono_l k
 unfold api_Account_92.f
 repeat' first
  | (with_reducible exact ih0 _ _ _)
  | (with_reducible exact LeO.refl _)
  | (with_reducible exact LeO.none _)
  | (with_reducible refine LeO.ite ?_ ?_)
  | (with_reducible refine LeO.bind ?_ (fun _ => ?_))
  | exact ih0 _ _ _
  | exact LeO.none _
  | refine LeO.ite ?_ ?_
  | refine LeO.bind ?_ (fun _ => ?_)
set_option maxHeartbeats 8000000 in
set_option maxRecDepth 100000 in
theorem api_Account_92.calls (k : Nat) (A0 : Option Addr) (c0 : Nat) (l0 : List (S30))  (r : Int) (w : World) (hr0 : Kd.C k30 w A0 l0.length l0) (hc0 : l0.length≤c0) (h : api_Account_92.f k l0 = some r) :
 Calls Try.prog 92 #[.slice A0 l0.length c0,.func (.func 78) #[] #[]] w fun e w' => e = .returned (.int .i64 r)∧Below w.heap.size w w':=by
 have hu30:=Try.underlying30;have HR0:=Aside0.mk hr0;have HC0:=Aside0.mk hc0;clear hr0 hc0;have HB:=Aside0.mk (Below.refl w.heap.size w);have H : (api_Account_92.l0 k l0 (l0.length : Int) 0) = some r:=h;clear h;have H':=Aside0.mk H;clear H
 go_enter Try.func92,Try.ntmps92
 go_wp2
 go_loopg [8] k (fun kq v8 w' => ∃ (x8_1 : Int),v8 = .int .i64 x8_1∧Aside0 (api_Account_92.l0 kq l0 (l0.length : Int) x8_1 = some r)∧Aside0 (kq≤k)∧Aside0 (Below w.heap.size w w'))
 case atStart => exact ⟨(0),(by first | rfl | (simp;done) | (simp [*];done)),H',⟨Nat.le_refl _⟩,⟨by repeat (first | (with_reducible first | exact HB.out | apply b0_ | apply b1_ | apply b2_) | exact HB.out)⟩⟩
 case round =>
  clear H';obtain ⟨x8_1,rfl,HA,HK1,HB⟩:=hrel
  cases gk with
   | zero => exact absurd HA.out (by simp [api_Account_92.l0])
   | succ k1 =>
    have H:=HA.out;clear HA;simp only [api_Account_92.l0] at H;by_cases c3 : x8_1 < (l0.length : Int)
    rotate_left
    · rw [if_neg c3] at H;have c3b0 : decide (x8_1 < (l0.length : Int)) = false:=decide_eq_false c3;clear c3;obtain rfl:=Option.some.inj H;go_wp2;go_ret;exact ⟨by first | rfl | (simp [errW_none,errW_some] <;> rfl) | (simp [*,errW_none,errW_some] <;> rfl),by repeat (first | (with_reducible first | exact HB.out | apply b0_ | apply b1_ | apply b2_) | exact HB.out)⟩
    rw [if_pos c3] at H;have c3b0 : decide (x8_1 < (l0.length : Int)) = true:=decide_eq_true c3;clear c3;by_cases c4 : 0≤x8_1
    rotate_left
    · rw [if_neg c4] at H;exact absurd H (by simp)
    rw [if_pos c4] at H;have c4b0 : decide (0≤x8_1) = true:=decide_eq_true c4;clear c4;by_cases c5 : x8_1 < (l0.length : Int)
    rotate_left
    · rw [if_neg c5] at H;exact absurd H (by simp)
    rw [if_pos c5] at H;have c5b0 : decide (x8_1 < (l0.length : Int)) = true:=decide_eq_true c5;clear c5;replace H:=Option.bind_eq_some_iff.mp H;obtain ⟨t113,A60,H⟩:=H;replace H : (if t113 = true then (some x8_1) else (api_Account_92.l0 k1 l0 (l0.length : Int) (wrap64 (x8_1 + 1)))) = some r:=H;have A6:=Aside0.mk A60;clear A60;by_cases c7 : t113 = true
    rotate_left
    ·
     replace c7:=Bool.eq_false_iff.mpr c7;subst c7
     have H1 : (api_Account_92.l0 k1 l0 (l0.length : Int) (wrap64 (x8_1 + 1))) = some r:=by rw [if_neg (show ¬ (false = true) by decide)] at H;exact H
     clear H;have H:=H1;clear H1;have H':=Aside0.mk H;clear H;have p112 : 0≤(x8_1 : Int):=of_decide_eq_true (by first | (with_reducible assumption) | assumption);have q112 : x8_1 < (l0.length : Int):=of_decide_eq_true (by first | (with_reducible assumption) | assumption);obtain ⟨ad112,e112,hx112_0,hx112_1,hx112_2,hx112_3,hx112_4⟩:=at_T30 HR0.out x8_1 p112 q112;cases e112
     replace hx112_0:=(HB.out.cell (World.block_lt_of_cell? w _ hx112_0)).trans hx112_0;replace hx112_1:=(HB.out.cell (World.block_lt_of_cell? w _ hx112_1)).trans hx112_1;replace hx112_2:=(HB.out.cell (World.block_lt_of_cell? w _ hx112_2)).trans hx112_2;replace hx112_3:=(HB.out.cell (World.block_lt_of_cell? w _ hx112_3)).trans hx112_3
     replace hx112_4:=(HB.out.cell (World.block_lt_of_cell? w _ hx112_4)).trans hx112_4;replace p112:=eq_true p112;replace q112:=eq_true q112
     go_wp2_with (first | (go_at_call 78;(with_reducible refine (accounts_Check_1.calls ((rd_T30 l0 x8_1).f0) ((rd_T30 l0 x8_1).f1) ((rd_T30 l0 x8_1).f2) ((rd_T30 l0 x8_1).f3) ((rd_T30 l0 x8_1).f4) false _ A6.out).mono ?_);rintro e w9 ⟨rfl,hb⟩;have n0_:=Aside0.mk (below_step (by repeat (first | (with_reducible first | exact HB.out | apply b0_ | apply b1_ | apply b2_) | exact HB.out)) hb);clear HB;have HB:=n0_;clear n0_))
     go_roundg k1
     case measure => have:=HK1.out;omega
     case rel => exact ⟨(wrap64 (x8_1 + 1)),(by first | rfl | (simp;done) | (simp [*];done)),H',⟨by have:=HK1.out;omega⟩,⟨by repeat (first | (with_reducible first | exact HB.out | apply b0_ | apply b1_ | apply b2_) | exact HB.out)⟩⟩
    subst c7
    have H1 : (some x8_1) = some r:=by rw [if_pos rfl] at H;exact H
    clear H;have H:=H1;clear H1;obtain rfl:=Option.some.inj H;have p112 : 0≤(x8_1 : Int):=of_decide_eq_true (by first | (with_reducible assumption) | assumption);have q112 : x8_1 < (l0.length : Int):=of_decide_eq_true (by first | (with_reducible assumption) | assumption);obtain ⟨ad112,e112,hx112_0,hx112_1,hx112_2,hx112_3,hx112_4⟩:=at_T30 HR0.out x8_1 p112 q112;cases e112
    replace hx112_0:=(HB.out.cell (World.block_lt_of_cell? w _ hx112_0)).trans hx112_0;replace hx112_1:=(HB.out.cell (World.block_lt_of_cell? w _ hx112_1)).trans hx112_1;replace hx112_2:=(HB.out.cell (World.block_lt_of_cell? w _ hx112_2)).trans hx112_2;replace hx112_3:=(HB.out.cell (World.block_lt_of_cell? w _ hx112_3)).trans hx112_3
    replace hx112_4:=(HB.out.cell (World.block_lt_of_cell? w _ hx112_4)).trans hx112_4;replace p112:=eq_true p112;replace q112:=eq_true q112
    go_wp2_with (first | (go_at_call 78;(with_reducible refine (accounts_Check_1.calls ((rd_T30 l0 x8_1).f0) ((rd_T30 l0 x8_1).f1) ((rd_T30 l0 x8_1).f2) ((rd_T30 l0 x8_1).f3) ((rd_T30 l0 x8_1).f4) true _ A6.out).mono ?_);rintro e w8 ⟨rfl,hb⟩;have n0_:=Aside0.mk (below_step (by repeat (first | (with_reducible first | exact HB.out | apply b0_ | apply b1_ | apply b2_) | exact HB.out)) hb);clear HB;have HB:=n0_;clear n0_))
    go_ret;exact ⟨by first | rfl | (simp [errW_none,errW_some] <;> rfl) | (simp [*,errW_none,errW_some] <;> rfl),by repeat (first | (with_reducible first | exact HB.out | apply b0_ | apply b1_ | apply b2_) | exact HB.out)⟩
def api_Account_77.f (k : Nat) (l0 : List (S30))  : Option (Bool):=(api_Account_92.f k l0).bind fun t114 => (some (decide (t114≥0)))
theorem api_Account_77.mono : ∀ a0 k,LeO (api_Account_77.f k a0) (api_Account_77.f (k + 1) a0):=by
 intro a0 k
 unfold api_Account_77.f
 repeat' first
  | (with_reducible exact api_Account_92.mono _ _)
  | (with_reducible exact LeO.refl _)
  | (with_reducible exact LeO.none _)
  | (with_reducible refine LeO.ite ?_ ?_)
  | (with_reducible refine LeO.bind ?_ (fun _ => ?_))
  | exact api_Account_92.mono _ _
  | exact LeO.none _
  | refine LeO.ite ?_ ?_
  | refine LeO.bind ?_ (fun _ => ?_)
set_option maxHeartbeats 8000000 in
set_option maxRecDepth 100000 in
theorem api_Account_77.calls (k : Nat) (A0 : Option Addr) (c0 : Nat) (l0 : List (S30))  (r : Bool) (w : World) (hr0 : Kd.C k30 w A0 l0.length l0) (hc0 : l0.length≤c0) (h : api_Account_77.f k l0 = some r) :
 Calls Try.prog 77 #[.slice A0 l0.length c0,.func (.func 78) #[] #[]] w fun e w' => e = .returned (.bool r)∧Below w.heap.size w w':=by
 have HR0:=Aside0.mk hr0;have HC0:=Aside0.mk hc0;clear hr0 hc0;have HB:=Aside0.mk (Below.refl w.heap.size w);have H : ((api_Account_92.f k l0).bind fun t114 => (some (decide (t114≥0)))) = some r:=h;clear h;replace H:=Option.bind_eq_some_iff.mp H;obtain ⟨t114,A30,H⟩:=H;replace H : (some (decide (t114≥0))) = some r:=H;have A3:=Aside0.mk A30;clear A30
 obtain rfl:=Option.some.inj H
 go_enter Try.func77,Try.ntmps77
 go_wp2_with (first | ((with_reducible refine gate_callee (f:=92) rfl ?_);refine goesL_ (some 7) rfl rfl Try.func92 (by kernel_rfl) rfl #[.slice A0 l0.length c0,.func (.func 78) #[] #[]] rfl (by (try simp only [z3_,z4_,z5_]);first | done | rfl | (simp only [z6_,z7_];rfl)) ?_;(with_reducible refine (api_Account_92.calls k _ _ l0  t114 _ ?side1 ?side2 A3.out).mono ?_);(case side1 => repeat (first | exact HR0.out | (with_reducible refine Kd.C_alloc ?_ _) | (with_reducible refine Kd.C_drewN ?_ _) | (with_reducible refine Kd.C_drew ?_)));(case side2 => exact HC0.out);rintro e w4 ⟨rfl,hb⟩;refine ⟨_,rfl,?_⟩;have n0_:=Aside0.mk (below_step (by repeat (first | (with_reducible first | exact HB.out | apply b0_ | apply b1_ | apply b2_) | exact HB.out)) hb);clear HB;have HB:=n0_;clear n0_))
 go_ret;exact ⟨by first | rfl | (simp [errW_none,errW_some] <;> rfl) | (simp [*,errW_none,errW_some] <;> rfl),by repeat (first | (with_reducible first | exact HB.out | apply b0_ | apply b1_ | apply b2_) | exact HB.out)⟩
def slices_Min_int_int.l0 : Nat→List Int→Int→Int→Option (Int)
 | 0,_,_,_ => none
 | k + 1,x0,x3,x4 => if x4 < (x0.length : Int) then (if 0≤x4 then (slices_Min_int_int.l0 k x0 (mn x3 (rd x0 x4)) (wrap64 (x4 + 1))) else (none)) else (some x3)
def slices_Min_int_int.f (k : Nat) (l0 : List Int) : Option (Int):=if (l0.length : Int) < 1 then (none) else (if 0 < (l0.length : Int) then (slices_Min_int_int.l0 k l0 (rd l0 0) 1) else (none))
theorem slices_Min_int_int.mono_l : ∀ k,(∀ y0 y1 y2,LeO (slices_Min_int_int.l0 k y0 y1 y2) (slices_Min_int_int.l0 (k + 1) y0 y1 y2))
 | 0 => fun _ _ _ r h => by simp [slices_Min_int_int.l0] at h
 | k + 1 => by
  have ih0:=slices_Min_int_int.mono_l k
  ·
   intro y0 y1 y2
   unfold slices_Min_int_int.l0
   repeat' first
    | (with_reducible exact ih0 _ _ _)
    | (with_reducible exact LeO.refl _)
    | (with_reducible exact LeO.none _)
    | (with_reducible refine LeO.ite ?_ ?_)
    | (with_reducible refine LeO.bind ?_ (fun _ => ?_))
    | exact ih0 _ _ _
    | exact LeO.none _
    | refine LeO.ite ?_ ?_
    | refine LeO.bind ?_ (fun _ => ?_)
theorem slices_Min_int_int.mono : ∀ a0 k,LeO (slices_Min_int_int.f k a0) (slices_Min_int_int.f (k + 1) a0):=by
 intro a0 k;have ih0:=slices_Min_int_int.mono_l k
 unfold slices_Min_int_int.f
 repeat' first
  | (with_reducible exact ih0 _ _ _)
  | (with_reducible exact LeO.refl _)
  | (with_reducible exact LeO.none _)
  | (with_reducible refine LeO.ite ?_ ?_)
  | (with_reducible refine LeO.bind ?_ (fun _ => ?_))
  | exact ih0 _ _ _
  | exact LeO.none _
  | refine LeO.ite ?_ ?_
  | refine LeO.bind ?_ (fun _ => ?_)
set_option maxHeartbeats 8000000 in
set_option maxRecDepth 100000 in
theorem slices_Min_int_int.calls (k : Nat) (A0 : Option Addr) (c0 : Nat) (l0 : List Int) (r : Int) (w : World) (hr0 : Kd.C (Kd.int .i64) w A0 l0.length l0) (hc0 : l0.length≤c0) (h : slices_Min_int_int.f k l0 = some r) :
 Calls Try.prog 79 #[.slice A0 l0.length c0] w fun e w' => e = .returned (.int .i64 r)∧Below w.heap.size w w':=by
 have HR0:=Aside0.mk hr0;have HC0:=Aside0.mk hc0;clear hr0 hc0;have HB:=Aside0.mk (Below.refl w.heap.size w);have H : (if (l0.length : Int) < 1 then (none) else (if 0 < (l0.length : Int) then (slices_Min_int_int.l0 k l0 (rd l0 0) 1) else (none))) = some r:=h;clear h;by_cases c2 : (l0.length : Int) < 1
 rotate_left
 ·
  rw [if_neg c2] at H;have c2b0 : decide ((l0.length : Int) < 1) = false:=decide_eq_false c2;have c2b1 : decide (l0.length < 1) = false:=decide_eq_false (by omega);clear c2;by_cases c3 : 0 < (l0.length : Int)
  rotate_left
  · rw [if_neg c3] at H;exact absurd H (by simp)
  rw [if_pos c3] at H;have c3b0 : decide (0 < (l0.length : Int)) = true:=decide_eq_true c3;have c3b1 : decide (0 < l0.length) = true:=decide_eq_true (by omega);clear c3;have H':=Aside0.mk H;clear H;have p115 : 0≤(0 : Int):=(by omega);have q115 : 0 < (l0.length : Int):=of_decide_eq_true (by first | (with_reducible assumption) | assumption)
  obtain ⟨ad115,e115,hx115_0⟩:=Kd.at_int HR0.out 0 p115 q115;cases e115;have qi115 : (0 < l0.length) = True:=eq_true (by omega)
  (try rw [show ((0 : Int)).toNat = 0 from rfl] at hx115_0)
  (try rw [Addr.add_zero'] at hx115_0)
  replace p115:=eq_true p115;replace q115:=eq_true q115
  go_enter Try.func79,Try.ntmps79
  go_wp2
  go_loopg [3,4] k (fun kq v3 v4 w' => ∃ (x3_1 : Int) (x4_1 : Int),v3 = .int .i64 x3_1∧v4 = .int .i64 x4_1∧Aside0 (slices_Min_int_int.l0 kq l0 x3_1 x4_1 = some r)∧Aside0 (kq≤k)∧Aside0 (Below w.heap.size w w'))
  case atStart => exact ⟨(rd l0 0),(1),(by first | rfl | (simp;done) | (simp [*];done)),(by first | rfl | (simp;done) | (simp [*];done)),H',⟨Nat.le_refl _⟩,⟨by repeat (first | (with_reducible first | exact HB.out | apply b0_ | apply b1_ | apply b2_) | exact HB.out)⟩⟩
  case round =>
   clear H';obtain ⟨x3_1,x4_1,rfl,rfl,HA,HK1,HB⟩:=hrel
   cases gk with
    | zero => exact absurd HA.out (by simp [slices_Min_int_int.l0])
    | succ k1 =>
     have H:=HA.out;clear HA;simp only [slices_Min_int_int.l0] at H;by_cases c4 : x4_1 < (l0.length : Int)
     rotate_left
     · rw [if_neg c4] at H;have c4b0 : decide (x4_1 < (l0.length : Int)) = false:=decide_eq_false c4;clear c4;obtain rfl:=Option.some.inj H;go_wp2;go_ret;exact ⟨by first | rfl | (simp [errW_none,errW_some] <;> rfl) | (simp [*,errW_none,errW_some] <;> rfl),by repeat (first | (with_reducible first | exact HB.out | apply b0_ | apply b1_ | apply b2_) | exact HB.out)⟩
     rw [if_pos c4] at H;have c4b0 : decide (x4_1 < (l0.length : Int)) = true:=decide_eq_true c4;clear c4;by_cases c5 : 0≤x4_1
     rotate_left
     · rw [if_neg c5] at H;exact absurd H (by simp)
     rw [if_pos c5] at H;have c5b0 : decide (0≤x4_1) = true:=decide_eq_true c5;clear c5;obtain ⟨ji6,hji6⟩ : ∃ j_ : Int,(mn x3_1 (rd l0 x4_1)) = j_:=⟨_,rfl⟩
     replace H : (slices_Min_int_int.l0 k1 l0 ji6 (wrap64 (x4_1 + 1))) = some r:=by first | (rw [hji6] at H;exact H) | (simp only [hji6] at H ⊢;exact H)
     have hji6_ : (if (rd l0 x4_1) < x3_1 then (rd l0 x4_1) else x3_1) = ji6:=hji6;have H':=Aside0.mk H;clear H;have p116 : 0≤(x4_1 : Int):=of_decide_eq_true (by first | (with_reducible assumption) | assumption);have q116 : x4_1 < (l0.length : Int):=of_decide_eq_true (by first | (with_reducible assumption) | assumption);obtain ⟨ad116,e116,hx116_0⟩:=Kd.at_int HR0.out x4_1 p116 q116
     obtain rfl : ad115 = ad116:=(by injection e116);replace hx116_0:=(HB.out.cell (World.block_lt_of_cell? w _ hx116_0)).trans hx116_0;replace p116:=eq_true p116;replace q116:=eq_true q116;go_wp2
     go_roundg k1
     case measure => have:=HK1.out;omega
     case rel => exact ⟨(ji6),(wrap64 (x4_1 + 1)),(by first | rfl | (simp;done) | (simp only [← hji6] <;> (first | rfl | simp)) | (simp [*];done)),(by first | rfl | (simp;done) | (simp [*];done)),H',⟨by have:=HK1.out;omega⟩,⟨by repeat (first | (with_reducible first | exact HB.out | apply b0_ | apply b1_ | apply b2_) | exact HB.out)⟩⟩
 rw [if_pos c2] at H;exact absurd H (by simp)
def accounts_own.l0 : Nat→List Int→List (S30)→Int→Int→Option (List Int)
 | 0,_,_,_,_ => none
 | k + 1,x3,x9,x10,x11 => if x11 < x10 then (if 0≤x11 then (if x11 < (x9.length : Int) then (if x11 < (x3.length : Int) then ((some (x3.set (x11 : Int).toNat (wrap64 ((rd x3 x11) + ((rd_T30 x9 x11).f1))) : List Int)).bind fun y123 => (if x11 > 0 then (if 0≤((rd_T30 x9 x11).f0) then (if ((rd_T30 x9 x11).f0) < (x3.length : Int) then (accounts_own.l0 k (y123.set (((rd_T30 x9 x11).f0) : Int).toNat (wrap64 ((rd y123 ((rd_T30 x9 x11).f0)) - ((rd_T30 x9 x11).f1)))) x9 x10 (wrap64 (x11 + 1))) else (none)) else (none)) else (accounts_own.l0 k y123 x9 x10 (wrap64 (x11 + 1))))) else (none)) else (none)) else (none)) else (some x3)
def accounts_own.f (k : Nat) (l0 : List (S30)) : Option (List Int):=if 0≤(l0.length : Int) then (if ((l0.length : Int) : Int).toNat≤35184372088832 then (accounts_own.l0 k (List.replicate ((l0.length : Int) : Int).toNat 0) l0 (l0.length : Int) 0) else (none)) else (none)
theorem accounts_own.mono_l : ∀ k,(∀ y0 y1 y2 y3,LeO (accounts_own.l0 k y0 y1 y2 y3) (accounts_own.l0 (k + 1) y0 y1 y2 y3))
 | 0 => fun _ _ _ _ r h => by simp [accounts_own.l0] at h
 | k + 1 => by
  have ih0:=accounts_own.mono_l k
  ·
   intro y0 y1 y2 y3
   unfold accounts_own.l0
   repeat' first
    | (with_reducible exact ih0 _ _ _ _)
    | (with_reducible exact LeO.refl _)
    | (with_reducible exact LeO.none _)
    | (with_reducible refine LeO.ite ?_ ?_)
    | (with_reducible refine LeO.bind ?_ (fun _ => ?_))
    | exact ih0 _ _ _ _
    | exact LeO.none _
    | refine LeO.ite ?_ ?_
    | refine LeO.bind ?_ (fun _ => ?_)
theorem accounts_own.mono : ∀ a0 k,LeO (accounts_own.f k a0) (accounts_own.f (k + 1) a0):=by
 intro a0 k;have ih0:=accounts_own.mono_l k
 unfold accounts_own.f
 repeat' first
  | (with_reducible exact ih0 _ _ _ _)
  | (with_reducible exact LeO.refl _)
  | (with_reducible exact LeO.none _)
  | (with_reducible refine LeO.ite ?_ ?_)
  | (with_reducible refine LeO.bind ?_ (fun _ => ?_))
  | exact ih0 _ _ _ _
  | exact LeO.none _
  | refine LeO.ite ?_ ?_
  | refine LeO.bind ?_ (fun _ => ?_)
def accounts_own.T5 : Bool × List (List Nat × List Nat):=(true,[([],[]),([],[]),([0,1],[0,1]),([2],[2]),([],[]),([4],[4]),([3,5],[3,5]),([0,1,0,1,2,3,4,5,6],[0,1]),([7,6,0,1,2,3,4,5,6],[6,7])])
def accounts_own.B5 : List Nat:=[0,0,3,7,0,16,63,127,255]
theorem accounts_own.tab5 : rtab .any (opsOf Try.f80 5) = accounts_own.T5:=by kernel_rfl
theorem accounts_own.bits5 : waitsOk accounts_own.T5.2 accounts_own.B5 = true:=by kernel_rfl
def accounts_own.T7 : Bool × List (List Nat × List Nat):=(true,[([],[]),([],[]),([1],[1]),([0,2],[0,2]),([3],[3]),([],[]),([5],[5]),([4,6],[4,6]),([0,2,0,1,2,3,4,5,6,7],[0,2]),([8,7,0,1,2,3,4,5,6,7],[7,8])])
def accounts_own.B7 : List Nat:=[0,0,2,7,15,0,32,127,255,511]
theorem accounts_own.tab7 : rtab .any (opsOf Try.f80 7) = accounts_own.T7:=by kernel_rfl
theorem accounts_own.bits7 : waitsOk accounts_own.T7.2 accounts_own.B7 = true:=by kernel_rfl
set_option maxHeartbeats 8000000 in
set_option maxRecDepth 100000 in
theorem accounts_own.calls (k : Nat) (A0 : Option Addr) (c0 : Nat) (l0 : List (S30)) (r : List Int) (w : World) (hr0 : Kd.C k30 w A0 l0.length l0) (hc0 : l0.length≤c0) (h : accounts_own.f k l0 = some r) :
 Calls Try.prog 80 #[.slice A0 l0.length c0] w fun e w' => ∃ v0_ : Value,e = .returned (v0_)∧Kd.R (Kd.int .i64) 3 w' w.heap.size (fun _ => True) v0_ r∧Below w.heap.size w w':=by
 have hu30:=Try.underlying30;have HR0:=Aside0.mk hr0;have HC0:=Aside0.mk hc0;clear hr0 hc0;have HB:=Aside0.mk (Below.refl w.heap.size w);have H : (if 0≤(l0.length : Int) then (if ((l0.length : Int) : Int).toNat≤35184372088832 then (accounts_own.l0 k (List.replicate ((l0.length : Int) : Int).toNat 0) l0 (l0.length : Int) 0) else (none)) else (none)) = some r:=h;clear h
 by_cases c2 : 0≤(l0.length : Int)
 rotate_left
 · rw [if_neg c2] at H;exact absurd H (by simp)
 rw [if_pos c2] at H;have c2b0:=eq_true c2;have c2b1 : decide (0≤(l0.length : Int)) = true:=decide_eq_true c2;clear c2;by_cases c3 : ((l0.length : Int) : Int).toNat≤35184372088832
 rotate_left
 · rw [if_neg c3] at H;exact absurd H (by simp)
 rw [if_pos c3] at H;have c3b0:=eq_true c3;have c3b1 : decide (((l0.length : Int) : Int).toNat≤35184372088832) = true:=decide_eq_true c3;clear c3;obtain ⟨y117,hy117⟩ : ∃ y_ : List Int,y_ = (List.replicate ((l0.length : Int) : Int).toNat 0):=⟨_,rfl⟩
 replace H : (accounts_own.l0 k y117 l0 (l0.length : Int) 0) = some r:=by first | (rw [hy117];with_reducible exact H) | (have H2_:=(Option.bind_some _ _).symm.trans H;rw [hy117];with_reducible exact H2_) | (have H2_:=(Option.bind_some _ _).symm.trans H;with_reducible exact H2_) | with_reducible exact H | (rw [hy117];exact H) | exact H
 have Ny117:=Aside0.mk hy117;clear hy117;have H':=Aside0.mk H;clear H
 go_enter Try.func80,Try.ntmps80
 go_wp2_with (first | ((with_reducible refine gate_dst (N:=8) rfl ?_);refine Kd.R_make (Kd.int .i64) _ 3 rfl (N:=8) rfl 50 _ _ rfl (l0.length : Int) rfl rfl Try.underlying50 (.int .i64 0) 8 info3 rfl (by decide) (by omega) 0 (ok:=fun _ => True) (okp:=fun _ => True) rfl (fun _ hk => hk) trivial (of_decide_eq_true (by first | (with_reducible assumption) | assumption)) (Nat.le_trans (Nat.mul_le_mul_right _ (of_decide_eq_true (by first | (with_reducible assumption) | assumption) : (l0.length : Int).toNat≤35184372088832)) (by omega)) (Below.refl _ _) (Nat.le_refl _) ?_;intro v118 w4 ho5 hb hg_ hnew_;clear hg_ hnew_;(first | rw [← Ny117.out] at ho5 | (simp only [Int.reduceToNat] at ho5;rw [← Ny117.out] at ho5));have n0_:=Aside0.mk (Kd.R_lower ho5 (below_size (by repeat (first | (with_reducible first | exact HB.out | apply b0_ | apply b1_ | apply b2_) | exact HB.out))));have n1_:=Aside0.mk (below_step (by repeat (first | (with_reducible first | exact HB.out | apply b0_ | apply b1_ | apply b2_) | exact HB.out)) hb);clear HB;have HO119:=n0_;have HB:=n1_;clear n0_ n1_;clear hb ho5))
 go_loopg [11] k (fun kq v11 w' => ∃ (x3_1 : List Int) (x11_1 : Int),v11 = .int .i64 x11_1∧Aside0 (accounts_own.l0 kq x3_1 l0 (l0.length : Int) x11_1 = some r)∧Aside0 (kq≤k)∧Aside0 (Kd.R (Kd.int .i64) 3 w' w.heap.size (fun _ => True) v118 x3_1)∧Aside0 (Below w.heap.size w w'))
 case atStart => exact ⟨(y117),(0),(by first | rfl | (simp;done) | (simp [*];done)),H',⟨Nat.le_refl _⟩,⟨by (with_reducible repeat (first | apply Kd.R_alloc | apply Kd.R_drewN | apply Kd.R_drew));exact HO119.out⟩,⟨by repeat (first | (with_reducible first | exact HB.out | apply b0_ | apply b1_ | apply b2_) | exact HB.out)⟩⟩
 case round =>
  clear H';obtain ⟨x3_1,x11_1,rfl,HA,HK1,HO_3,HB⟩:=hrel
  cases gk with
   | zero => exact absurd HA.out (by simp [accounts_own.l0])
   | succ k1 =>
    have H:=HA.out;clear HA;simp only [accounts_own.l0] at H;by_cases c6 : x11_1 < (l0.length : Int)
    rotate_left
    ·
     rw [if_neg c6] at H;have c6b0 : decide (x11_1 < (l0.length : Int)) = false:=decide_eq_false c6;clear c6;obtain rfl:=Option.some.inj H;go_wp2;go_ret
     exact ⟨_,by first | rfl | (simp [errW_none,errW_some] <;> rfl) | (simp [*,errW_none,errW_some] <;> rfl),by (with_reducible repeat (first | apply Kd.R_alloc | apply Kd.R_drewN | apply Kd.R_drew));exact HO_3.out,by repeat (first | (with_reducible first | exact HB.out | apply b0_ | apply b1_ | apply b2_) | exact HB.out)⟩
    rw [if_pos c6] at H;have c6b0 : decide (x11_1 < (l0.length : Int)) = true:=decide_eq_true c6;clear c6;by_cases c7 : 0≤x11_1
    rotate_left
    · rw [if_neg c7] at H;exact absurd H (by simp)
    rw [if_pos c7] at H;have c7b0 : decide (0≤x11_1) = true:=decide_eq_true c7;clear c7;by_cases c8 : x11_1 < (l0.length : Int)
    rotate_left
    · rw [if_neg c8] at H;exact absurd H (by simp)
    rw [if_pos c8] at H;have c8b0 : decide (x11_1 < (l0.length : Int)) = true:=decide_eq_true c8;clear c8;by_cases c9 : x11_1 < (x3_1.length : Int)
    rotate_left
    · rw [if_neg c9] at H;exact absurd H (by simp)
    rw [if_pos c9] at H;have c9b0 : decide (x11_1 < (x3_1.length : Int)) = true:=decide_eq_true c9;clear c9;obtain ⟨y123,hy123⟩ : ∃ y_ : List Int,y_ = (x3_1.set (x11_1 : Int).toNat (wrap64 ((rd x3_1 x11_1) + ((rd_T30 l0 x11_1).f1)))):=⟨_,rfl⟩
    replace H : (if x11_1 > 0 then (if 0≤((rd_T30 l0 x11_1).f0) then (if ((rd_T30 l0 x11_1).f0) < (x3_1.length : Int) then (accounts_own.l0 k1 (y123.set (((rd_T30 l0 x11_1).f0) : Int).toNat (wrap64 ((rd y123 ((rd_T30 l0 x11_1).f0)) - ((rd_T30 l0 x11_1).f1)))) l0 (l0.length : Int) (wrap64 (x11_1 + 1))) else (none)) else (none)) else (accounts_own.l0 k1 y123 l0 (l0.length : Int) (wrap64 (x11_1 + 1)))) = some r:=by first | (rw [hy123];with_reducible exact H) | (have H2_:=(Option.bind_some _ _).symm.trans H;rw [hy123];with_reducible exact H2_) | (have H2_:=(Option.bind_some _ _).symm.trans H;with_reducible exact H2_) | with_reducible exact H | (rw [hy123];exact H) | exact H
    have Ny123:=Aside0.mk hy123;clear hy123;by_cases c11 : x11_1 > 0
    rotate_left
    ·
     rw [if_neg c11] at H;have c11b0 : decide (0 < x11_1) = false:=decide_eq_false c11;clear c11;have H':=Aside0.mk H;clear H;have p120 : 0≤(x11_1 : Int):=of_decide_eq_true (by first | (with_reducible assumption) | assumption);have q120 : x11_1 < (l0.length : Int):=of_decide_eq_true (by first | (with_reducible assumption) | assumption)
     obtain ⟨ad120,e120,hx120_0,hx120_1,hx120_2,hx120_3,hx120_4⟩:=at_T30 HR0.out x11_1 p120 q120;cases e120;replace hx120_0:=(HB.out.cell (World.block_lt_of_cell? w _ hx120_0)).trans hx120_0;replace hx120_1:=(HB.out.cell (World.block_lt_of_cell? w _ hx120_1)).trans hx120_1;replace hx120_2:=(HB.out.cell (World.block_lt_of_cell? w _ hx120_2)).trans hx120_2
     replace hx120_3:=(HB.out.cell (World.block_lt_of_cell? w _ hx120_3)).trans hx120_3;replace hx120_4:=(HB.out.cell (World.block_lt_of_cell? w _ hx120_4)).trans hx120_4;replace p120:=eq_true p120;replace q120:=eq_true q120
     try go_wp2_with (first | ((with_reducible refine gate_dst (N:=5) rfl ?_);refine box_event ?hg (N:=5) ?hd (cs:=#[.int .i64 0,.int .i64 0,.int .i64 0,.int .i64 0,.int .i64 0]) (t:=30) ?hr ?_;(case hd => rfl);(case hg => rfl);(case hr => first | (go_simp;done) | (go_simp;rfl));intro gb121 hg w24 hbox hb;have n0_:=Aside0.mk (Kd.R_below (by (with_reducible repeat (first | apply Kd.R_alloc | apply Kd.R_drewN | apply Kd.R_drew));exact HO_3.out) hb);have n1_:=Aside0.mk (below_step (by repeat (first | (with_reducible first | exact HB.out | apply b0_ | apply b1_ | apply b2_) | exact HB.out)) hb);have n2_:=Aside0.mk (hbox);have n3_:=Aside0.mk ((by rw [hg];exact (below_size (by repeat (first | (with_reducible first | exact HB.out | apply b0_ | apply b1_ | apply b2_) | exact HB.out))) : w.heap.size≤gb121));have n4_:=Aside0.mk ((by rw [hg];exact (below_size (by repeat (first | (with_reducible first | exact HB.out | apply b0_ | apply b1_ | apply b2_) | exact HB.out))) : w.heap.size≤gb121));clear HO_3;clear HB;have HO_3:=n0_;have HB:=n1_;have BK121:=n2_;have GW121:=n3_;have GE121:=n4_;clear n0_ n1_ n2_ n3_ n4_;clear hb hbox hg;obtain ⟨hcz25_0,hcz25_1,hcz25_2,hcz25_3,hcz25_4,hfz25_0,hfz25_1,hfz25_2,hfz25_3,hfz25_4⟩:=q5_ BK121.out))
     have n0_ : Aside0 (Kd.R (Kd.int .i64) 3 (((((w24.setCell ⟨gb121,0,none⟩ (.int .i64 ((rd_T30 l0 x11_1).f0))).setCell ⟨gb121,1,none⟩ (.int .i64 ((rd_T30 l0 x11_1).f1))).setCell ⟨gb121,2,none⟩ (.int .i64 ((rd_T30 l0 x11_1).f2))).setCell ⟨gb121,3,none⟩ (.int .i64 ((rd_T30 l0 x11_1).f3))).setCell ⟨gb121,4,none⟩ (.int .i64 ((rd_T30 l0 x11_1).f4))) w.heap.size (fun _ => True) v118 x3_1):=⟨by (with_reducible repeat (first | apply Kd.R_alloc | apply Kd.R_drewN | apply Kd.R_drew));exact Kd.R_mono (Kd.R_far (p:=⟨gb121,4,none⟩) (Kd.R_far (p:=⟨gb121,3,none⟩) (Kd.R_far (p:=⟨gb121,2,none⟩) (Kd.R_far (p:=⟨gb121,1,none⟩) (Kd.R_far (p:=⟨gb121,0,none⟩) (Kd.R_types HO_3.out BK121.out (by decide)) (fun _ hk => hk.2) (.int .i64 ((rd_T30 l0 x11_1).f0))) (fun _ hk => hk.2) (.int .i64 ((rd_T30 l0 x11_1).f1))) (fun _ hk => hk.2) (.int .i64 ((rd_T30 l0 x11_1).f2))) (fun _ hk => hk.2) (.int .i64 ((rd_T30 l0 x11_1).f3))) (fun _ hk => hk.2) (.int .i64 ((rd_T30 l0 x11_1).f4))) (fun _ hk => trivial)⟩
     have n1_ : Aside0 ((((((w24.setCell ⟨gb121,0,none⟩ (.int .i64 ((rd_T30 l0 x11_1).f0))).setCell ⟨gb121,1,none⟩ (.int .i64 ((rd_T30 l0 x11_1).f1))).setCell ⟨gb121,2,none⟩ (.int .i64 ((rd_T30 l0 x11_1).f2))).setCell ⟨gb121,3,none⟩ (.int .i64 ((rd_T30 l0 x11_1).f3))).setCell ⟨gb121,4,none⟩ (.int .i64 ((rd_T30 l0 x11_1).f4))).heap[gb121]? = some (.cells #[.int .i64 ((rd_T30 l0 x11_1).f0),.int .i64 ((rd_T30 l0 x11_1).f1),.int .i64 ((rd_T30 l0 x11_1).f2),.int .i64 ((rd_T30 l0 x11_1).f3),.int .i64 ((rd_T30 l0 x11_1).f4)] 30 (0,0))):=⟨by (with_reducible repeat (first | refine blk_drewN ?_ _ | refine blk_drew ?_ | refine blk_alloc ?_ _));refine blk_put (cs:=#[.int .i64 ((rd_T30 l0 x11_1).f0),.int .i64 ((rd_T30 l0 x11_1).f1),.int .i64 ((rd_T30 l0 x11_1).f2),.int .i64 ((rd_T30 l0 x11_1).f3),.int .i64 0]) ?_ 4 _ rfl;(with_reducible repeat (first | refine blk_drewN ?_ _ | refine blk_drew ?_ | refine blk_alloc ?_ _));refine blk_put (cs:=#[.int .i64 ((rd_T30 l0 x11_1).f0),.int .i64 ((rd_T30 l0 x11_1).f1),.int .i64 ((rd_T30 l0 x11_1).f2),.int .i64 0,.int .i64 0]) ?_ 3 _ rfl;(with_reducible repeat (first | refine blk_drewN ?_ _ | refine blk_drew ?_ | refine blk_alloc ?_ _));refine blk_put (cs:=#[.int .i64 ((rd_T30 l0 x11_1).f0),.int .i64 ((rd_T30 l0 x11_1).f1),.int .i64 0,.int .i64 0,.int .i64 0]) ?_ 2 _ rfl;(with_reducible repeat (first | refine blk_drewN ?_ _ | refine blk_drew ?_ | refine blk_alloc ?_ _));refine blk_put (cs:=#[.int .i64 ((rd_T30 l0 x11_1).f0),.int .i64 0,.int .i64 0,.int .i64 0,.int .i64 0]) ?_ 1 _ rfl;(with_reducible repeat (first | refine blk_drewN ?_ _ | refine blk_drew ?_ | refine blk_alloc ?_ _));refine blk_put (cs:=#[.int .i64 0,.int .i64 0,.int .i64 0,.int .i64 0,.int .i64 0]) ?_ 0 _ rfl;(with_reducible repeat (first | refine blk_drewN ?_ _ | refine blk_drew ?_ | refine blk_alloc ?_ _));exact BK121.out⟩
     have n2_ : Aside0 (Below w.heap.size w (((((w24.setCell ⟨gb121,0,none⟩ (.int .i64 ((rd_T30 l0 x11_1).f0))).setCell ⟨gb121,1,none⟩ (.int .i64 ((rd_T30 l0 x11_1).f1))).setCell ⟨gb121,2,none⟩ (.int .i64 ((rd_T30 l0 x11_1).f2))).setCell ⟨gb121,3,none⟩ (.int .i64 ((rd_T30 l0 x11_1).f3))).setCell ⟨gb121,4,none⟩ (.int .i64 ((rd_T30 l0 x11_1).f4)))):=⟨by repeat (first | (with_reducible first | exact HB.out | apply b0_ | apply b1_ | apply b2_ | refine below_set ?_ GE121.out) | exact HB.out)⟩
     (try clear HO_3)
     (try clear BK121)
     (try clear HB)
     generalize (((((w24.setCell ⟨gb121,0,none⟩ (.int .i64 ((rd_T30 l0 x11_1).f0))).setCell ⟨gb121,1,none⟩ (.int .i64 ((rd_T30 l0 x11_1).f1))).setCell ⟨gb121,2,none⟩ (.int .i64 ((rd_T30 l0 x11_1).f2))).setCell ⟨gb121,3,none⟩ (.int .i64 ((rd_T30 l0 x11_1).f3))).setCell ⟨gb121,4,none⟩ (.int .i64 ((rd_T30 l0 x11_1).f4))) = w26 at n0_ n1_ n2_ ⊢;have HO_3:=n0_;have BK121:=n1_;have HB:=n2_
     clear n0_ n1_ n2_;have n0_:=Aside0.mk (Kd.R_drew HO_3.out);have n1_:=Aside0.mk (blk_drew BK121.out);have n2_:=Aside0.mk (b2_ HB.out);clear HO_3;clear BK121;clear HB;have HO_3:=n0_;have BK121:=n1_;have HB:=n2_;clear n0_ n1_ n2_;obtain ⟨Ao28,co28,eo28⟩:=Kd.R_slice HO_3.out
     (first | subst eo28 | (injection eo28 with f1_ f2_ f3_;have f4_:=f1_.symm;have f5_:=f3_.symm;clear f1_ f2_ f3_;subst f4_;subst f5_))
     have p122 : 0≤(x11_1 : Int):=of_decide_eq_true (by first | (with_reducible assumption) | assumption);have q122 : x11_1 < (x3_1.length : Int):=of_decide_eq_true (by first | (with_reducible assumption) | assumption);obtain ⟨ad122,e122,hx122_0⟩:=Kd.at_int (Kd.R_reads' HO_3.out).2.2 x11_1 p122 q122;cases e122;replace p122:=eq_true p122;replace q122:=eq_true q122
     have p10 : 0≤(x11_1 : Int):=of_decide_eq_true (by first | (with_reducible assumption) | assumption);have q10 : (x11_1 : Int) < ((x3_1.length : Int) : Int):=of_decide_eq_true (by first | (with_reducible assumption) | assumption);obtain ⟨go10,co10,eo10,gb10,gl10,cl10,HG10⟩:=Kd.R_form HO_3.out (by omega)
     (first | cases eo10 | (injection eo10 with ea_ en_ ec_;(first | subst ea_ | (injection ea_ with ea_;subst ea_));subst ec_;clear en_))
     have GB10:=Aside0.mk gb10;have GG10:=Aside0.mk HG10;clear gb10 gl10 HG10
     (first | simp only [add_plain] at hx122_0 | skip)
     obtain ⟨hx10_0,hf10_0⟩:=Kd.R_celln 0 HO_3.out (x11_1 : Int) p10 q10;replace p10:=eq_true p10;replace q10:=eq_true q10;have HP29:=Kd.R_putn HO_3.out (x11_1 : Int) (wrap64 ((rd x3_1 x11_1) + ((rd_T30 l0 x11_1).f1)));rw [← Ny123.out] at HP29;have HQ29:=Aside0.mk HP29;clear HP29
     refine start_ (n:=9) (S:=fun w' => w'.cell? ⟨gb121,0,none⟩ = some (.int .i64 ((rd_T30 l0 x11_1).f0))∧w'.cell? ⟨gb121,1,none⟩ = some (.int .i64 ((rd_T30 l0 x11_1).f1))∧w'.cell? ⟨gb121,2,none⟩ = some (.int .i64 ((rd_T30 l0 x11_1).f2))∧w'.cell? ⟨gb121,3,none⟩ = some (.int .i64 ((rd_T30 l0 x11_1).f3))∧w'.cell? ⟨gb121,4,none⟩ = some (.int .i64 ((rd_T30 l0 x11_1).f4))∧w'.cell? ⟨go10,(x11_1).toNat,none⟩ = some (.int .i64 (rd x3_1 x11_1))) (ds:=[8]) #[F0,F0,F0,F0,F0,F0,F0,F0,F0] (by kernel_rfl) rfl rfl ⟨(blk_cell BK121.out 0).trans rfl,(blk_cell BK121.out 1).trans rfl,(blk_cell BK121.out 2).trans rfl,(blk_cell BK121.out 3).trans rfl,(blk_cell BK121.out 4).trans rfl,hx122_0⟩ (fun hHeld => ?_);refine with_tabW accounts_own.tab5 accounts_own.bits5 (fun HT_ HW_ => ?_)
     generalize w26.drew = w27 at HO_3 BK121 HB GG10 HQ29 hf10_0 hx10_0 hx122_0 hHeld ⊢;refine pure_ (i:=0) (N:=some 16) (v:=?_) (a':=?_) #[T0,F0,F0,F0,F0,F0,F0,F0,F0] rfl rfl (any_of HT_.out (by kernel_rfl)) (fun _ _ _ h => h) (Or.inl ⟨by rfl,?_⟩) ?_ ?_
     rotate_left
     · intro w';go_simp;with_reducible rfl
     rotate_left
     · simp only [Act.put,z0_,z1_,z2_,i64_w,i32_w];rfl
     refine pure_ (i:=1) (N:=some 17) (v:=?_) (a':=?_) #[T0,T0,F0,F0,F0,F0,F0,F0,F0] rfl rfl (any_of HT_.out (by kernel_rfl)) (fun _ _ _ h => h) (Or.inl ⟨by rfl,?_⟩) ?_ ?_
     rotate_left
     · intro w';go_simp;with_reducible rfl
     rotate_left
     · simp only [Act.put,z0_,z1_,z2_,i64_w,i32_w];rfl
     refine pure_ (i:=2) (N:=some 18) (v:=?_) (a':=?_) #[T0,T0,T0,F0,F0,F0,F0,F0,F0] rfl rfl (any_of HT_.out (by kernel_rfl)) (fun _ _ _ h => h) (Or.inl ⟨by rfl,?_⟩) ?_ ?_
     rotate_left
     · intro w';go_simp;with_reducible rfl
     rotate_left
     · simp only [Act.put,z0_,z1_,z2_,i64_w,i32_w];rfl
     refine pure_ (i:=4) (N:=some 20) (v:=?_) (a':=?_) #[T0,T0,T0,F0,T0,F0,F0,F0,F0] rfl rfl (any_of HT_.out (by kernel_rfl)) (fun _ _ _ h => h) (Or.inl ⟨by rfl,?_⟩) ?_ ?_
     rotate_left
     · intro w';go_simp;with_reducible rfl
     rotate_left
     · simp only [Act.put,z0_,z1_,z2_,i64_w,i32_w];rfl
     refine take_ (i:=3) (N:=some 19) (v:=?_) (a':=?_) #[T0,T0,T0,T0,T0,F0,F0,F0,F0] rfl rfl (take_ofW HT_.out HW_.out (by kernel_rfl)) (fun _ _ _ h => h) (Or.inl ⟨by rfl,?_⟩) hHeld ?_ ?_
     rotate_left
     ·
      rintro w' ⟨s0,s1,s2,s3,s4,s5⟩
      go_simp;with_reducible rfl
     rotate_left
     · simp only [Act.put,z0_,z1_,z2_,i64_w,i32_w];rfl
     refine take_ (i:=5) (N:=some 21) (v:=?_) (a':=?_) #[T0,T0,T0,T0,T0,T0,F0,F0,F0] rfl rfl (take_ofW HT_.out HW_.out (by kernel_rfl)) (fun _ _ _ h => h) (Or.inl ⟨by rfl,?_⟩) hHeld ?_ ?_
     rotate_left
     ·
      rintro w' ⟨s0,s1,s2,s3,s4,s5⟩
      go_simp;with_reducible rfl
     rotate_left
     · simp only [Act.put,z0_,z1_,z2_,i64_w,i32_w];rfl
     refine pure_ (i:=6) (N:=some 22) (v:=?_) (a':=?_) #[T0,T0,T0,T0,T0,T0,T0,F0,F0] rfl rfl (any_of HT_.out (by kernel_rfl)) (fun _ _ _ h => h) (Or.inl ⟨by rfl,?_⟩) ?_ ?_
     rotate_left
     · intro w';go_simp;with_reducible rfl
     rotate_left
     · simp only [Act.put,z0_,z1_,z2_,i64_w,i32_w];rfl
     refine pure_ (i:=7) (N:=some 23) (v:=?_) (a':=?_) #[T0,T0,T0,T0,T0,T0,T0,T0,F0] rfl rfl (any_of HT_.out (by kernel_rfl)) (fun _ _ _ h => h) (Or.inl ⟨by rfl,?_⟩) ?_ ?_
     rotate_left
     · intro w';go_simp;with_reducible rfl
     rotate_left
     · simp only [Act.put,z0_,z1_,z2_,i64_w,i32_w];rfl
     refine last_ (i:=8) (N:=none) #[T0,T0,T0,T0,T0,T0,T0,T0,T0] rfl rfl (one_of HT_.out (by kernel_rfl)) (by decide) (fun K hK => ?_);refine skip_ (w1:=?_) (by rfl) rfl ?_ ?_
     rotate_left
     · go_simp;rfl
     refine hK.out _ _ ?_;clear hK K;refine done_ (done_of HT_.out (by kernel_rfl)) ?_
     try go_wp2
     go_roundg k1
     case measure => have:=HK1.out;omega
     case rel => exact ⟨(y123),(wrap64 (x11_1 + 1)),(by first | rfl | (simp;done) | (simp [*];done)),H',⟨by have:=HK1.out;omega⟩,⟨by (with_reducible repeat (first | apply Kd.R_alloc | apply Kd.R_drewN | apply Kd.R_drew));exact HQ29.out⟩,⟨by repeat (first | (with_reducible first | exact HB.out | apply b0_ | apply b1_ | apply b2_ | refine below_set ?_ GB10.out | refine below_set ?_ GE121.out) | exact HB.out)⟩⟩
    rw [if_pos c11] at H;have c11b0 : decide (0 < x11_1) = true:=decide_eq_true c11;clear c11;by_cases c12 : 0≤((rd_T30 l0 x11_1).f0)
    rotate_left
    · rw [if_neg c12] at H;exact absurd H (by simp)
    rw [if_pos c12] at H;have c12b0 : decide (0≤((rd_T30 l0 x11_1).f0)) = true:=decide_eq_true c12;clear c12;by_cases c13 : ((rd_T30 l0 x11_1).f0) < (x3_1.length : Int)
    rotate_left
    · rw [if_neg c13] at H;exact absurd H (by simp)
    rw [if_pos c13] at H;have c13b0 : decide (((rd_T30 l0 x11_1).f0) < (x3_1.length : Int)) = true:=decide_eq_true c13;clear c13;obtain ⟨y125,hy125⟩ : ∃ y_ : List Int,y_ = (y123.set (((rd_T30 l0 x11_1).f0) : Int).toNat (wrap64 ((rd y123 ((rd_T30 l0 x11_1).f0)) - ((rd_T30 l0 x11_1).f1)))):=⟨_,rfl⟩
    replace H : (accounts_own.l0 k1 y125 l0 (l0.length : Int) (wrap64 (x11_1 + 1))) = some r:=by first | (rw [hy125];with_reducible exact H) | (have H2_:=(Option.bind_some _ _).symm.trans H;rw [hy125];with_reducible exact H2_) | (have H2_:=(Option.bind_some _ _).symm.trans H;with_reducible exact H2_) | with_reducible exact H | (rw [hy125];exact H) | exact H
    have Ny125:=Aside0.mk hy125;clear hy125;have H':=Aside0.mk H;clear H;have p120 : 0≤(x11_1 : Int):=of_decide_eq_true (by first | (with_reducible assumption) | assumption);have q120 : x11_1 < (l0.length : Int):=of_decide_eq_true (by first | (with_reducible assumption) | assumption);obtain ⟨ad120,e120,hx120_0,hx120_1,hx120_2,hx120_3,hx120_4⟩:=at_T30 HR0.out x11_1 p120 q120
    cases e120;replace hx120_0:=(HB.out.cell (World.block_lt_of_cell? w _ hx120_0)).trans hx120_0;replace hx120_1:=(HB.out.cell (World.block_lt_of_cell? w _ hx120_1)).trans hx120_1;replace hx120_2:=(HB.out.cell (World.block_lt_of_cell? w _ hx120_2)).trans hx120_2;replace hx120_3:=(HB.out.cell (World.block_lt_of_cell? w _ hx120_3)).trans hx120_3
    replace hx120_4:=(HB.out.cell (World.block_lt_of_cell? w _ hx120_4)).trans hx120_4;replace p120:=eq_true p120;replace q120:=eq_true q120
    try go_wp2_with (first | ((with_reducible refine gate_dst (N:=5) rfl ?_);refine box_event ?hg (N:=5) ?hd (cs:=#[.int .i64 0,.int .i64 0,.int .i64 0,.int .i64 0,.int .i64 0]) (t:=30) ?hr ?_;(case hd => rfl);(case hg => rfl);(case hr => first | (go_simp;done) | (go_simp;rfl));intro gb121 hg w15 hbox hb;have n0_:=Aside0.mk (Kd.R_below (by (with_reducible repeat (first | apply Kd.R_alloc | apply Kd.R_drewN | apply Kd.R_drew));exact HO_3.out) hb);have n1_:=Aside0.mk (below_step (by repeat (first | (with_reducible first | exact HB.out | apply b0_ | apply b1_ | apply b2_) | exact HB.out)) hb);have n2_:=Aside0.mk (hbox);have n3_:=Aside0.mk ((by rw [hg];exact (below_size (by repeat (first | (with_reducible first | exact HB.out | apply b0_ | apply b1_ | apply b2_) | exact HB.out))) : w.heap.size≤gb121));have n4_:=Aside0.mk ((by rw [hg];exact (below_size (by repeat (first | (with_reducible first | exact HB.out | apply b0_ | apply b1_ | apply b2_) | exact HB.out))) : w.heap.size≤gb121));clear HO_3;clear HB;have HO_3:=n0_;have HB:=n1_;have BK121:=n2_;have GW121:=n3_;have GE121:=n4_;clear n0_ n1_ n2_ n3_ n4_;clear hb hbox hg;obtain ⟨hcz16_0,hcz16_1,hcz16_2,hcz16_3,hcz16_4,hfz16_0,hfz16_1,hfz16_2,hfz16_3,hfz16_4⟩:=q5_ BK121.out))
    have n0_ : Aside0 (Kd.R (Kd.int .i64) 3 (((((w15.setCell ⟨gb121,0,none⟩ (.int .i64 ((rd_T30 l0 x11_1).f0))).setCell ⟨gb121,1,none⟩ (.int .i64 ((rd_T30 l0 x11_1).f1))).setCell ⟨gb121,2,none⟩ (.int .i64 ((rd_T30 l0 x11_1).f2))).setCell ⟨gb121,3,none⟩ (.int .i64 ((rd_T30 l0 x11_1).f3))).setCell ⟨gb121,4,none⟩ (.int .i64 ((rd_T30 l0 x11_1).f4))) w.heap.size (fun _ => True) v118 x3_1):=⟨by (with_reducible repeat (first | apply Kd.R_alloc | apply Kd.R_drewN | apply Kd.R_drew));exact Kd.R_mono (Kd.R_far (p:=⟨gb121,4,none⟩) (Kd.R_far (p:=⟨gb121,3,none⟩) (Kd.R_far (p:=⟨gb121,2,none⟩) (Kd.R_far (p:=⟨gb121,1,none⟩) (Kd.R_far (p:=⟨gb121,0,none⟩) (Kd.R_types HO_3.out BK121.out (by decide)) (fun _ hk => hk.2) (.int .i64 ((rd_T30 l0 x11_1).f0))) (fun _ hk => hk.2) (.int .i64 ((rd_T30 l0 x11_1).f1))) (fun _ hk => hk.2) (.int .i64 ((rd_T30 l0 x11_1).f2))) (fun _ hk => hk.2) (.int .i64 ((rd_T30 l0 x11_1).f3))) (fun _ hk => hk.2) (.int .i64 ((rd_T30 l0 x11_1).f4))) (fun _ hk => trivial)⟩
    have n1_ : Aside0 ((((((w15.setCell ⟨gb121,0,none⟩ (.int .i64 ((rd_T30 l0 x11_1).f0))).setCell ⟨gb121,1,none⟩ (.int .i64 ((rd_T30 l0 x11_1).f1))).setCell ⟨gb121,2,none⟩ (.int .i64 ((rd_T30 l0 x11_1).f2))).setCell ⟨gb121,3,none⟩ (.int .i64 ((rd_T30 l0 x11_1).f3))).setCell ⟨gb121,4,none⟩ (.int .i64 ((rd_T30 l0 x11_1).f4))).heap[gb121]? = some (.cells #[.int .i64 ((rd_T30 l0 x11_1).f0),.int .i64 ((rd_T30 l0 x11_1).f1),.int .i64 ((rd_T30 l0 x11_1).f2),.int .i64 ((rd_T30 l0 x11_1).f3),.int .i64 ((rd_T30 l0 x11_1).f4)] 30 (0,0))):=⟨by (with_reducible repeat (first | refine blk_drewN ?_ _ | refine blk_drew ?_ | refine blk_alloc ?_ _));refine blk_put (cs:=#[.int .i64 ((rd_T30 l0 x11_1).f0),.int .i64 ((rd_T30 l0 x11_1).f1),.int .i64 ((rd_T30 l0 x11_1).f2),.int .i64 ((rd_T30 l0 x11_1).f3),.int .i64 0]) ?_ 4 _ rfl;(with_reducible repeat (first | refine blk_drewN ?_ _ | refine blk_drew ?_ | refine blk_alloc ?_ _));refine blk_put (cs:=#[.int .i64 ((rd_T30 l0 x11_1).f0),.int .i64 ((rd_T30 l0 x11_1).f1),.int .i64 ((rd_T30 l0 x11_1).f2),.int .i64 0,.int .i64 0]) ?_ 3 _ rfl;(with_reducible repeat (first | refine blk_drewN ?_ _ | refine blk_drew ?_ | refine blk_alloc ?_ _));refine blk_put (cs:=#[.int .i64 ((rd_T30 l0 x11_1).f0),.int .i64 ((rd_T30 l0 x11_1).f1),.int .i64 0,.int .i64 0,.int .i64 0]) ?_ 2 _ rfl;(with_reducible repeat (first | refine blk_drewN ?_ _ | refine blk_drew ?_ | refine blk_alloc ?_ _));refine blk_put (cs:=#[.int .i64 ((rd_T30 l0 x11_1).f0),.int .i64 0,.int .i64 0,.int .i64 0,.int .i64 0]) ?_ 1 _ rfl;(with_reducible repeat (first | refine blk_drewN ?_ _ | refine blk_drew ?_ | refine blk_alloc ?_ _));refine blk_put (cs:=#[.int .i64 0,.int .i64 0,.int .i64 0,.int .i64 0,.int .i64 0]) ?_ 0 _ rfl;(with_reducible repeat (first | refine blk_drewN ?_ _ | refine blk_drew ?_ | refine blk_alloc ?_ _));exact BK121.out⟩
    have n2_ : Aside0 (Below w.heap.size w (((((w15.setCell ⟨gb121,0,none⟩ (.int .i64 ((rd_T30 l0 x11_1).f0))).setCell ⟨gb121,1,none⟩ (.int .i64 ((rd_T30 l0 x11_1).f1))).setCell ⟨gb121,2,none⟩ (.int .i64 ((rd_T30 l0 x11_1).f2))).setCell ⟨gb121,3,none⟩ (.int .i64 ((rd_T30 l0 x11_1).f3))).setCell ⟨gb121,4,none⟩ (.int .i64 ((rd_T30 l0 x11_1).f4)))):=⟨by repeat (first | (with_reducible first | exact HB.out | apply b0_ | apply b1_ | apply b2_ | refine below_set ?_ GE121.out) | exact HB.out)⟩
    (try clear HO_3)
    (try clear BK121)
    (try clear HB)
    generalize (((((w15.setCell ⟨gb121,0,none⟩ (.int .i64 ((rd_T30 l0 x11_1).f0))).setCell ⟨gb121,1,none⟩ (.int .i64 ((rd_T30 l0 x11_1).f1))).setCell ⟨gb121,2,none⟩ (.int .i64 ((rd_T30 l0 x11_1).f2))).setCell ⟨gb121,3,none⟩ (.int .i64 ((rd_T30 l0 x11_1).f3))).setCell ⟨gb121,4,none⟩ (.int .i64 ((rd_T30 l0 x11_1).f4))) = w17 at n0_ n1_ n2_ ⊢;have HO_3:=n0_;have BK121:=n1_;have HB:=n2_
    clear n0_ n1_ n2_;have n0_:=Aside0.mk (Kd.R_drew HO_3.out);have n1_:=Aside0.mk (blk_drew BK121.out);have n2_:=Aside0.mk (b2_ HB.out);clear HO_3;clear BK121;clear HB;have HO_3:=n0_;have BK121:=n1_;have HB:=n2_;clear n0_ n1_ n2_;obtain ⟨Ao19,co19,eo19⟩:=Kd.R_slice HO_3.out
    (first | subst eo19 | (injection eo19 with f1_ f2_ f3_;have f4_:=f1_.symm;have f5_:=f3_.symm;clear f1_ f2_ f3_;subst f4_;subst f5_))
    have p122 : 0≤(x11_1 : Int):=of_decide_eq_true (by first | (with_reducible assumption) | assumption);have q122 : x11_1 < (x3_1.length : Int):=of_decide_eq_true (by first | (with_reducible assumption) | assumption);obtain ⟨ad122,e122,hx122_0⟩:=Kd.at_int (Kd.R_reads' HO_3.out).2.2 x11_1 p122 q122;cases e122;replace p122:=eq_true p122;replace q122:=eq_true q122
    have p10 : 0≤(x11_1 : Int):=of_decide_eq_true (by first | (with_reducible assumption) | assumption);have q10 : (x11_1 : Int) < ((x3_1.length : Int) : Int):=of_decide_eq_true (by first | (with_reducible assumption) | assumption);obtain ⟨go10,co10,eo10,gb10,gl10,cl10,HG10⟩:=Kd.R_form HO_3.out (by omega)
    (first | cases eo10 | (injection eo10 with ea_ en_ ec_;(first | subst ea_ | (injection ea_ with ea_;subst ea_));subst ec_;clear en_))
    have GB10:=Aside0.mk gb10;have GG10:=Aside0.mk HG10;clear gb10 gl10 HG10
    (first | simp only [add_plain] at hx122_0 | skip)
    obtain ⟨hx10_0,hf10_0⟩:=Kd.R_celln 0 HO_3.out (x11_1 : Int) p10 q10;replace p10:=eq_true p10;replace q10:=eq_true q10;have HP20:=Kd.R_putn HO_3.out (x11_1 : Int) (wrap64 ((rd x3_1 x11_1) + ((rd_T30 l0 x11_1).f1)));rw [← Ny123.out] at HP20;have HQ20:=Aside0.mk HP20;clear HP20
    refine start_ (n:=9) (S:=fun w' => w'.cell? ⟨gb121,0,none⟩ = some (.int .i64 ((rd_T30 l0 x11_1).f0))∧w'.cell? ⟨gb121,1,none⟩ = some (.int .i64 ((rd_T30 l0 x11_1).f1))∧w'.cell? ⟨gb121,2,none⟩ = some (.int .i64 ((rd_T30 l0 x11_1).f2))∧w'.cell? ⟨gb121,3,none⟩ = some (.int .i64 ((rd_T30 l0 x11_1).f3))∧w'.cell? ⟨gb121,4,none⟩ = some (.int .i64 ((rd_T30 l0 x11_1).f4))∧w'.cell? ⟨go10,(x11_1).toNat,none⟩ = some (.int .i64 (rd x3_1 x11_1))) (ds:=[8]) #[F0,F0,F0,F0,F0,F0,F0,F0,F0] (by kernel_rfl) rfl rfl ⟨(blk_cell BK121.out 0).trans rfl,(blk_cell BK121.out 1).trans rfl,(blk_cell BK121.out 2).trans rfl,(blk_cell BK121.out 3).trans rfl,(blk_cell BK121.out 4).trans rfl,hx122_0⟩ (fun hHeld => ?_);refine with_tabW accounts_own.tab5 accounts_own.bits5 (fun HT_ HW_ => ?_)
    generalize w17.drew = w18 at HO_3 BK121 HB GG10 HQ20 hf10_0 hx10_0 hx122_0 hHeld ⊢;refine pure_ (i:=0) (N:=some 16) (v:=?_) (a':=?_) #[T0,F0,F0,F0,F0,F0,F0,F0,F0] rfl rfl (any_of HT_.out (by kernel_rfl)) (fun _ _ _ h => h) (Or.inl ⟨by rfl,?_⟩) ?_ ?_
    rotate_left
    · intro w';go_simp;with_reducible rfl
    rotate_left
    · simp only [Act.put,z0_,z1_,z2_,i64_w,i32_w];rfl
    refine pure_ (i:=1) (N:=some 17) (v:=?_) (a':=?_) #[T0,T0,F0,F0,F0,F0,F0,F0,F0] rfl rfl (any_of HT_.out (by kernel_rfl)) (fun _ _ _ h => h) (Or.inl ⟨by rfl,?_⟩) ?_ ?_
    rotate_left
    · intro w';go_simp;with_reducible rfl
    rotate_left
    · simp only [Act.put,z0_,z1_,z2_,i64_w,i32_w];rfl
    refine pure_ (i:=2) (N:=some 18) (v:=?_) (a':=?_) #[T0,T0,T0,F0,F0,F0,F0,F0,F0] rfl rfl (any_of HT_.out (by kernel_rfl)) (fun _ _ _ h => h) (Or.inl ⟨by rfl,?_⟩) ?_ ?_
    rotate_left
    · intro w';go_simp;with_reducible rfl
    rotate_left
    · simp only [Act.put,z0_,z1_,z2_,i64_w,i32_w];rfl
    refine pure_ (i:=4) (N:=some 20) (v:=?_) (a':=?_) #[T0,T0,T0,F0,T0,F0,F0,F0,F0] rfl rfl (any_of HT_.out (by kernel_rfl)) (fun _ _ _ h => h) (Or.inl ⟨by rfl,?_⟩) ?_ ?_
    rotate_left
    · intro w';go_simp;with_reducible rfl
    rotate_left
    · simp only [Act.put,z0_,z1_,z2_,i64_w,i32_w];rfl
    refine take_ (i:=3) (N:=some 19) (v:=?_) (a':=?_) #[T0,T0,T0,T0,T0,F0,F0,F0,F0] rfl rfl (take_ofW HT_.out HW_.out (by kernel_rfl)) (fun _ _ _ h => h) (Or.inl ⟨by rfl,?_⟩) hHeld ?_ ?_
    rotate_left
    ·
     rintro w' ⟨s0,s1,s2,s3,s4,s5⟩
     go_simp;with_reducible rfl
    rotate_left
    · simp only [Act.put,z0_,z1_,z2_,i64_w,i32_w];rfl
    refine take_ (i:=5) (N:=some 21) (v:=?_) (a':=?_) #[T0,T0,T0,T0,T0,T0,F0,F0,F0] rfl rfl (take_ofW HT_.out HW_.out (by kernel_rfl)) (fun _ _ _ h => h) (Or.inl ⟨by rfl,?_⟩) hHeld ?_ ?_
    rotate_left
    ·
     rintro w' ⟨s0,s1,s2,s3,s4,s5⟩
     go_simp;with_reducible rfl
    rotate_left
    · simp only [Act.put,z0_,z1_,z2_,i64_w,i32_w];rfl
    refine pure_ (i:=6) (N:=some 22) (v:=?_) (a':=?_) #[T0,T0,T0,T0,T0,T0,T0,F0,F0] rfl rfl (any_of HT_.out (by kernel_rfl)) (fun _ _ _ h => h) (Or.inl ⟨by rfl,?_⟩) ?_ ?_
    rotate_left
    · intro w';go_simp;with_reducible rfl
    rotate_left
    · simp only [Act.put,z0_,z1_,z2_,i64_w,i32_w];rfl
    refine pure_ (i:=7) (N:=some 23) (v:=?_) (a':=?_) #[T0,T0,T0,T0,T0,T0,T0,T0,F0] rfl rfl (any_of HT_.out (by kernel_rfl)) (fun _ _ _ h => h) (Or.inl ⟨by rfl,?_⟩) ?_ ?_
    rotate_left
    · intro w';go_simp;with_reducible rfl
    rotate_left
    · simp only [Act.put,z0_,z1_,z2_,i64_w,i32_w];rfl
    refine last_ (i:=8) (N:=none) #[T0,T0,T0,T0,T0,T0,T0,T0,T0] rfl rfl (one_of HT_.out (by kernel_rfl)) (by decide) (fun K hK => ?_);refine skip_ (w1:=?_) (by rfl) rfl ?_ ?_
    rotate_left
    · go_simp;rfl
    refine hK.out _ _ ?_;clear hK K;refine done_ (done_of HT_.out (by kernel_rfl)) ?_
    try go_wp2
    have n0_ : Aside0 (Kd.R (Kd.int .i64) 3 (w18.setCell ⟨go10,(x11_1 : Int).toNat,none⟩ (.int .i64 (wrap64 ((rd x3_1 x11_1) + ((rd_T30 l0 x11_1).f1))))) w.heap.size (fun _ => True) (.slice (some ⟨go10,0,none⟩) x3_1.length co19) y123):=⟨by (with_reducible repeat (first | apply Kd.R_alloc | apply Kd.R_drewN | apply Kd.R_drew));exact HQ20.out⟩
    have n1_ : Aside0 ((w18.setCell ⟨go10,(x11_1 : Int).toNat,none⟩ (.int .i64 (wrap64 ((rd x3_1 x11_1) + ((rd_T30 l0 x11_1).f1))))).heap[gb121]? = some (.cells #[.int .i64 ((rd_T30 l0 x11_1).f0),.int .i64 ((rd_T30 l0 x11_1).f1),.int .i64 ((rd_T30 l0 x11_1).f2),.int .i64 ((rd_T30 l0 x11_1).f3),.int .i64 ((rd_T30 l0 x11_1).f4)] 30 (0,0))):=⟨by (with_reducible repeat (first | refine blk_drewN ?_ _ | refine blk_drew ?_ | refine blk_alloc ?_ _));refine blk_far ?_ (by have h_:=Kd.R_ne HO_3.out BK121.out (by decide);intro e_;exact h_ (by rw [e_];rfl)) _;(with_reducible repeat (first | refine blk_drewN ?_ _ | refine blk_drew ?_ | refine blk_alloc ?_ _));exact BK121.out⟩
    have n2_ : Aside0 (Below w.heap.size w (w18.setCell ⟨go10,(x11_1 : Int).toNat,none⟩ (.int .i64 (wrap64 ((rd x3_1 x11_1) + ((rd_T30 l0 x11_1).f1)))))):=⟨by repeat (first | (with_reducible first | exact HB.out | apply b0_ | apply b1_ | apply b2_ | refine below_set ?_ GB10.out | refine below_set ?_ GE121.out) | exact HB.out)⟩
    (try clear HO_3)
    (try clear BK121)
    (try clear HB)
    generalize (w18.setCell ⟨go10,(x11_1 : Int).toNat,none⟩ (.int .i64 (wrap64 ((rd x3_1 x11_1) + ((rd_T30 l0 x11_1).f1))))) = w21 at n0_ n1_ n2_ ⊢;have HO_3:=n0_;have BK121:=n1_;have HB:=n2_;clear n0_ n1_ n2_;have n0_:=Aside0.mk (Kd.R_drew HO_3.out);have n1_:=Aside0.mk (blk_drew BK121.out);have n2_:=Aside0.mk (b2_ HB.out);clear HO_3;clear BK121;clear HB;have HO_3:=n0_
    have BK121:=n1_;have HB:=n2_;clear n0_ n1_ n2_;have p124 : 0≤(((rd_T30 l0 x11_1).f0) : Int):=of_decide_eq_true (by first | (with_reducible assumption) | assumption)
    have q124 : ((rd_T30 l0 x11_1).f0) < (y123.length : Int):=(by have h_ : (((rd_T30 l0 x11_1).f0) : Int) < ((x3_1.length : Int) : Int):=of_decide_eq_true (by first | (with_reducible assumption) | assumption);first | (have e_:=(Kd.R_reads' HO_3.out).1;omega) | simpa only [Ny123.out,List.length_set] using h_)
    have ql124 : ((((rd_T30 l0 x11_1).f0) : Int) < ((x3_1.length : Int) : Int)) = True:=eq_true (of_decide_eq_true (by first | (with_reducible assumption) | assumption));obtain ⟨ad124,e124,hx124_0⟩:=Kd.at_int (Kd.R_reads' HO_3.out).2.2 ((rd_T30 l0 x11_1).f0) p124 q124;obtain rfl : (⟨go10,0,none⟩ : Addr) = ad124:=(by injection e124)
    (first | simp only [add_plain] at hx124_0 | simp only [add_at] at hx124_0 | simp only [Addr.add,Nat.zero_add] at hx124_0 | skip)
    replace p124:=eq_true p124;replace q124:=eq_true q124;have p14 : 0≤(((rd_T30 l0 x11_1).f0) : Int):=of_decide_eq_true (by first | (with_reducible assumption) | assumption);have q14 : (((rd_T30 l0 x11_1).f0) : Int) < ((x3_1.length : Int) : Int):=of_decide_eq_true (by first | (with_reducible assumption) | assumption)
    obtain ⟨hx14_0,hf14_0⟩:=Kd.R_celln 0 HO_3.out (((rd_T30 l0 x11_1).f0) : Int) p14 q14;replace p14:=eq_true p14;replace q14:=eq_true q14;have HP23:=Kd.R_putn HO_3.out (((rd_T30 l0 x11_1).f0) : Int) (wrap64 ((rd y123 ((rd_T30 l0 x11_1).f0)) - ((rd_T30 l0 x11_1).f1)));rw [← Ny125.out] at HP23;have HQ23:=Aside0.mk HP23;clear HP23
    refine start_ (n:=10) (S:=fun w' => w'.cell? ⟨gb121,0,none⟩ = some (.int .i64 ((rd_T30 l0 x11_1).f0))∧w'.cell? ⟨gb121,1,none⟩ = some (.int .i64 ((rd_T30 l0 x11_1).f1))∧w'.cell? ⟨gb121,2,none⟩ = some (.int .i64 ((rd_T30 l0 x11_1).f2))∧w'.cell? ⟨gb121,3,none⟩ = some (.int .i64 ((rd_T30 l0 x11_1).f3))∧w'.cell? ⟨gb121,4,none⟩ = some (.int .i64 ((rd_T30 l0 x11_1).f4))∧w'.cell? ⟨go10,(((rd_T30 l0 x11_1).f0)).toNat,none⟩ = some (.int .i64 (rd y123 ((rd_T30 l0 x11_1).f0)))) (ds:=[9]) #[F0,F0,F0,F0,F0,F0,F0,F0,F0,F0] (by kernel_rfl) rfl rfl ⟨(blk_cell BK121.out 0).trans rfl,(blk_cell BK121.out 1).trans rfl,(blk_cell BK121.out 2).trans rfl,(blk_cell BK121.out 3).trans rfl,(blk_cell BK121.out 4).trans rfl,hx124_0⟩ (fun hHeld => ?_);refine with_tabW accounts_own.tab7 accounts_own.bits7 (fun HT_ HW_ => ?_)
    generalize w21.drew = w22 at HO_3 BK121 HB HQ20 HQ23 hf14_0 hx124_0 hx14_0 hHeld ⊢;refine pure_ (i:=0) (N:=some 26) (v:=?_) (a':=?_) #[T0,F0,F0,F0,F0,F0,F0,F0,F0,F0] rfl rfl (any_of HT_.out (by kernel_rfl)) (fun _ _ _ h => h) (Or.inl ⟨by rfl,?_⟩) ?_ ?_
    rotate_left
    · intro w';go_simp;with_reducible rfl
    rotate_left
    · simp only [Act.put,z0_,z1_,z2_,i64_w,i32_w];rfl
    refine pure_ (i:=1) (N:=some 27) (v:=?_) (a':=?_) #[T0,T0,F0,F0,F0,F0,F0,F0,F0,F0] rfl rfl (any_of HT_.out (by kernel_rfl)) (fun _ _ _ h => h) (Or.inl ⟨by rfl,?_⟩) ?_ ?_
    rotate_left
    · intro w';go_simp;with_reducible rfl
    rotate_left
    · simp only [Act.put,z0_,z1_,z2_,i64_w,i32_w];rfl
    refine pure_ (i:=5) (N:=some 31) (v:=?_) (a':=?_) #[T0,T0,F0,F0,F0,T0,F0,F0,F0,F0] rfl rfl (any_of HT_.out (by kernel_rfl)) (fun _ _ _ h => h) (Or.inl ⟨by rfl,?_⟩) ?_ ?_
    rotate_left
    · intro w';go_simp;with_reducible rfl
    rotate_left
    · simp only [Act.put,z0_,z1_,z2_,i64_w,i32_w];rfl
    refine take_ (i:=2) (N:=some 28) (v:=?_) (a':=?_) #[T0,T0,T0,F0,F0,T0,F0,F0,F0,F0] rfl rfl (take_ofW HT_.out HW_.out (by kernel_rfl)) (fun _ _ _ h => h) (Or.inl ⟨by rfl,?_⟩) hHeld ?_ ?_
    rotate_left
    ·
     rintro w' ⟨s0,s1,s2,s3,s4,s5⟩
     go_simp;with_reducible rfl
    rotate_left
    · simp only [Act.put,z0_,z1_,z2_,i64_w,i32_w];rfl
    refine pure_ (i:=3) (N:=some 29) (v:=?_) (a':=?_) #[T0,T0,T0,T0,F0,T0,F0,F0,F0,F0] rfl rfl (any_of HT_.out (by kernel_rfl)) (fun _ _ _ h => h) (Or.inl ⟨by rfl,?_⟩) ?_ ?_
    rotate_left
    · intro w';go_simp;with_reducible rfl
    rotate_left
    · simp only [Act.put,z0_,z1_,z2_,i64_w,i32_w];rfl
    refine take_ (i:=4) (N:=some 30) (v:=?_) (a':=?_) #[T0,T0,T0,T0,T0,T0,F0,F0,F0,F0] rfl rfl (take_ofW HT_.out HW_.out (by kernel_rfl)) (fun _ _ _ h => h) (Or.inl ⟨by rfl,?_⟩) hHeld ?_ ?_
    rotate_left
    ·
     rintro w' ⟨s0,s1,s2,s3,s4,s5⟩
     go_simp;with_reducible rfl
    rotate_left
    · simp only [Act.put,z0_,z1_,z2_,i64_w,i32_w];rfl
    refine take_ (i:=6) (N:=some 32) (v:=?_) (a':=?_) #[T0,T0,T0,T0,T0,T0,T0,F0,F0,F0] rfl rfl (take_ofW HT_.out HW_.out (by kernel_rfl)) (fun _ _ _ h => h) (Or.inl ⟨by rfl,?_⟩) hHeld ?_ ?_
    rotate_left
    ·
     rintro w' ⟨s0,s1,s2,s3,s4,s5⟩
     go_simp;with_reducible rfl
    rotate_left
    · simp only [Act.put,z0_,z1_,z2_,i64_w,i32_w];rfl
    refine pure_ (i:=7) (N:=some 33) (v:=?_) (a':=?_) #[T0,T0,T0,T0,T0,T0,T0,T0,F0,F0] rfl rfl (any_of HT_.out (by kernel_rfl)) (fun _ _ _ h => h) (Or.inl ⟨by rfl,?_⟩) ?_ ?_
    rotate_left
    · intro w';go_simp;with_reducible rfl
    rotate_left
    · simp only [Act.put,z0_,z1_,z2_,i64_w,i32_w];rfl
    refine pure_ (i:=8) (N:=some 34) (v:=?_) (a':=?_) #[T0,T0,T0,T0,T0,T0,T0,T0,T0,F0] rfl rfl (any_of HT_.out (by kernel_rfl)) (fun _ _ _ h => h) (Or.inl ⟨by rfl,?_⟩) ?_ ?_
    rotate_left
    · intro w';go_simp;with_reducible rfl
    rotate_left
    · simp only [Act.put,z0_,z1_,z2_,i64_w,i32_w];rfl
    refine last_ (i:=9) (N:=none) #[T0,T0,T0,T0,T0,T0,T0,T0,T0,T0] rfl rfl (one_of HT_.out (by kernel_rfl)) (by decide) (fun K hK => ?_);refine skip_ (w1:=?_) (by rfl) rfl ?_ ?_
    rotate_left
    · go_simp;rfl
    refine hK.out _ _ ?_;clear hK K;refine done_ (done_of HT_.out (by kernel_rfl)) ?_
    try go_wp2
    go_roundg k1
    case measure => have:=HK1.out;omega
    case rel => exact ⟨(y125),(wrap64 (x11_1 + 1)),(by first | rfl | (simp;done) | (simp [*];done)),H',⟨by have:=HK1.out;omega⟩,⟨by (with_reducible repeat (first | apply Kd.R_alloc | apply Kd.R_drewN | apply Kd.R_drew));exact HQ23.out⟩,⟨by repeat (first | (with_reducible first | exact HB.out | apply b0_ | apply b1_ | apply b2_ | refine below_set ?_ GB10.out | refine below_set ?_ GE121.out) | exact HB.out)⟩⟩
def accounts_Check.j0 : Nat→List (S30)→Bool→Option (Int)
 | 0,_,_ => none
 | k + 1,x0,x3 => if x3 = true then (some 9) else ((accounts_tree.f k x0).bind fun t126 => (if t126 = true then ((accounts_amounts.f k x0).bind fun t127 => (if t127 = true then ((api_Account_77.f k x0).bind fun t128 => (if t128 = true then (some 17) else ((accounts_own.f k x0).bind fun t129 => ((slices_Min_int_int.f k t129).bind fun t132 => (if t132 < 0 then (some 11) else (some 0)))))) else (some 2))) else (some 1)))
def accounts_Check.f (k : Nat) (l0 : List (S30)) : Option (Int):=if (l0.length : Int) < 1 then (accounts_Check.j0 k l0 true) else (accounts_Check.j0 k l0 (decide ((l0.length : Int) > 8)))
theorem accounts_Check.mono_l : ∀ k,(∀ y0 y1,LeO (accounts_Check.j0 k y0 y1) (accounts_Check.j0 (k + 1) y0 y1))
 | 0 => fun _ _ r h => by simp [accounts_Check.j0] at h
 | k + 1 => by
  have ih0:=accounts_Check.mono_l k
  ·
   intro y0 y1
   unfold accounts_Check.j0
   repeat' first
    | (with_reducible exact ih0 _ _)
    | (with_reducible exact accounts_amounts.mono _ _)
    | (with_reducible exact accounts_own.mono _ _)
    | (with_reducible exact accounts_tree.mono _ _)
    | (with_reducible exact api_Account_77.mono _ _)
    | (with_reducible exact slices_Min_int_int.mono _ _)
    | (with_reducible exact LeO.refl _)
    | (with_reducible exact LeO.none _)
    | (with_reducible refine LeO.ite ?_ ?_)
    | (with_reducible refine LeO.bind ?_ (fun _ => ?_))
    | exact ih0 _ _
    | exact accounts_amounts.mono _ _
    | exact accounts_own.mono _ _
    | exact accounts_tree.mono _ _
    | exact api_Account_77.mono _ _
    | exact slices_Min_int_int.mono _ _
    | exact LeO.none _
    | refine LeO.ite ?_ ?_
    | refine LeO.bind ?_ (fun _ => ?_)
theorem accounts_Check.mono : ∀ a0 k,LeO (accounts_Check.f k a0) (accounts_Check.f (k + 1) a0):=by
 intro a0 k;have ih0:=accounts_Check.mono_l k
 unfold accounts_Check.f
 repeat' first
  | (with_reducible exact ih0 _ _)
  | (with_reducible exact accounts_amounts.mono _ _)
  | (with_reducible exact accounts_own.mono _ _)
  | (with_reducible exact accounts_tree.mono _ _)
  | (with_reducible exact api_Account_77.mono _ _)
  | (with_reducible exact slices_Min_int_int.mono _ _)
  | (with_reducible exact LeO.refl _)
  | (with_reducible exact LeO.none _)
  | (with_reducible refine LeO.ite ?_ ?_)
  | (with_reducible refine LeO.bind ?_ (fun _ => ?_))
  | exact ih0 _ _
  | exact accounts_amounts.mono _ _
  | exact accounts_own.mono _ _
  | exact accounts_tree.mono _ _
  | exact api_Account_77.mono _ _
  | exact slices_Min_int_int.mono _ _
  | exact LeO.none _
  | refine LeO.ite ?_ ?_
  | refine LeO.bind ?_ (fun _ => ?_)
set_option maxHeartbeats 8000000 in
set_option maxRecDepth 100000 in
theorem accounts_Check.calls (k : Nat) (A0 : Option Addr) (c0 : Nat) (l0 : List (S30)) (r : Int) (w : World) (hr0 : Kd.C k30 w A0 l0.length l0) (hc0 : l0.length≤c0) (h : accounts_Check.f k l0 = some r) :
 Calls Try.prog 48 #[.slice A0 l0.length c0] w fun e w' => e = .returned (.int .i64 r)∧Below w.heap.size w w':=by
 have HR0:=Aside0.mk hr0;have HC0:=Aside0.mk hc0;clear hr0 hc0;have HB:=Aside0.mk (Below.refl w.heap.size w);have H : (if (l0.length : Int) < 1 then (accounts_Check.j0 k l0 true) else (accounts_Check.j0 k l0 (decide ((l0.length : Int) > 8)))) = some r:=h;clear h;have HC2:=Aside0.mk H;clear H
 go_enter Try.func48,Try.ntmps48
 go_upto_region 1 with (fail)
 go_cut [3] (fun v3 wc => ∃ (kq : Nat) (x3_1 : Bool),v3 = .bool x3_1∧Aside0 (accounts_Check.j0 kq l0 x3_1 = some r)∧Aside0 (kq≤k)∧Aside0 (Below w.heap.size w wc))
 case first =>
  have H:=HC2.out;clear HC2;by_cases c3 : (l0.length : Int) < 1
  rotate_left
  ·
   rw [if_neg c3] at H;have c3b0 : decide ((l0.length : Int) < 1) = false:=decide_eq_false c3;have c3b1 : decide (l0.length < 1) = false:=decide_eq_false (by omega);clear c3
   (first | rw [c3b0] | (simp only [i64_w,i32_w];rw [c3b0]) | skip)
   have H':=Aside0.mk H;clear H;go_wp2
   go_meet
   case rel => exact ⟨_,(decide ((l0.length : Int) > 8)),(by first | rfl | (simp;done) | (simp [*];done)),H',⟨by first | omega | exact Nat.le_refl _⟩,⟨by repeat (first | (with_reducible first | exact HB.out | apply b0_ | apply b1_ | apply b2_) | exact HB.out)⟩⟩
  rw [if_pos c3] at H;have c3b0 : decide ((l0.length : Int) < 1) = true:=decide_eq_true c3;have c3b1 : decide (l0.length < 1) = true:=decide_eq_true (by omega);clear c3
  (first | rw [c3b0] | (simp only [i64_w,i32_w];rw [c3b0]) | skip)
  have H':=Aside0.mk H;clear H;go_wp2
  go_meet
  case rel => exact ⟨_,(true),(by first | rfl | (simp;done) | (simp [*];done)),H',⟨by first | omega | exact Nat.le_refl _⟩,⟨by repeat (first | (with_reducible first | exact HB.out | apply b0_ | apply b1_ | apply b2_) | exact HB.out)⟩⟩
 case rest =>
  clear HC2;obtain ⟨kq,x3_1,rfl,HA,HJ1,HB⟩:=hcut
  cases kq with
   | zero => exact absurd HA.out (by simp [accounts_Check.j0])
   | succ kj1 =>
    have H:=HA.out;clear HA;simp only [accounts_Check.j0] at H;by_cases c4 : x3_1 = true
    rotate_left
    ·
     replace c4:=Bool.eq_false_iff.mpr c4;subst c4
     have H1 : ((accounts_tree.f kj1 l0).bind fun t126 => (if t126 = true then ((accounts_amounts.f kj1 l0).bind fun t127 => (if t127 = true then ((api_Account_77.f kj1 l0).bind fun t128 => (if t128 = true then (some 17) else ((accounts_own.f kj1 l0).bind fun t129 => ((slices_Min_int_int.f kj1 t129).bind fun t132 => (if t132 < 0 then (some 11) else (some 0)))))) else (some 2))) else (some 1))) = some r:=by rw [if_neg (show ¬ (false = true) by decide)] at H;exact H
     clear H;have H:=H1;clear H1;replace H:=Option.bind_eq_some_iff.mp H;obtain ⟨t126,A50,H⟩:=H
     replace H : (if t126 = true then ((accounts_amounts.f kj1 l0).bind fun t127 => (if t127 = true then ((api_Account_77.f kj1 l0).bind fun t128 => (if t128 = true then (some 17) else ((accounts_own.f kj1 l0).bind fun t129 => ((slices_Min_int_int.f kj1 t129).bind fun t132 => (if t132 < 0 then (some 11) else (some 0)))))) else (some 2))) else (some 1)) = some r:=H;have A5:=Aside0.mk A50;clear A50
     by_cases c6 : t126 = true
     rotate_left
     ·
      replace c6:=Bool.eq_false_iff.mpr c6;subst c6
      have H1 : (some 1) = some r:=by rw [if_neg (show ¬ (false = true) by decide)] at H;exact H
      clear H;have H:=H1;clear H1;obtain rfl:=Option.some.inj H
      go_wp2_with (first | ((with_reducible refine gate_callee (f:=75) rfl ?_);refine goesL_ (some 14) rfl rfl Try.func75 (by kernel_rfl) rfl #[.slice A0 l0.length c0] rfl (by (try simp only [z3_,z4_,z5_]);first | done | rfl | (simp only [z6_,z7_];rfl)) ?_;(with_reducible refine (accounts_tree.calls kj1 _ _ l0 false _ ?side1 ?side2 A5.out).mono ?_);(case side1 => repeat (first | exact (Kd.C_below HR0.out HB.out) | (with_reducible refine Kd.C_alloc ?_ _) | (with_reducible refine Kd.C_drewN ?_ _) | (with_reducible refine Kd.C_drew ?_)));(case side2 => exact HC0.out);rintro e w31 ⟨rfl,hb⟩;refine ⟨_,rfl,?_⟩;have n0_:=Aside0.mk (below_step (by repeat (first | (with_reducible first | exact HB.out | apply b0_ | apply b1_ | apply b2_) | exact HB.out)) hb);clear HB;have HB:=n0_;clear n0_))
      go_ret;exact ⟨by first | rfl | (simp [errW_none,errW_some] <;> rfl) | (simp [*,errW_none,errW_some] <;> rfl),by repeat (first | (with_reducible first | exact HB.out | apply b0_ | apply b1_ | apply b2_) | exact HB.out)⟩
     subst c6
     have H1 : ((accounts_amounts.f kj1 l0).bind fun t127 => (if t127 = true then ((api_Account_77.f kj1 l0).bind fun t128 => (if t128 = true then (some 17) else ((accounts_own.f kj1 l0).bind fun t129 => ((slices_Min_int_int.f kj1 t129).bind fun t132 => (if t132 < 0 then (some 11) else (some 0)))))) else (some 2))) = some r:=by rw [if_pos rfl] at H;exact H
     clear H;have H:=H1;clear H1;replace H:=Option.bind_eq_some_iff.mp H;obtain ⟨t127,A70,H⟩:=H;replace H : (if t127 = true then ((api_Account_77.f kj1 l0).bind fun t128 => (if t128 = true then (some 17) else ((accounts_own.f kj1 l0).bind fun t129 => ((slices_Min_int_int.f kj1 t129).bind fun t132 => (if t132 < 0 then (some 11) else (some 0)))))) else (some 2)) = some r:=H
     have A7:=Aside0.mk A70;clear A70;by_cases c8 : t127 = true
     rotate_left
     ·
      replace c8:=Bool.eq_false_iff.mpr c8;subst c8
      have H1 : (some 2) = some r:=by rw [if_neg (show ¬ (false = true) by decide)] at H;exact H
      clear H;have H:=H1;clear H1;obtain rfl:=Option.some.inj H
      go_wp2_with (first | ((with_reducible refine gate_callee (f:=75) rfl ?_);refine goesL_ (some 14) rfl rfl Try.func75 (by kernel_rfl) rfl #[.slice A0 l0.length c0] rfl (by (try simp only [z3_,z4_,z5_]);first | done | rfl | (simp only [z6_,z7_];rfl)) ?_;(with_reducible refine (accounts_tree.calls kj1 _ _ l0 true _ ?side1 ?side2 A5.out).mono ?_);(case side1 => repeat (first | exact (Kd.C_below HR0.out HB.out) | (with_reducible refine Kd.C_alloc ?_ _) | (with_reducible refine Kd.C_drewN ?_ _) | (with_reducible refine Kd.C_drew ?_)));(case side2 => exact HC0.out);rintro e w29 ⟨rfl,hb⟩;refine ⟨_,rfl,?_⟩;have n0_:=Aside0.mk (below_step (by repeat (first | (with_reducible first | exact HB.out | apply b0_ | apply b1_ | apply b2_) | exact HB.out)) hb);clear HB;have HB:=n0_;clear n0_) | ((with_reducible refine gate_callee (f:=76) rfl ?_);refine goesL_ (some 18) rfl rfl Try.func76 (by kernel_rfl) rfl #[.slice A0 l0.length c0] rfl (by (try simp only [z3_,z4_,z5_]);first | done | rfl | (simp only [z6_,z7_];rfl)) ?_;(with_reducible refine (accounts_amounts.calls kj1 _ _ l0 false _ ?side1 ?side2 A7.out).mono ?_);(case side1 => repeat (first | exact (Kd.C_below HR0.out HB.out) | (with_reducible refine Kd.C_alloc ?_ _) | (with_reducible refine Kd.C_drewN ?_ _) | (with_reducible refine Kd.C_drew ?_)));(case side2 => exact HC0.out);rintro e w30 ⟨rfl,hb⟩;refine ⟨_,rfl,?_⟩;have n0_:=Aside0.mk (below_step (by repeat (first | (with_reducible first | exact HB.out | apply b0_ | apply b1_ | apply b2_) | exact HB.out)) hb);clear HB;have HB:=n0_;clear n0_))
      go_ret;exact ⟨by first | rfl | (simp [errW_none,errW_some] <;> rfl) | (simp [*,errW_none,errW_some] <;> rfl),by repeat (first | (with_reducible first | exact HB.out | apply b0_ | apply b1_ | apply b2_) | exact HB.out)⟩
     subst c8
     have H1 : ((api_Account_77.f kj1 l0).bind fun t128 => (if t128 = true then (some 17) else ((accounts_own.f kj1 l0).bind fun t129 => ((slices_Min_int_int.f kj1 t129).bind fun t132 => (if t132 < 0 then (some 11) else (some 0)))))) = some r:=by rw [if_pos rfl] at H;exact H
     clear H;have H:=H1;clear H1;replace H:=Option.bind_eq_some_iff.mp H;obtain ⟨t128,A90,H⟩:=H;replace H : (if t128 = true then (some 17) else ((accounts_own.f kj1 l0).bind fun t129 => ((slices_Min_int_int.f kj1 t129).bind fun t132 => (if t132 < 0 then (some 11) else (some 0))))) = some r:=H;have A9:=Aside0.mk A90;clear A90;by_cases c10 : t128 = true
     rotate_left
     ·
      replace c10:=Bool.eq_false_iff.mpr c10;subst c10
      have H1 : ((accounts_own.f kj1 l0).bind fun t129 => ((slices_Min_int_int.f kj1 t129).bind fun t132 => (if t132 < 0 then (some 11) else (some 0)))) = some r:=by rw [if_neg (show ¬ (false = true) by decide)] at H;exact H
      clear H;have H:=H1;clear H1;replace H:=Option.bind_eq_some_iff.mp H;obtain ⟨t129,A140,H⟩:=H;replace H : ((slices_Min_int_int.f kj1 t129).bind fun t132 => (if t132 < 0 then (some 11) else (some 0))) = some r:=H;have A14:=Aside0.mk A140;clear A140;replace H:=Option.bind_eq_some_iff.mp H;obtain ⟨t132,A150,H⟩:=H
      replace H : (if t132 < 0 then (some 11) else (some 0)) = some r:=H;have A15:=Aside0.mk A150;clear A150;by_cases c16 : t132 < 0
      rotate_left
      ·
       rw [if_neg c16] at H;have c16b0 : decide (t132 < 0) = false:=decide_eq_false c16;clear c16;obtain rfl:=Option.some.inj H
       go_wp2_with (first | ((with_reducible refine gate_callee (f:=75) rfl ?_);refine goesL_ (some 14) rfl rfl Try.func75 (by kernel_rfl) rfl #[.slice A0 l0.length c0] rfl (by (try simp only [z3_,z4_,z5_]);first | done | rfl | (simp only [z6_,z7_];rfl)) ?_;(with_reducible refine (accounts_tree.calls kj1 _ _ l0 true _ ?side1 ?side2 A5.out).mono ?_);(case side1 => repeat (first | exact (Kd.C_below HR0.out HB.out) | (with_reducible refine Kd.C_alloc ?_ _) | (with_reducible refine Kd.C_drewN ?_ _) | (with_reducible refine Kd.C_drew ?_)));(case side2 => exact HC0.out);rintro e w23 ⟨rfl,hb⟩;refine ⟨_,rfl,?_⟩;have n0_:=Aside0.mk (below_step (by repeat (first | (with_reducible first | exact HB.out | apply b0_ | apply b1_ | apply b2_) | exact HB.out)) hb);clear HB;have HB:=n0_;clear n0_) | ((with_reducible refine gate_callee (f:=76) rfl ?_);refine goesL_ (some 18) rfl rfl Try.func76 (by kernel_rfl) rfl #[.slice A0 l0.length c0] rfl (by (try simp only [z3_,z4_,z5_]);first | done | rfl | (simp only [z6_,z7_];rfl)) ?_;(with_reducible refine (accounts_amounts.calls kj1 _ _ l0 true _ ?side1 ?side2 A7.out).mono ?_);(case side1 => repeat (first | exact (Kd.C_below HR0.out HB.out) | (with_reducible refine Kd.C_alloc ?_ _) | (with_reducible refine Kd.C_drewN ?_ _) | (with_reducible refine Kd.C_drew ?_)));(case side2 => exact HC0.out);rintro e w24 ⟨rfl,hb⟩;refine ⟨_,rfl,?_⟩;have n0_:=Aside0.mk (below_step (by repeat (first | (with_reducible first | exact HB.out | apply b0_ | apply b1_ | apply b2_) | exact HB.out)) hb);clear HB;have HB:=n0_;clear n0_) | ((with_reducible refine gate_callee (f:=77) rfl ?_);refine goesL_ (some 22) rfl rfl Try.func77 (by kernel_rfl) rfl #[.slice A0 l0.length c0,.func (.func 78) #[] #[]] rfl (by (try simp only [z3_,z4_,z5_]);first | done | rfl | (simp only [z6_,z7_];rfl)) ?_;(with_reducible refine (api_Account_77.calls kj1 _ _ l0  false _ ?side1 ?side2 A9.out).mono ?_);(case side1 => repeat (first | exact (Kd.C_below HR0.out HB.out) | (with_reducible refine Kd.C_alloc ?_ _) | (with_reducible refine Kd.C_drewN ?_ _) | (with_reducible refine Kd.C_drew ?_)));(case side2 => exact HC0.out);rintro e w25 ⟨rfl,hb⟩;refine ⟨_,rfl,?_⟩;have n0_:=Aside0.mk (below_step (by repeat (first | (with_reducible first | exact HB.out | apply b0_ | apply b1_ | apply b2_) | exact HB.out)) hb);clear HB;have HB:=n0_;clear n0_) | ((with_reducible refine gate_callee (f:=80) rfl ?_);refine goesL_ (some 25) rfl rfl Try.func80 (by kernel_rfl) rfl #[.slice A0 l0.length c0] rfl (by (try simp only [z3_,z4_,z5_]);first | done | rfl | (simp only [z6_,z7_];rfl)) ?_;(with_reducible refine (accounts_own.calls kj1 _ _ l0 t129 _ ?side1 ?side2 A14.out).mono ?_);(case side1 => repeat (first | exact (Kd.C_below HR0.out HB.out) | (with_reducible refine Kd.C_alloc ?_ _) | (with_reducible refine Kd.C_drewN ?_ _) | (with_reducible refine Kd.C_drew ?_)));(case side2 => exact HC0.out);rintro e w26 ⟨v130,rfl,ho0,hb⟩;refine ⟨_,rfl,?_⟩;have n0_:=Aside0.mk (Kd.R_lower ho0 (below_size (by repeat (first | (with_reducible first | exact HB.out | apply b0_ | apply b1_ | apply b2_) | exact HB.out))));have n1_:=Aside0.mk (below_step (by repeat (first | (with_reducible first | exact HB.out | apply b0_ | apply b1_ | apply b2_) | exact HB.out)) hb);clear HB;have HO131:=n0_;have HB:=n1_;clear n0_ n1_;(try clear ho0);obtain ⟨Ao27,co27,eo27⟩:=Kd.R_slice HO131.out;subst eo27) | ((with_reducible refine gate_callee (f:=79) rfl ?_);refine goesL_ (some 26) rfl rfl Try.func79 (by kernel_rfl) rfl #[.slice Ao27 t129.length co27] rfl (by (try simp only [z3_,z4_,z5_]);first | done | rfl | (simp only [z6_,z7_];rfl)) ?_;(with_reducible refine (slices_Min_int_int.calls kj1 _ _ t129 t132 _ ?side1 ?side2 A15.out).mono ?_);(case side1 => repeat (first | exact (Kd.R_reads' HO131.out).2.2 | (with_reducible refine Kd.C_alloc ?_ _) | (with_reducible refine Kd.C_drewN ?_ _) | (with_reducible refine Kd.C_drew ?_)));(case side2 => exact (Kd.R_reads' HO131.out).2.1);rintro e w28 ⟨rfl,hb⟩;refine ⟨_,rfl,?_⟩;have n0_:=Aside0.mk (Kd.R_below (by (with_reducible repeat (first | apply Kd.R_alloc | apply Kd.R_drewN | apply Kd.R_drew));exact HO131.out) hb);have n1_:=Aside0.mk (below_step (by repeat (first | (with_reducible first | exact HB.out | apply b0_ | apply b1_ | apply b2_) | exact HB.out)) hb);clear HO131;clear HB;have HO131:=n0_;have HB:=n1_;clear n0_ n1_))
       go_ret;exact ⟨by first | rfl | (simp [errW_none,errW_some] <;> rfl) | (simp [*,errW_none,errW_some] <;> rfl),by repeat (first | (with_reducible first | exact HB.out | apply b0_ | apply b1_ | apply b2_) | exact HB.out)⟩
      rw [if_pos c16] at H;have c16b0 : decide (t132 < 0) = true:=decide_eq_true c16;clear c16;obtain rfl:=Option.some.inj H
      go_wp2_with (first | ((with_reducible refine gate_callee (f:=75) rfl ?_);refine goesL_ (some 14) rfl rfl Try.func75 (by kernel_rfl) rfl #[.slice A0 l0.length c0] rfl (by (try simp only [z3_,z4_,z5_]);first | done | rfl | (simp only [z6_,z7_];rfl)) ?_;(with_reducible refine (accounts_tree.calls kj1 _ _ l0 true _ ?side1 ?side2 A5.out).mono ?_);(case side1 => repeat (first | exact (Kd.C_below HR0.out HB.out) | (with_reducible refine Kd.C_alloc ?_ _) | (with_reducible refine Kd.C_drewN ?_ _) | (with_reducible refine Kd.C_drew ?_)));(case side2 => exact HC0.out);rintro e w17 ⟨rfl,hb⟩;refine ⟨_,rfl,?_⟩;have n0_:=Aside0.mk (below_step (by repeat (first | (with_reducible first | exact HB.out | apply b0_ | apply b1_ | apply b2_) | exact HB.out)) hb);clear HB;have HB:=n0_;clear n0_) | ((with_reducible refine gate_callee (f:=76) rfl ?_);refine goesL_ (some 18) rfl rfl Try.func76 (by kernel_rfl) rfl #[.slice A0 l0.length c0] rfl (by (try simp only [z3_,z4_,z5_]);first | done | rfl | (simp only [z6_,z7_];rfl)) ?_;(with_reducible refine (accounts_amounts.calls kj1 _ _ l0 true _ ?side1 ?side2 A7.out).mono ?_);(case side1 => repeat (first | exact (Kd.C_below HR0.out HB.out) | (with_reducible refine Kd.C_alloc ?_ _) | (with_reducible refine Kd.C_drewN ?_ _) | (with_reducible refine Kd.C_drew ?_)));(case side2 => exact HC0.out);rintro e w18 ⟨rfl,hb⟩;refine ⟨_,rfl,?_⟩;have n0_:=Aside0.mk (below_step (by repeat (first | (with_reducible first | exact HB.out | apply b0_ | apply b1_ | apply b2_) | exact HB.out)) hb);clear HB;have HB:=n0_;clear n0_) | ((with_reducible refine gate_callee (f:=77) rfl ?_);refine goesL_ (some 22) rfl rfl Try.func77 (by kernel_rfl) rfl #[.slice A0 l0.length c0,.func (.func 78) #[] #[]] rfl (by (try simp only [z3_,z4_,z5_]);first | done | rfl | (simp only [z6_,z7_];rfl)) ?_;(with_reducible refine (api_Account_77.calls kj1 _ _ l0  false _ ?side1 ?side2 A9.out).mono ?_);(case side1 => repeat (first | exact (Kd.C_below HR0.out HB.out) | (with_reducible refine Kd.C_alloc ?_ _) | (with_reducible refine Kd.C_drewN ?_ _) | (with_reducible refine Kd.C_drew ?_)));(case side2 => exact HC0.out);rintro e w19 ⟨rfl,hb⟩;refine ⟨_,rfl,?_⟩;have n0_:=Aside0.mk (below_step (by repeat (first | (with_reducible first | exact HB.out | apply b0_ | apply b1_ | apply b2_) | exact HB.out)) hb);clear HB;have HB:=n0_;clear n0_) | ((with_reducible refine gate_callee (f:=80) rfl ?_);refine goesL_ (some 25) rfl rfl Try.func80 (by kernel_rfl) rfl #[.slice A0 l0.length c0] rfl (by (try simp only [z3_,z4_,z5_]);first | done | rfl | (simp only [z6_,z7_];rfl)) ?_;(with_reducible refine (accounts_own.calls kj1 _ _ l0 t129 _ ?side1 ?side2 A14.out).mono ?_);(case side1 => repeat (first | exact (Kd.C_below HR0.out HB.out) | (with_reducible refine Kd.C_alloc ?_ _) | (with_reducible refine Kd.C_drewN ?_ _) | (with_reducible refine Kd.C_drew ?_)));(case side2 => exact HC0.out);rintro e w20 ⟨v130,rfl,ho0,hb⟩;refine ⟨_,rfl,?_⟩;have n0_:=Aside0.mk (Kd.R_lower ho0 (below_size (by repeat (first | (with_reducible first | exact HB.out | apply b0_ | apply b1_ | apply b2_) | exact HB.out))));have n1_:=Aside0.mk (below_step (by repeat (first | (with_reducible first | exact HB.out | apply b0_ | apply b1_ | apply b2_) | exact HB.out)) hb);clear HB;have HO131:=n0_;have HB:=n1_;clear n0_ n1_;(try clear ho0);obtain ⟨Ao21,co21,eo21⟩:=Kd.R_slice HO131.out;subst eo21) | ((with_reducible refine gate_callee (f:=79) rfl ?_);refine goesL_ (some 26) rfl rfl Try.func79 (by kernel_rfl) rfl #[.slice Ao21 t129.length co21] rfl (by (try simp only [z3_,z4_,z5_]);first | done | rfl | (simp only [z6_,z7_];rfl)) ?_;(with_reducible refine (slices_Min_int_int.calls kj1 _ _ t129 t132 _ ?side1 ?side2 A15.out).mono ?_);(case side1 => repeat (first | exact (Kd.R_reads' HO131.out).2.2 | (with_reducible refine Kd.C_alloc ?_ _) | (with_reducible refine Kd.C_drewN ?_ _) | (with_reducible refine Kd.C_drew ?_)));(case side2 => exact (Kd.R_reads' HO131.out).2.1);rintro e w22 ⟨rfl,hb⟩;refine ⟨_,rfl,?_⟩;have n0_:=Aside0.mk (Kd.R_below (by (with_reducible repeat (first | apply Kd.R_alloc | apply Kd.R_drewN | apply Kd.R_drew));exact HO131.out) hb);have n1_:=Aside0.mk (below_step (by repeat (first | (with_reducible first | exact HB.out | apply b0_ | apply b1_ | apply b2_) | exact HB.out)) hb);clear HO131;clear HB;have HO131:=n0_;have HB:=n1_;clear n0_ n1_))
      go_ret;exact ⟨by first | rfl | (simp [errW_none,errW_some] <;> rfl) | (simp [*,errW_none,errW_some] <;> rfl),by repeat (first | (with_reducible first | exact HB.out | apply b0_ | apply b1_ | apply b2_) | exact HB.out)⟩
     subst c10
     have H1 : (some 17) = some r:=by rw [if_pos rfl] at H;exact H
     clear H;have H:=H1;clear H1;obtain rfl:=Option.some.inj H
     go_wp2_with (first | ((with_reducible refine gate_callee (f:=75) rfl ?_);refine goesL_ (some 14) rfl rfl Try.func75 (by kernel_rfl) rfl #[.slice A0 l0.length c0] rfl (by (try simp only [z3_,z4_,z5_]);first | done | rfl | (simp only [z6_,z7_];rfl)) ?_;(with_reducible refine (accounts_tree.calls kj1 _ _ l0 true _ ?side1 ?side2 A5.out).mono ?_);(case side1 => repeat (first | exact (Kd.C_below HR0.out HB.out) | (with_reducible refine Kd.C_alloc ?_ _) | (with_reducible refine Kd.C_drewN ?_ _) | (with_reducible refine Kd.C_drew ?_)));(case side2 => exact HC0.out);rintro e w11 ⟨rfl,hb⟩;refine ⟨_,rfl,?_⟩;have n0_:=Aside0.mk (below_step (by repeat (first | (with_reducible first | exact HB.out | apply b0_ | apply b1_ | apply b2_) | exact HB.out)) hb);clear HB;have HB:=n0_;clear n0_) | ((with_reducible refine gate_callee (f:=76) rfl ?_);refine goesL_ (some 18) rfl rfl Try.func76 (by kernel_rfl) rfl #[.slice A0 l0.length c0] rfl (by (try simp only [z3_,z4_,z5_]);first | done | rfl | (simp only [z6_,z7_];rfl)) ?_;(with_reducible refine (accounts_amounts.calls kj1 _ _ l0 true _ ?side1 ?side2 A7.out).mono ?_);(case side1 => repeat (first | exact (Kd.C_below HR0.out HB.out) | (with_reducible refine Kd.C_alloc ?_ _) | (with_reducible refine Kd.C_drewN ?_ _) | (with_reducible refine Kd.C_drew ?_)));(case side2 => exact HC0.out);rintro e w12 ⟨rfl,hb⟩;refine ⟨_,rfl,?_⟩;have n0_:=Aside0.mk (below_step (by repeat (first | (with_reducible first | exact HB.out | apply b0_ | apply b1_ | apply b2_) | exact HB.out)) hb);clear HB;have HB:=n0_;clear n0_) | ((with_reducible refine gate_callee (f:=77) rfl ?_);refine goesL_ (some 22) rfl rfl Try.func77 (by kernel_rfl) rfl #[.slice A0 l0.length c0,.func (.func 78) #[] #[]] rfl (by (try simp only [z3_,z4_,z5_]);first | done | rfl | (simp only [z6_,z7_];rfl)) ?_;(with_reducible refine (api_Account_77.calls kj1 _ _ l0  true _ ?side1 ?side2 A9.out).mono ?_);(case side1 => repeat (first | exact (Kd.C_below HR0.out HB.out) | (with_reducible refine Kd.C_alloc ?_ _) | (with_reducible refine Kd.C_drewN ?_ _) | (with_reducible refine Kd.C_drew ?_)));(case side2 => exact HC0.out);rintro e w13 ⟨rfl,hb⟩;refine ⟨_,rfl,?_⟩;have n0_:=Aside0.mk (below_step (by repeat (first | (with_reducible first | exact HB.out | apply b0_ | apply b1_ | apply b2_) | exact HB.out)) hb);clear HB;have HB:=n0_;clear n0_))
     go_ret;exact ⟨by first | rfl | (simp [errW_none,errW_some] <;> rfl) | (simp [*,errW_none,errW_some] <;> rfl),by repeat (first | (with_reducible first | exact HB.out | apply b0_ | apply b1_ | apply b2_) | exact HB.out)⟩
    subst c4
    have H1 : (some 9) = some r:=by rw [if_pos rfl] at H;exact H
    clear H;have H:=H1;clear H1;obtain rfl:=Option.some.inj H;go_wp2;go_ret;exact ⟨by first | rfl | (simp [errW_none,errW_some] <;> rfl) | (simp [*,errW_none,errW_some] <;> rfl),by repeat (first | (with_reducible first | exact HB.out | apply b0_ | apply b1_ | apply b2_) | exact HB.out)⟩
mutual
def reclaimplan_Check.l0 : Nat→List (S30)→Int→List (S34)→Int→Int→Option (Int)
 | 0,_,_,_,_,_ => none
 | k + 1,x1,x6,x14,x15,x16 => if x16 < x15 then (if 0≤x16 then (if x16 < (x14.length : Int) then (if ((rd_T34 x14 x16).f0) < 0 then (reclaimplan_Check.j1 k x1 x6 x14 x15 x16 true ((rd_T34 x14 x16).f0) ((rd_T34 x14 x16).f1) ((rd_T34 x14 x16).f2) ((rd_T34 x14 x16).f3) ((rd_T34 x14 x16).f4) ((rd_T34 x14 x16).f5) ((rd_T34 x14 x16).f6)) else (if ((rd_T34 x14 x16).f0)≥256 then (reclaimplan_Check.j1 k x1 x6 x14 x15 x16 true ((rd_T34 x14 x16).f0) ((rd_T34 x14 x16).f1) ((rd_T34 x14 x16).f2) ((rd_T34 x14 x16).f3) ((rd_T34 x14 x16).f4) ((rd_T34 x14 x16).f5) ((rd_T34 x14 x16).f6)) else (if ((rd_T34 x14 x16).f1) < (-1) then (reclaimplan_Check.j1 k x1 x6 x14 x15 x16 true ((rd_T34 x14 x16).f0) ((rd_T34 x14 x16).f1) ((rd_T34 x14 x16).f2) ((rd_T34 x14 x16).f3) ((rd_T34 x14 x16).f4) ((rd_T34 x14 x16).f5) ((rd_T34 x14 x16).f6)) else (reclaimplan_Check.j1 k x1 x6 x14 x15 x16 (decide (((rd_T34 x14 x16).f1)≥(x1.length : Int))) ((rd_T34 x14 x16).f0) ((rd_T34 x14 x16).f1) ((rd_T34 x14 x16).f2) ((rd_T34 x14 x16).f3) ((rd_T34 x14 x16).f4) ((rd_T34 x14 x16).f5) ((rd_T34 x14 x16).f6))))) else (none)) else (none)) else (some 0)
def reclaimplan_Check.j1 : Nat→List (S30)→Int→List (S34)→Int→Int→Bool→Int→Int→Int→Int→Int→Bool→Bool→Option (Int)
 | 0,_,_,_,_,_,_,_,_,_,_,_,_,_ => none
 | k + 1,x1,x6,x14,x15,x16,x20,x136000,x136001,x136002,x136003,x136004,x136005,x136006 => if x20 = true then (some 2) else (if x136000≤x6 then (some 10) else (if x136003 < 0 then (reclaimplan_Check.j2 k x1 x14 x15 x16 true x136000 x136001 x136002 x136003 x136004 x136005 x136006) else (if x136003 > 10 then (reclaimplan_Check.j2 k x1 x14 x15 x16 true x136000 x136001 x136002 x136003 x136004 x136005 x136006) else (if x136002 < (-1) then (reclaimplan_Check.j2 k x1 x14 x15 x16 true x136000 x136001 x136002 x136003 x136004 x136005 x136006) else (reclaimplan_Check.j2 k x1 x14 x15 x16 (decide (x136004 < (-1))) x136000 x136001 x136002 x136003 x136004 x136005 x136006)))))
def reclaimplan_Check.j2 : Nat→List (S30)→List (S34)→Int→Int→Bool→Int→Int→Int→Int→Int→Bool→Bool→Option (Int)
 | 0,_,_,_,_,_,_,_,_,_,_,_,_ => none
 | k + 1,x1,x14,x15,x16,x46,x136000,x136001,x136002,x136003,x136004,x136005,x136006 => if x46 = true then (some 1) else (if x136003 = 0 then (if x136006 = true then (reclaimplan_Check.j3 k x1 x14 x15 x16 false x136000 x136001 x136002 x136003 x136004 x136005 x136006) else (reclaimplan_Check.j3 k x1 x14 x15 x16 (x136002 == (-1)) x136000 x136001 x136002 x136003 x136004 x136005 x136006)) else (reclaimplan_Check.j3 k x1 x14 x15 x16 false x136000 x136001 x136002 x136003 x136004 x136005 x136006))
def reclaimplan_Check.j3 : Nat→List (S30)→List (S34)→Int→Int→Bool→Int→Int→Int→Int→Int→Bool→Bool→Option (Int)
 | 0,_,_,_,_,_,_,_,_,_,_,_,_ => none
 | k + 1,x1,x14,x15,x16,x65,x136000,x136001,x136002,x136003,x136004,x136005,x136006 => if x65 = true then (some 3) else (reclaimplan_Check.l0 k x1 x136000 x14 x15 (wrap64 (x16 + 1)))
end
def reclaimplan_Check.f (k : Nat) (l0 : List (S34)) (l1 : List (S30)) : Option (Int):=(accounts_Check.f k l1).bind fun t133 => (if t133 = 0 then (reclaimplan_Check.l0 k l1 (-1) l0 (l0.length : Int) 0) else (some t133))
theorem reclaimplan_Check.mono_l : ∀ k,(∀ y0 y1 y2 y3 y4,LeO (reclaimplan_Check.l0 k y0 y1 y2 y3 y4) (reclaimplan_Check.l0 (k + 1) y0 y1 y2 y3 y4))∧(∀ y0 y1 y2 y3 y4 y5 y6 y7 y8 y9 y10 y11 y12,LeO (reclaimplan_Check.j1 k y0 y1 y2 y3 y4 y5 y6 y7 y8 y9 y10 y11 y12) (reclaimplan_Check.j1 (k + 1) y0 y1 y2 y3 y4 y5 y6 y7 y8 y9 y10 y11 y12))∧(∀ y0 y1 y2 y3 y4 y5 y6 y7 y8 y9 y10 y11,LeO (reclaimplan_Check.j2 k y0 y1 y2 y3 y4 y5 y6 y7 y8 y9 y10 y11) (reclaimplan_Check.j2 (k + 1) y0 y1 y2 y3 y4 y5 y6 y7 y8 y9 y10 y11))∧(∀ y0 y1 y2 y3 y4 y5 y6 y7 y8 y9 y10 y11,LeO (reclaimplan_Check.j3 k y0 y1 y2 y3 y4 y5 y6 y7 y8 y9 y10 y11) (reclaimplan_Check.j3 (k + 1) y0 y1 y2 y3 y4 y5 y6 y7 y8 y9 y10 y11))
 | 0 => ⟨fun _ _ _ _ _ r h => by simp [reclaimplan_Check.l0] at h,fun _ _ _ _ _ _ _ _ _ _ _ _ _ r h => by simp [reclaimplan_Check.j1] at h,fun _ _ _ _ _ _ _ _ _ _ _ _ r h => by simp [reclaimplan_Check.j2] at h,fun _ _ _ _ _ _ _ _ _ _ _ _ r h => by simp [reclaimplan_Check.j3] at h⟩
 | k + 1 => by
  obtain ⟨ih0,ih1,ih2,ih3⟩:=reclaimplan_Check.mono_l k;refine ⟨?_,?_,?_,?_⟩
  ·
   intro y0 y1 y2 y3 y4
   unfold reclaimplan_Check.l0
   repeat' first
    | (with_reducible exact ih0 _ _ _ _ _)
    | (with_reducible exact ih1 _ _ _ _ _ _ _ _ _ _ _ _ _)
    | (with_reducible exact ih2 _ _ _ _ _ _ _ _ _ _ _ _)
    | (with_reducible exact ih3 _ _ _ _ _ _ _ _ _ _ _ _)
    | (with_reducible exact accounts_Check.mono _ _)
    | (with_reducible exact LeO.refl _)
    | (with_reducible exact LeO.none _)
    | (with_reducible refine LeO.ite ?_ ?_)
    | (with_reducible refine LeO.bind ?_ (fun _ => ?_))
    | exact ih0 _ _ _ _ _
    | exact ih1 _ _ _ _ _ _ _ _ _ _ _ _ _
    | exact ih2 _ _ _ _ _ _ _ _ _ _ _ _
    | exact ih3 _ _ _ _ _ _ _ _ _ _ _ _
    | exact accounts_Check.mono _ _
    | exact LeO.none _
    | refine LeO.ite ?_ ?_
    | refine LeO.bind ?_ (fun _ => ?_)
  ·
   intro y0 y1 y2 y3 y4 y5 y6 y7 y8 y9 y10 y11 y12
   unfold reclaimplan_Check.j1
   repeat' first
    | (with_reducible exact ih0 _ _ _ _ _)
    | (with_reducible exact ih1 _ _ _ _ _ _ _ _ _ _ _ _ _)
    | (with_reducible exact ih2 _ _ _ _ _ _ _ _ _ _ _ _)
    | (with_reducible exact ih3 _ _ _ _ _ _ _ _ _ _ _ _)
    | (with_reducible exact accounts_Check.mono _ _)
    | (with_reducible exact LeO.refl _)
    | (with_reducible exact LeO.none _)
    | (with_reducible refine LeO.ite ?_ ?_)
    | (with_reducible refine LeO.bind ?_ (fun _ => ?_))
    | exact ih0 _ _ _ _ _
    | exact ih1 _ _ _ _ _ _ _ _ _ _ _ _ _
    | exact ih2 _ _ _ _ _ _ _ _ _ _ _ _
    | exact ih3 _ _ _ _ _ _ _ _ _ _ _ _
    | exact accounts_Check.mono _ _
    | exact LeO.none _
    | refine LeO.ite ?_ ?_
    | refine LeO.bind ?_ (fun _ => ?_)
  ·
   intro y0 y1 y2 y3 y4 y5 y6 y7 y8 y9 y10 y11
   unfold reclaimplan_Check.j2
   repeat' first
    | (with_reducible exact ih0 _ _ _ _ _)
    | (with_reducible exact ih1 _ _ _ _ _ _ _ _ _ _ _ _ _)
    | (with_reducible exact ih2 _ _ _ _ _ _ _ _ _ _ _ _)
    | (with_reducible exact ih3 _ _ _ _ _ _ _ _ _ _ _ _)
    | (with_reducible exact accounts_Check.mono _ _)
    | (with_reducible exact LeO.refl _)
    | (with_reducible exact LeO.none _)
    | (with_reducible refine LeO.ite ?_ ?_)
    | (with_reducible refine LeO.bind ?_ (fun _ => ?_))
    | exact ih0 _ _ _ _ _
    | exact ih1 _ _ _ _ _ _ _ _ _ _ _ _ _
    | exact ih2 _ _ _ _ _ _ _ _ _ _ _ _
    | exact ih3 _ _ _ _ _ _ _ _ _ _ _ _
    | exact accounts_Check.mono _ _
    | exact LeO.none _
    | refine LeO.ite ?_ ?_
    | refine LeO.bind ?_ (fun _ => ?_)
  ·
   intro y0 y1 y2 y3 y4 y5 y6 y7 y8 y9 y10 y11
   unfold reclaimplan_Check.j3
   repeat' first
    | (with_reducible exact ih0 _ _ _ _ _)
    | (with_reducible exact ih1 _ _ _ _ _ _ _ _ _ _ _ _ _)
    | (with_reducible exact ih2 _ _ _ _ _ _ _ _ _ _ _ _)
    | (with_reducible exact ih3 _ _ _ _ _ _ _ _ _ _ _ _)
    | (with_reducible exact accounts_Check.mono _ _)
    | (with_reducible exact LeO.refl _)
    | (with_reducible exact LeO.none _)
    | (with_reducible refine LeO.ite ?_ ?_)
    | (with_reducible refine LeO.bind ?_ (fun _ => ?_))
    | exact ih0 _ _ _ _ _
    | exact ih1 _ _ _ _ _ _ _ _ _ _ _ _ _
    | exact ih2 _ _ _ _ _ _ _ _ _ _ _ _
    | exact ih3 _ _ _ _ _ _ _ _ _ _ _ _
    | exact accounts_Check.mono _ _
    | exact LeO.none _
    | refine LeO.ite ?_ ?_
    | refine LeO.bind ?_ (fun _ => ?_)
theorem reclaimplan_Check.mono : ∀ a0 a1 k,LeO (reclaimplan_Check.f k a0 a1) (reclaimplan_Check.f (k + 1) a0 a1):=by
 intro a0 a1 k;obtain ⟨ih0,ih1,ih2,ih3⟩:=reclaimplan_Check.mono_l k
 unfold reclaimplan_Check.f
 repeat' first
  | (with_reducible exact ih0 _ _ _ _ _)
  | (with_reducible exact ih1 _ _ _ _ _ _ _ _ _ _ _ _ _)
  | (with_reducible exact ih2 _ _ _ _ _ _ _ _ _ _ _ _)
  | (with_reducible exact ih3 _ _ _ _ _ _ _ _ _ _ _ _)
  | (with_reducible exact accounts_Check.mono _ _)
  | (with_reducible exact LeO.refl _)
  | (with_reducible exact LeO.none _)
  | (with_reducible refine LeO.ite ?_ ?_)
  | (with_reducible refine LeO.bind ?_ (fun _ => ?_))
  | exact ih0 _ _ _ _ _
  | exact ih1 _ _ _ _ _ _ _ _ _ _ _ _ _
  | exact ih2 _ _ _ _ _ _ _ _ _ _ _ _
  | exact ih3 _ _ _ _ _ _ _ _ _ _ _ _
  | exact accounts_Check.mono _ _
  | exact LeO.none _
  | refine LeO.ite ?_ ?_
  | refine LeO.bind ?_ (fun _ => ?_)
set_option maxHeartbeats 8000000 in
set_option maxRecDepth 100000 in
theorem reclaimplan_Check.calls (k : Nat) (A0 : Option Addr) (c0 : Nat) (l0 : List (S34)) (A1 : Option Addr) (c1 : Nat) (l1 : List (S30)) (r : Int) (w : World) (hr0 : Kd.C k34 w A0 l0.length l0) (hc0 : l0.length≤c0) (hr1 : Kd.C k30 w A1 l1.length l1) (hc1 : l1.length≤c1) (h : reclaimplan_Check.f k l0 l1 = some r) :
 Calls Try.prog 31 #[.slice A0 l0.length c0,.slice A1 l1.length c1] w fun e w' => e = .returned (.int .i64 r)∧Below w.heap.size w w':=by
 have hu34:=Try.underlying34;have HR0:=Aside0.mk hr0;have HC0:=Aside0.mk hc0;clear hr0 hc0;have HR1:=Aside0.mk hr1;have HC1:=Aside0.mk hc1;clear hr1 hc1;have HB:=Aside0.mk (Below.refl w.heap.size w);have H : ((accounts_Check.f k l1).bind fun t133 => (if t133 = 0 then (reclaimplan_Check.l0 k l1 (-1) l0 (l0.length : Int) 0) else (some t133))) = some r:=h;clear h
 replace H:=Option.bind_eq_some_iff.mp H;obtain ⟨t133,A30,H⟩:=H;replace H : (if t133 = 0 then (reclaimplan_Check.l0 k l1 (-1) l0 (l0.length : Int) 0) else (some t133)) = some r:=H;have A3:=Aside0.mk A30;clear A30;by_cases c4 : t133 = 0
 rotate_left
 ·
  rw [if_neg c4] at H;have c4b0 : (t133 == 0) = false:=beq_eq_false_iff_ne.mpr c4;have c4b1 : (t133 != 0) = true:=bne_iff_ne.mpr c4;obtain rfl:=Option.some.inj H
  go_enter Try.func31,Try.ntmps31
  go_wp2_with (first | ((with_reducible refine gate_callee (f:=48) rfl ?_);refine goesL_ (some 10) rfl rfl Try.func48 (by kernel_rfl) rfl #[.slice A1 l1.length c1] rfl (by (try simp only [z3_,z4_,z5_]);first | done | rfl | (simp only [z6_,z7_];rfl)) ?_;(with_reducible refine (accounts_Check.calls k _ _ l1 t133 _ ?side1 ?side2 A3.out).mono ?_);(case side1 => repeat (first | exact HR1.out | (with_reducible refine Kd.C_alloc ?_ _) | (with_reducible refine Kd.C_drewN ?_ _) | (with_reducible refine Kd.C_drew ?_)));(case side2 => exact HC1.out);rintro e w40 ⟨rfl,hb⟩;refine ⟨_,rfl,?_⟩;have n0_:=Aside0.mk (below_step (by repeat (first | (with_reducible first | exact HB.out | apply b0_ | apply b1_ | apply b2_) | exact HB.out)) hb);clear HB;have HB:=n0_;clear n0_))
  go_ret;exact ⟨by first | rfl | (simp [errW_none,errW_some] <;> rfl) | (simp [*,errW_none,errW_some] <;> rfl),by repeat (first | (with_reducible first | exact HB.out | apply b0_ | apply b1_ | apply b2_) | exact HB.out)⟩
 rw [if_pos c4] at H;have c4b0 : (t133 == 0) = true:=beq_iff_eq.mpr c4;have c4b1 : (t133 != 0) = false:=bne_eq_false_iff_eq.mpr c4;clear c4;have H':=Aside0.mk H;clear H
 go_enter Try.func31,Try.ntmps31
 go_wp2_with (first | ((with_reducible refine gate_callee (f:=48) rfl ?_);refine goesL_ (some 10) rfl rfl Try.func48 (by kernel_rfl) rfl #[.slice A1 l1.length c1] rfl (by (try simp only [z3_,z4_,z5_]);first | done | rfl | (simp only [z6_,z7_];rfl)) ?_;(with_reducible refine (accounts_Check.calls k _ _ l1 t133 _ ?side1 ?side2 A3.out).mono ?_);(case side1 => repeat (first | exact HR1.out | (with_reducible refine Kd.C_alloc ?_ _) | (with_reducible refine Kd.C_drewN ?_ _) | (with_reducible refine Kd.C_drew ?_)));(case side2 => exact HC1.out);rintro e w5 ⟨rfl,hb⟩;refine ⟨_,rfl,?_⟩;have n0_:=Aside0.mk (below_step (by repeat (first | (with_reducible first | exact HB.out | apply b0_ | apply b1_ | apply b2_) | exact HB.out)) hb);clear HB;have HB:=n0_;clear n0_))
 go_loopg [6,16] k (fun kq v6 v16 w' => ∃ (x6_1 : Int) (x16_1 : Int),v6 = .int .i64 x6_1∧v16 = .int .i64 x16_1∧Aside0 (reclaimplan_Check.l0 kq l1 x6_1 l0 (l0.length : Int) x16_1 = some r)∧Aside0 (kq≤k)∧Aside0 (Below w.heap.size w w'))
 case atStart => exact ⟨((-1)),(0),(by first | rfl | (simp;done) | (simp [*];done)),(by first | rfl | (simp;done) | (simp [*];done)),H',⟨Nat.le_refl _⟩,⟨by repeat (first | (with_reducible first | exact HB.out | apply b0_ | apply b1_ | apply b2_) | exact HB.out)⟩⟩
 case round =>
  clear H';obtain ⟨x6_1,x16_1,rfl,rfl,HA,HK1,HB⟩:=hrel
  cases gk with
   | zero => exact absurd HA.out (by simp [reclaimplan_Check.l0])
   | succ k1 =>
    have H:=HA.out;clear HA;simp only [reclaimplan_Check.l0] at H;by_cases c6 : x16_1 < (l0.length : Int)
    rotate_left
    · rw [if_neg c6] at H;have c6b0 : decide (x16_1 < (l0.length : Int)) = false:=decide_eq_false c6;clear c6;obtain rfl:=Option.some.inj H;go_wp2;go_ret;exact ⟨by first | rfl | (simp [errW_none,errW_some] <;> rfl) | (simp [*,errW_none,errW_some] <;> rfl),by repeat (first | (with_reducible first | exact HB.out | apply b0_ | apply b1_ | apply b2_) | exact HB.out)⟩
    rw [if_pos c6] at H;have c6b0 : decide (x16_1 < (l0.length : Int)) = true:=decide_eq_true c6;clear c6;by_cases c7 : 0≤x16_1
    rotate_left
    · rw [if_neg c7] at H;exact absurd H (by simp)
    rw [if_pos c7] at H;have c7b0 : decide (0≤x16_1) = true:=decide_eq_true c7;clear c7;by_cases c8 : x16_1 < (l0.length : Int)
    rotate_left
    · rw [if_neg c8] at H;exact absurd H (by simp)
    rw [if_pos c8] at H;have c8b0 : decide (x16_1 < (l0.length : Int)) = true:=decide_eq_true c8;clear c8;have HC9:=Aside0.mk H;clear H;have p134 : 0≤(x16_1 : Int):=of_decide_eq_true (by first | (with_reducible assumption) | assumption);have q134 : x16_1 < (l0.length : Int):=of_decide_eq_true (by first | (with_reducible assumption) | assumption)
    obtain ⟨ad134,e134,hx134_0,hx134_1,hx134_2,hx134_3,hx134_4,hx134_5,hx134_6⟩:=at_T34 HR0.out x16_1 p134 q134;cases e134;replace hx134_0:=(HB.out.cell (World.block_lt_of_cell? w _ hx134_0)).trans hx134_0;replace hx134_1:=(HB.out.cell (World.block_lt_of_cell? w _ hx134_1)).trans hx134_1;replace hx134_2:=(HB.out.cell (World.block_lt_of_cell? w _ hx134_2)).trans hx134_2
    replace hx134_3:=(HB.out.cell (World.block_lt_of_cell? w _ hx134_3)).trans hx134_3;replace hx134_4:=(HB.out.cell (World.block_lt_of_cell? w _ hx134_4)).trans hx134_4;replace hx134_5:=(HB.out.cell (World.block_lt_of_cell? w _ hx134_5)).trans hx134_5;replace hx134_6:=(HB.out.cell (World.block_lt_of_cell? w _ hx134_6)).trans hx134_6;replace p134:=eq_true p134
    replace q134:=eq_true q134
    go_upto_region 8 with (first | ((with_reducible refine gate_dst (N:=8) rfl ?_);(try (refine gate_guard (by rfl) ?_;dsimp only));refine box_event ?hg (N:=8) ?hd (cs:=#[.int .i64 0,.int .i64 0,.int .i64 0,.int .i64 0,.int .i64 0,.bool false,.bool false]) (t:=34) ?hr ?_;(case hd => rfl);(case hg => rfl);(case hr => first | (go_simp;done) | (go_simp;rfl));intro gb135 hg w10 hbox hb;have n0_:=Aside0.mk (below_step (by repeat (first | (with_reducible first | exact HB.out | apply b0_ | apply b1_ | apply b2_) | exact HB.out)) hb);have n1_:=Aside0.mk (hbox);have n2_:=Aside0.mk ((by rw [hg];exact (below_size (by repeat (first | (with_reducible first | exact HB.out | apply b0_ | apply b1_ | apply b2_) | exact HB.out))) : w.heap.size≤gb135));have n3_:=Aside0.mk ((by rw [hg];exact (below_size (by repeat (first | (with_reducible first | exact HB.out | apply b0_ | apply b1_ | apply b2_) | exact HB.out))) : w.heap.size≤gb135));clear HB;have HB:=n0_;have BK135:=n1_;have GW135:=n2_;have GE135:=n3_;clear n0_ n1_ n2_ n3_;clear hb hbox hg;obtain ⟨hcz11_0,hcz11_1,hcz11_2,hcz11_3,hcz11_4,hcz11_5,hcz11_6,hfz11_0,hfz11_1,hfz11_2,hfz11_3,hfz11_4,hfz11_5,hfz11_6⟩:=q7_ BK135.out))
    (try simp only [Act.put,List.setIfInBounds_toArray,List.set_cons_zero,List.set_cons_succ])
    go_cut [20] (fun v20 wc => ∃ (kq : Nat) (x20_8 : Bool),v20 = .bool x20_8∧Aside0 (reclaimplan_Check.j1 kq l1 x6_1 l0 (l0.length : Int) x16_1 x20_8 ((rd_T34 l0 x16_1).f0) ((rd_T34 l0 x16_1).f1) ((rd_T34 l0 x16_1).f2) ((rd_T34 l0 x16_1).f3) ((rd_T34 l0 x16_1).f4) ((rd_T34 l0 x16_1).f5) ((rd_T34 l0 x16_1).f6) = some r)∧Aside0 (kq≤k1)∧Aside0 (wc.heap[gb135]? = some (.cells #[.int .i64 ((rd_T34 l0 x16_1).f0),.int .i64 ((rd_T34 l0 x16_1).f1),.int .i64 ((rd_T34 l0 x16_1).f2),.int .i64 ((rd_T34 l0 x16_1).f3),.int .i64 ((rd_T34 l0 x16_1).f4),.bool ((rd_T34 l0 x16_1).f5),.bool ((rd_T34 l0 x16_1).f6)] 34 (0,0)))∧Aside0 (Below w.heap.size w wc))
    case first =>
     have H:=HC9.out;clear HC9;by_cases c12 : ((rd_T34 l0 x16_1).f0) < 0
     rotate_left
     ·
      rw [if_neg c12] at H;have c12b0 : decide (((rd_T34 l0 x16_1).f0) < 0) = false:=decide_eq_false c12;clear c12
      (first | rw [c12b0] | (simp only [i64_w,i32_w];rw [c12b0]) | skip)
      by_cases c14 : ((rd_T34 l0 x16_1).f0)≥256
      rotate_left
      ·
       rw [if_neg c14] at H;have c14b0 : decide (256≤((rd_T34 l0 x16_1).f0)) = false:=decide_eq_false c14;clear c14;by_cases c16 : ((rd_T34 l0 x16_1).f1) < (-1)
       rotate_left
       ·
        rw [if_neg c16] at H;have c16b0 : decide (((rd_T34 l0 x16_1).f1) < (-1)) = false:=decide_eq_false c16;clear c16;have H':=Aside0.mk H;clear H;obtain ⟨hcz18_0,hcz18_1,hcz18_2,hcz18_3,hcz18_4,hcz18_5,hcz18_6,hfz18_0,hfz18_1,hfz18_2,hfz18_3,hfz18_4,hfz18_5,hfz18_6⟩:=q7_ BK135.out;go_wp2
        go_meet
        case rel => exact ⟨_,(decide (((rd_T34 l0 x16_1).f1)≥(l1.length : Int))),(by first | rfl | (simp;done) | (simp [*];done)),H',⟨by have:=HK1.out;first | omega | exact Nat.le_refl _⟩,⟨by (with_reducible repeat (first | refine blk_drewN ?_ _ | refine blk_drew ?_ | refine blk_alloc ?_ _));refine blk_put (cs:=#[.int .i64 ((rd_T34 l0 x16_1).f0),.int .i64 ((rd_T34 l0 x16_1).f1),.int .i64 ((rd_T34 l0 x16_1).f2),.int .i64 ((rd_T34 l0 x16_1).f3),.int .i64 ((rd_T34 l0 x16_1).f4),.bool ((rd_T34 l0 x16_1).f5),.bool false]) ?_ 6 _ rfl;(with_reducible repeat (first | refine blk_drewN ?_ _ | refine blk_drew ?_ | refine blk_alloc ?_ _));refine blk_put (cs:=#[.int .i64 ((rd_T34 l0 x16_1).f0),.int .i64 ((rd_T34 l0 x16_1).f1),.int .i64 ((rd_T34 l0 x16_1).f2),.int .i64 ((rd_T34 l0 x16_1).f3),.int .i64 ((rd_T34 l0 x16_1).f4),.bool false,.bool false]) ?_ 5 _ rfl;(with_reducible repeat (first | refine blk_drewN ?_ _ | refine blk_drew ?_ | refine blk_alloc ?_ _));refine blk_put (cs:=#[.int .i64 ((rd_T34 l0 x16_1).f0),.int .i64 ((rd_T34 l0 x16_1).f1),.int .i64 ((rd_T34 l0 x16_1).f2),.int .i64 ((rd_T34 l0 x16_1).f3),.int .i64 0,.bool false,.bool false]) ?_ 4 _ rfl;(with_reducible repeat (first | refine blk_drewN ?_ _ | refine blk_drew ?_ | refine blk_alloc ?_ _));refine blk_put (cs:=#[.int .i64 ((rd_T34 l0 x16_1).f0),.int .i64 ((rd_T34 l0 x16_1).f1),.int .i64 ((rd_T34 l0 x16_1).f2),.int .i64 0,.int .i64 0,.bool false,.bool false]) ?_ 3 _ rfl;(with_reducible repeat (first | refine blk_drewN ?_ _ | refine blk_drew ?_ | refine blk_alloc ?_ _));refine blk_put (cs:=#[.int .i64 ((rd_T34 l0 x16_1).f0),.int .i64 ((rd_T34 l0 x16_1).f1),.int .i64 0,.int .i64 0,.int .i64 0,.bool false,.bool false]) ?_ 2 _ rfl;(with_reducible repeat (first | refine blk_drewN ?_ _ | refine blk_drew ?_ | refine blk_alloc ?_ _));refine blk_put (cs:=#[.int .i64 ((rd_T34 l0 x16_1).f0),.int .i64 0,.int .i64 0,.int .i64 0,.int .i64 0,.bool false,.bool false]) ?_ 1 _ rfl;(with_reducible repeat (first | refine blk_drewN ?_ _ | refine blk_drew ?_ | refine blk_alloc ?_ _));refine blk_put (cs:=#[.int .i64 0,.int .i64 0,.int .i64 0,.int .i64 0,.int .i64 0,.bool false,.bool false]) ?_ 0 _ rfl;(with_reducible repeat (first | refine blk_drewN ?_ _ | refine blk_drew ?_ | refine blk_alloc ?_ _));exact BK135.out⟩,⟨by repeat (first | (with_reducible first | exact HB.out | apply b0_ | apply b1_ | apply b2_ | refine below_set ?_ GE135.out) | exact HB.out)⟩⟩
       rw [if_pos c16] at H;have c16b0 : decide (((rd_T34 l0 x16_1).f1) < (-1)) = true:=decide_eq_true c16;clear c16;have H':=Aside0.mk H;clear H;obtain ⟨hcz17_0,hcz17_1,hcz17_2,hcz17_3,hcz17_4,hcz17_5,hcz17_6,hfz17_0,hfz17_1,hfz17_2,hfz17_3,hfz17_4,hfz17_5,hfz17_6⟩:=q7_ BK135.out;go_wp2
       go_meet
       case rel => exact ⟨_,(true),(by first | rfl | (simp;done) | (simp [*];done)),H',⟨by have:=HK1.out;first | omega | exact Nat.le_refl _⟩,⟨by (with_reducible repeat (first | refine blk_drewN ?_ _ | refine blk_drew ?_ | refine blk_alloc ?_ _));refine blk_put (cs:=#[.int .i64 ((rd_T34 l0 x16_1).f0),.int .i64 ((rd_T34 l0 x16_1).f1),.int .i64 ((rd_T34 l0 x16_1).f2),.int .i64 ((rd_T34 l0 x16_1).f3),.int .i64 ((rd_T34 l0 x16_1).f4),.bool ((rd_T34 l0 x16_1).f5),.bool false]) ?_ 6 _ rfl;(with_reducible repeat (first | refine blk_drewN ?_ _ | refine blk_drew ?_ | refine blk_alloc ?_ _));refine blk_put (cs:=#[.int .i64 ((rd_T34 l0 x16_1).f0),.int .i64 ((rd_T34 l0 x16_1).f1),.int .i64 ((rd_T34 l0 x16_1).f2),.int .i64 ((rd_T34 l0 x16_1).f3),.int .i64 ((rd_T34 l0 x16_1).f4),.bool false,.bool false]) ?_ 5 _ rfl;(with_reducible repeat (first | refine blk_drewN ?_ _ | refine blk_drew ?_ | refine blk_alloc ?_ _));refine blk_put (cs:=#[.int .i64 ((rd_T34 l0 x16_1).f0),.int .i64 ((rd_T34 l0 x16_1).f1),.int .i64 ((rd_T34 l0 x16_1).f2),.int .i64 ((rd_T34 l0 x16_1).f3),.int .i64 0,.bool false,.bool false]) ?_ 4 _ rfl;(with_reducible repeat (first | refine blk_drewN ?_ _ | refine blk_drew ?_ | refine blk_alloc ?_ _));refine blk_put (cs:=#[.int .i64 ((rd_T34 l0 x16_1).f0),.int .i64 ((rd_T34 l0 x16_1).f1),.int .i64 ((rd_T34 l0 x16_1).f2),.int .i64 0,.int .i64 0,.bool false,.bool false]) ?_ 3 _ rfl;(with_reducible repeat (first | refine blk_drewN ?_ _ | refine blk_drew ?_ | refine blk_alloc ?_ _));refine blk_put (cs:=#[.int .i64 ((rd_T34 l0 x16_1).f0),.int .i64 ((rd_T34 l0 x16_1).f1),.int .i64 0,.int .i64 0,.int .i64 0,.bool false,.bool false]) ?_ 2 _ rfl;(with_reducible repeat (first | refine blk_drewN ?_ _ | refine blk_drew ?_ | refine blk_alloc ?_ _));refine blk_put (cs:=#[.int .i64 ((rd_T34 l0 x16_1).f0),.int .i64 0,.int .i64 0,.int .i64 0,.int .i64 0,.bool false,.bool false]) ?_ 1 _ rfl;(with_reducible repeat (first | refine blk_drewN ?_ _ | refine blk_drew ?_ | refine blk_alloc ?_ _));refine blk_put (cs:=#[.int .i64 0,.int .i64 0,.int .i64 0,.int .i64 0,.int .i64 0,.bool false,.bool false]) ?_ 0 _ rfl;(with_reducible repeat (first | refine blk_drewN ?_ _ | refine blk_drew ?_ | refine blk_alloc ?_ _));exact BK135.out⟩,⟨by repeat (first | (with_reducible first | exact HB.out | apply b0_ | apply b1_ | apply b2_ | refine below_set ?_ GE135.out) | exact HB.out)⟩⟩
      rw [if_pos c14] at H;have c14b0 : decide (256≤((rd_T34 l0 x16_1).f0)) = true:=decide_eq_true c14;clear c14;have H':=Aside0.mk H;clear H;obtain ⟨hcz15_0,hcz15_1,hcz15_2,hcz15_3,hcz15_4,hcz15_5,hcz15_6,hfz15_0,hfz15_1,hfz15_2,hfz15_3,hfz15_4,hfz15_5,hfz15_6⟩:=q7_ BK135.out;go_wp2
      go_meet
      case rel => exact ⟨_,(true),(by first | rfl | (simp;done) | (simp [*];done)),H',⟨by have:=HK1.out;first | omega | exact Nat.le_refl _⟩,⟨by (with_reducible repeat (first | refine blk_drewN ?_ _ | refine blk_drew ?_ | refine blk_alloc ?_ _));refine blk_put (cs:=#[.int .i64 ((rd_T34 l0 x16_1).f0),.int .i64 ((rd_T34 l0 x16_1).f1),.int .i64 ((rd_T34 l0 x16_1).f2),.int .i64 ((rd_T34 l0 x16_1).f3),.int .i64 ((rd_T34 l0 x16_1).f4),.bool ((rd_T34 l0 x16_1).f5),.bool false]) ?_ 6 _ rfl;(with_reducible repeat (first | refine blk_drewN ?_ _ | refine blk_drew ?_ | refine blk_alloc ?_ _));refine blk_put (cs:=#[.int .i64 ((rd_T34 l0 x16_1).f0),.int .i64 ((rd_T34 l0 x16_1).f1),.int .i64 ((rd_T34 l0 x16_1).f2),.int .i64 ((rd_T34 l0 x16_1).f3),.int .i64 ((rd_T34 l0 x16_1).f4),.bool false,.bool false]) ?_ 5 _ rfl;(with_reducible repeat (first | refine blk_drewN ?_ _ | refine blk_drew ?_ | refine blk_alloc ?_ _));refine blk_put (cs:=#[.int .i64 ((rd_T34 l0 x16_1).f0),.int .i64 ((rd_T34 l0 x16_1).f1),.int .i64 ((rd_T34 l0 x16_1).f2),.int .i64 ((rd_T34 l0 x16_1).f3),.int .i64 0,.bool false,.bool false]) ?_ 4 _ rfl;(with_reducible repeat (first | refine blk_drewN ?_ _ | refine blk_drew ?_ | refine blk_alloc ?_ _));refine blk_put (cs:=#[.int .i64 ((rd_T34 l0 x16_1).f0),.int .i64 ((rd_T34 l0 x16_1).f1),.int .i64 ((rd_T34 l0 x16_1).f2),.int .i64 0,.int .i64 0,.bool false,.bool false]) ?_ 3 _ rfl;(with_reducible repeat (first | refine blk_drewN ?_ _ | refine blk_drew ?_ | refine blk_alloc ?_ _));refine blk_put (cs:=#[.int .i64 ((rd_T34 l0 x16_1).f0),.int .i64 ((rd_T34 l0 x16_1).f1),.int .i64 0,.int .i64 0,.int .i64 0,.bool false,.bool false]) ?_ 2 _ rfl;(with_reducible repeat (first | refine blk_drewN ?_ _ | refine blk_drew ?_ | refine blk_alloc ?_ _));refine blk_put (cs:=#[.int .i64 ((rd_T34 l0 x16_1).f0),.int .i64 0,.int .i64 0,.int .i64 0,.int .i64 0,.bool false,.bool false]) ?_ 1 _ rfl;(with_reducible repeat (first | refine blk_drewN ?_ _ | refine blk_drew ?_ | refine blk_alloc ?_ _));refine blk_put (cs:=#[.int .i64 0,.int .i64 0,.int .i64 0,.int .i64 0,.int .i64 0,.bool false,.bool false]) ?_ 0 _ rfl;(with_reducible repeat (first | refine blk_drewN ?_ _ | refine blk_drew ?_ | refine blk_alloc ?_ _));exact BK135.out⟩,⟨by repeat (first | (with_reducible first | exact HB.out | apply b0_ | apply b1_ | apply b2_ | refine below_set ?_ GE135.out) | exact HB.out)⟩⟩
     rw [if_pos c12] at H;have c12b0 : decide (((rd_T34 l0 x16_1).f0) < 0) = true:=decide_eq_true c12;clear c12
     (first | rw [c12b0] | (simp only [i64_w,i32_w];rw [c12b0]) | skip)
     have H':=Aside0.mk H;clear H;obtain ⟨hcz13_0,hcz13_1,hcz13_2,hcz13_3,hcz13_4,hcz13_5,hcz13_6,hfz13_0,hfz13_1,hfz13_2,hfz13_3,hfz13_4,hfz13_5,hfz13_6⟩:=q7_ BK135.out;go_wp2
     go_meet
     case rel => exact ⟨_,(true),(by first | rfl | (simp;done) | (simp [*];done)),H',⟨by have:=HK1.out;first | omega | exact Nat.le_refl _⟩,⟨by (with_reducible repeat (first | refine blk_drewN ?_ _ | refine blk_drew ?_ | refine blk_alloc ?_ _));refine blk_put (cs:=#[.int .i64 ((rd_T34 l0 x16_1).f0),.int .i64 ((rd_T34 l0 x16_1).f1),.int .i64 ((rd_T34 l0 x16_1).f2),.int .i64 ((rd_T34 l0 x16_1).f3),.int .i64 ((rd_T34 l0 x16_1).f4),.bool ((rd_T34 l0 x16_1).f5),.bool false]) ?_ 6 _ rfl;(with_reducible repeat (first | refine blk_drewN ?_ _ | refine blk_drew ?_ | refine blk_alloc ?_ _));refine blk_put (cs:=#[.int .i64 ((rd_T34 l0 x16_1).f0),.int .i64 ((rd_T34 l0 x16_1).f1),.int .i64 ((rd_T34 l0 x16_1).f2),.int .i64 ((rd_T34 l0 x16_1).f3),.int .i64 ((rd_T34 l0 x16_1).f4),.bool false,.bool false]) ?_ 5 _ rfl;(with_reducible repeat (first | refine blk_drewN ?_ _ | refine blk_drew ?_ | refine blk_alloc ?_ _));refine blk_put (cs:=#[.int .i64 ((rd_T34 l0 x16_1).f0),.int .i64 ((rd_T34 l0 x16_1).f1),.int .i64 ((rd_T34 l0 x16_1).f2),.int .i64 ((rd_T34 l0 x16_1).f3),.int .i64 0,.bool false,.bool false]) ?_ 4 _ rfl;(with_reducible repeat (first | refine blk_drewN ?_ _ | refine blk_drew ?_ | refine blk_alloc ?_ _));refine blk_put (cs:=#[.int .i64 ((rd_T34 l0 x16_1).f0),.int .i64 ((rd_T34 l0 x16_1).f1),.int .i64 ((rd_T34 l0 x16_1).f2),.int .i64 0,.int .i64 0,.bool false,.bool false]) ?_ 3 _ rfl;(with_reducible repeat (first | refine blk_drewN ?_ _ | refine blk_drew ?_ | refine blk_alloc ?_ _));refine blk_put (cs:=#[.int .i64 ((rd_T34 l0 x16_1).f0),.int .i64 ((rd_T34 l0 x16_1).f1),.int .i64 0,.int .i64 0,.int .i64 0,.bool false,.bool false]) ?_ 2 _ rfl;(with_reducible repeat (first | refine blk_drewN ?_ _ | refine blk_drew ?_ | refine blk_alloc ?_ _));refine blk_put (cs:=#[.int .i64 ((rd_T34 l0 x16_1).f0),.int .i64 0,.int .i64 0,.int .i64 0,.int .i64 0,.bool false,.bool false]) ?_ 1 _ rfl;(with_reducible repeat (first | refine blk_drewN ?_ _ | refine blk_drew ?_ | refine blk_alloc ?_ _));refine blk_put (cs:=#[.int .i64 0,.int .i64 0,.int .i64 0,.int .i64 0,.int .i64 0,.bool false,.bool false]) ?_ 0 _ rfl;(with_reducible repeat (first | refine blk_drewN ?_ _ | refine blk_drew ?_ | refine blk_alloc ?_ _));exact BK135.out⟩,⟨by repeat (first | (with_reducible first | exact HB.out | apply b0_ | apply b1_ | apply b2_ | refine below_set ?_ GE135.out) | exact HB.out)⟩⟩
    case rest =>
     clear HC9;obtain ⟨kq,x20_8,rfl,HA,HJ8,BK135,HB⟩:=hcut
     cases kq with
      | zero => exact absurd HA.out (by simp [reclaimplan_Check.j1])
      | succ kj8 =>
       have H:=HA.out;clear HA;simp only [reclaimplan_Check.j1] at H;by_cases c19 : x20_8 = true
       rotate_left
       ·
        replace c19:=Bool.eq_false_iff.mpr c19;subst c19
        have H1 : (if ((rd_T34 l0 x16_1).f0)≤x6_1 then (some 10) else (if ((rd_T34 l0 x16_1).f3) < 0 then (reclaimplan_Check.j2 kj8 l1 l0 (l0.length : Int) x16_1 true ((rd_T34 l0 x16_1).f0) ((rd_T34 l0 x16_1).f1) ((rd_T34 l0 x16_1).f2) ((rd_T34 l0 x16_1).f3) ((rd_T34 l0 x16_1).f4) ((rd_T34 l0 x16_1).f5) ((rd_T34 l0 x16_1).f6)) else (if ((rd_T34 l0 x16_1).f3) > 10 then (reclaimplan_Check.j2 kj8 l1 l0 (l0.length : Int) x16_1 true ((rd_T34 l0 x16_1).f0) ((rd_T34 l0 x16_1).f1) ((rd_T34 l0 x16_1).f2) ((rd_T34 l0 x16_1).f3) ((rd_T34 l0 x16_1).f4) ((rd_T34 l0 x16_1).f5) ((rd_T34 l0 x16_1).f6)) else (if ((rd_T34 l0 x16_1).f2) < (-1) then (reclaimplan_Check.j2 kj8 l1 l0 (l0.length : Int) x16_1 true ((rd_T34 l0 x16_1).f0) ((rd_T34 l0 x16_1).f1) ((rd_T34 l0 x16_1).f2) ((rd_T34 l0 x16_1).f3) ((rd_T34 l0 x16_1).f4) ((rd_T34 l0 x16_1).f5) ((rd_T34 l0 x16_1).f6)) else (reclaimplan_Check.j2 kj8 l1 l0 (l0.length : Int) x16_1 (decide (((rd_T34 l0 x16_1).f4) < (-1))) ((rd_T34 l0 x16_1).f0) ((rd_T34 l0 x16_1).f1) ((rd_T34 l0 x16_1).f2) ((rd_T34 l0 x16_1).f3) ((rd_T34 l0 x16_1).f4) ((rd_T34 l0 x16_1).f5) ((rd_T34 l0 x16_1).f6)))))) = some r:=by rw [if_neg (show ¬ (false = true) by decide)] at H;exact H
        clear H;have H:=H1;clear H1;by_cases c20 : ((rd_T34 l0 x16_1).f0)≤x6_1
        rotate_left
        ·
         rw [if_neg c20] at H;have c20b0 : decide (((rd_T34 l0 x16_1).f0)≤x6_1) = false:=decide_eq_false c20;clear c20;have HC22:=Aside0.mk H;clear H;obtain ⟨hcz23_0,hcz23_1,hcz23_2,hcz23_3,hcz23_4,hcz23_5,hcz23_6,hfz23_0,hfz23_1,hfz23_2,hfz23_3,hfz23_4,hfz23_5,hfz23_6⟩:=q7_ BK135.out
         go_upto_region 12 with (fail)
         go_cut [46] (fun v46 wc => ∃ (kq : Nat) (x46_21 : Bool),v46 = .bool x46_21∧Aside0 (reclaimplan_Check.j2 kq l1 l0 (l0.length : Int) x16_1 x46_21 ((rd_T34 l0 x16_1).f0) ((rd_T34 l0 x16_1).f1) ((rd_T34 l0 x16_1).f2) ((rd_T34 l0 x16_1).f3) ((rd_T34 l0 x16_1).f4) ((rd_T34 l0 x16_1).f5) ((rd_T34 l0 x16_1).f6) = some r)∧Aside0 (kq≤kj8)∧Aside0 (wc.heap[gb135]? = some (.cells #[.int .i64 ((rd_T34 l0 x16_1).f0),.int .i64 ((rd_T34 l0 x16_1).f1),.int .i64 ((rd_T34 l0 x16_1).f2),.int .i64 ((rd_T34 l0 x16_1).f3),.int .i64 ((rd_T34 l0 x16_1).f4),.bool ((rd_T34 l0 x16_1).f5),.bool ((rd_T34 l0 x16_1).f6)] 34 (0,0)))∧Aside0 (Below w.heap.size w wc))
         case first =>
          have H:=HC22.out;clear HC22;by_cases c24 : ((rd_T34 l0 x16_1).f3) < 0
          rotate_left
          ·
           rw [if_neg c24] at H;have c24b0 : decide (((rd_T34 l0 x16_1).f3) < 0) = false:=decide_eq_false c24;clear c24
           (first | rw [c24b0] | (simp only [i64_w,i32_w];rw [c24b0]) | skip)
           by_cases c26 : ((rd_T34 l0 x16_1).f3) > 10
           rotate_left
           ·
            rw [if_neg c26] at H;have c26b0 : decide (10 < ((rd_T34 l0 x16_1).f3)) = false:=decide_eq_false c26;clear c26;by_cases c28 : ((rd_T34 l0 x16_1).f2) < (-1)
            rotate_left
            ·
             rw [if_neg c28] at H;have c28b0 : decide (((rd_T34 l0 x16_1).f2) < (-1)) = false:=decide_eq_false c28;clear c28;have H':=Aside0.mk H;clear H;obtain ⟨hcz30_0,hcz30_1,hcz30_2,hcz30_3,hcz30_4,hcz30_5,hcz30_6,hfz30_0,hfz30_1,hfz30_2,hfz30_3,hfz30_4,hfz30_5,hfz30_6⟩:=q7_ BK135.out;go_wp2
             go_meet
             case rel => exact ⟨_,(decide (((rd_T34 l0 x16_1).f4) < (-1))),(by first | rfl | (simp;done) | (simp [*];done)),H',⟨by have:=HK1.out;have:=HJ8.out;first | omega | exact Nat.le_refl _⟩,⟨by (with_reducible repeat (first | refine blk_drewN ?_ _ | refine blk_drew ?_ | refine blk_alloc ?_ _));exact BK135.out⟩,⟨by repeat (first | (with_reducible first | exact HB.out | apply b0_ | apply b1_ | apply b2_ | refine below_set ?_ GE135.out) | exact HB.out)⟩⟩
            rw [if_pos c28] at H;have c28b0 : decide (((rd_T34 l0 x16_1).f2) < (-1)) = true:=decide_eq_true c28;clear c28;have H':=Aside0.mk H;clear H;obtain ⟨hcz29_0,hcz29_1,hcz29_2,hcz29_3,hcz29_4,hcz29_5,hcz29_6,hfz29_0,hfz29_1,hfz29_2,hfz29_3,hfz29_4,hfz29_5,hfz29_6⟩:=q7_ BK135.out;go_wp2
            go_meet
            case rel => exact ⟨_,(true),(by first | rfl | (simp;done) | (simp [*];done)),H',⟨by have:=HK1.out;have:=HJ8.out;first | omega | exact Nat.le_refl _⟩,⟨by (with_reducible repeat (first | refine blk_drewN ?_ _ | refine blk_drew ?_ | refine blk_alloc ?_ _));exact BK135.out⟩,⟨by repeat (first | (with_reducible first | exact HB.out | apply b0_ | apply b1_ | apply b2_ | refine below_set ?_ GE135.out) | exact HB.out)⟩⟩
           rw [if_pos c26] at H;have c26b0 : decide (10 < ((rd_T34 l0 x16_1).f3)) = true:=decide_eq_true c26;clear c26;have H':=Aside0.mk H;clear H;obtain ⟨hcz27_0,hcz27_1,hcz27_2,hcz27_3,hcz27_4,hcz27_5,hcz27_6,hfz27_0,hfz27_1,hfz27_2,hfz27_3,hfz27_4,hfz27_5,hfz27_6⟩:=q7_ BK135.out;go_wp2
           go_meet
           case rel => exact ⟨_,(true),(by first | rfl | (simp;done) | (simp [*];done)),H',⟨by have:=HK1.out;have:=HJ8.out;first | omega | exact Nat.le_refl _⟩,⟨by (with_reducible repeat (first | refine blk_drewN ?_ _ | refine blk_drew ?_ | refine blk_alloc ?_ _));exact BK135.out⟩,⟨by repeat (first | (with_reducible first | exact HB.out | apply b0_ | apply b1_ | apply b2_ | refine below_set ?_ GE135.out) | exact HB.out)⟩⟩
          rw [if_pos c24] at H;have c24b0 : decide (((rd_T34 l0 x16_1).f3) < 0) = true:=decide_eq_true c24;clear c24
          (first | rw [c24b0] | (simp only [i64_w,i32_w];rw [c24b0]) | skip)
          have H':=Aside0.mk H;clear H;obtain ⟨hcz25_0,hcz25_1,hcz25_2,hcz25_3,hcz25_4,hcz25_5,hcz25_6,hfz25_0,hfz25_1,hfz25_2,hfz25_3,hfz25_4,hfz25_5,hfz25_6⟩:=q7_ BK135.out
          go_wp2
          go_meet
          case rel => exact ⟨_,(true),(by first | rfl | (simp;done) | (simp [*];done)),H',⟨by have:=HK1.out;have:=HJ8.out;first | omega | exact Nat.le_refl _⟩,⟨by (with_reducible repeat (first | refine blk_drewN ?_ _ | refine blk_drew ?_ | refine blk_alloc ?_ _));exact BK135.out⟩,⟨by repeat (first | (with_reducible first | exact HB.out | apply b0_ | apply b1_ | apply b2_ | refine below_set ?_ GE135.out) | exact HB.out)⟩⟩
         case rest =>
          clear HC22;obtain ⟨kq,x46_21,rfl,HA,HJ21,BK135,HB⟩:=hcut
          cases kq with
           | zero => exact absurd HA.out (by simp [reclaimplan_Check.j2])
           | succ kj21 =>
            have H:=HA.out;clear HA;simp only [reclaimplan_Check.j2] at H;by_cases c31 : x46_21 = true
            rotate_left
            ·
             replace c31:=Bool.eq_false_iff.mpr c31;subst c31
             have H1 : (if ((rd_T34 l0 x16_1).f3) = 0 then (if ((rd_T34 l0 x16_1).f6) = true then (reclaimplan_Check.j3 kj21 l1 l0 (l0.length : Int) x16_1 false ((rd_T34 l0 x16_1).f0) ((rd_T34 l0 x16_1).f1) ((rd_T34 l0 x16_1).f2) ((rd_T34 l0 x16_1).f3) ((rd_T34 l0 x16_1).f4) ((rd_T34 l0 x16_1).f5) ((rd_T34 l0 x16_1).f6)) else (reclaimplan_Check.j3 kj21 l1 l0 (l0.length : Int) x16_1 (((rd_T34 l0 x16_1).f2) == (-1)) ((rd_T34 l0 x16_1).f0) ((rd_T34 l0 x16_1).f1) ((rd_T34 l0 x16_1).f2) ((rd_T34 l0 x16_1).f3) ((rd_T34 l0 x16_1).f4) ((rd_T34 l0 x16_1).f5) ((rd_T34 l0 x16_1).f6))) else (reclaimplan_Check.j3 kj21 l1 l0 (l0.length : Int) x16_1 false ((rd_T34 l0 x16_1).f0) ((rd_T34 l0 x16_1).f1) ((rd_T34 l0 x16_1).f2) ((rd_T34 l0 x16_1).f3) ((rd_T34 l0 x16_1).f4) ((rd_T34 l0 x16_1).f5) ((rd_T34 l0 x16_1).f6))) = some r:=by rw [if_neg (show ¬ (false = true) by decide)] at H;exact H
             clear H;have H:=H1;clear H1;have HC32:=Aside0.mk H;clear H
             go_upto_region 14 with (fail)
             go_cut [65] (fun v65 wc => ∃ (kq : Nat) (x65_31 : Bool),v65 = .bool x65_31∧Aside0 (reclaimplan_Check.j3 kq l1 l0 (l0.length : Int) x16_1 x65_31 ((rd_T34 l0 x16_1).f0) ((rd_T34 l0 x16_1).f1) ((rd_T34 l0 x16_1).f2) ((rd_T34 l0 x16_1).f3) ((rd_T34 l0 x16_1).f4) ((rd_T34 l0 x16_1).f5) ((rd_T34 l0 x16_1).f6) = some r)∧Aside0 (kq≤kj21)∧Aside0 (wc.heap[gb135]? = some (.cells #[.int .i64 ((rd_T34 l0 x16_1).f0),.int .i64 ((rd_T34 l0 x16_1).f1),.int .i64 ((rd_T34 l0 x16_1).f2),.int .i64 ((rd_T34 l0 x16_1).f3),.int .i64 ((rd_T34 l0 x16_1).f4),.bool ((rd_T34 l0 x16_1).f5),.bool ((rd_T34 l0 x16_1).f6)] 34 (0,0)))∧Aside0 (Below w.heap.size w wc))
             case first =>
              have H:=HC32.out;clear HC32;by_cases c33 : ((rd_T34 l0 x16_1).f3) = 0
              rotate_left
              ·
               rw [if_neg c33] at H;have c33b0 : (((rd_T34 l0 x16_1).f3) == 0) = false:=beq_eq_false_iff_ne.mpr c33;have c33b1 : (((rd_T34 l0 x16_1).f3) != 0) = true:=bne_iff_ne.mpr c33
               (first | rw [c33b0] | (simp only [i64_w,i32_w];rw [c33b0]) | skip)
               have H':=Aside0.mk H;clear H;obtain ⟨hcz37_0,hcz37_1,hcz37_2,hcz37_3,hcz37_4,hcz37_5,hcz37_6,hfz37_0,hfz37_1,hfz37_2,hfz37_3,hfz37_4,hfz37_5,hfz37_6⟩:=q7_ BK135.out
               go_wp2
               go_meet
               case rel => exact ⟨_,(false),(by first | rfl | (simp;done) | (simp [*];done)),H',⟨by have:=HK1.out;have:=HJ8.out;have:=HJ21.out;first | omega | exact Nat.le_refl _⟩,⟨by (with_reducible repeat (first | refine blk_drewN ?_ _ | refine blk_drew ?_ | refine blk_alloc ?_ _));exact BK135.out⟩,⟨by repeat (first | (with_reducible first | exact HB.out | apply b0_ | apply b1_ | apply b2_ | refine below_set ?_ GE135.out) | exact HB.out)⟩⟩
              rw [if_pos c33] at H;have c33b0 : (((rd_T34 l0 x16_1).f3) == 0) = true:=beq_iff_eq.mpr c33;have c33b1 : (((rd_T34 l0 x16_1).f3) != 0) = false:=bne_eq_false_iff_eq.mpr c33;clear c33
              (first | rw [c33b0] | (simp only [i64_w,i32_w];rw [c33b0]) | skip)
              by_cases c34 : ((rd_T34 l0 x16_1).f6) = true
              rotate_left
              ·
               rw [if_neg c34] at H
               have c34b0 : ((rd_T34 l0 x16_1).f6) = false:=by simpa using c34
               clear c34;have H':=Aside0.mk H;clear H;obtain ⟨hcz36_0,hcz36_1,hcz36_2,hcz36_3,hcz36_4,hcz36_5,hcz36_6,hfz36_0,hfz36_1,hfz36_2,hfz36_3,hfz36_4,hfz36_5,hfz36_6⟩:=q7_ BK135.out;go_wp2
               go_meet
               case rel => exact ⟨_,((((rd_T34 l0 x16_1).f2) == (-1))),(by first | rfl | (simp;done) | (simp [*];done)),H',⟨by have:=HK1.out;have:=HJ8.out;have:=HJ21.out;first | omega | exact Nat.le_refl _⟩,⟨by (with_reducible repeat (first | refine blk_drewN ?_ _ | refine blk_drew ?_ | refine blk_alloc ?_ _));exact BK135.out⟩,⟨by repeat (first | (with_reducible first | exact HB.out | apply b0_ | apply b1_ | apply b2_ | refine below_set ?_ GE135.out) | exact HB.out)⟩⟩
              rw [if_pos c34] at H;have c34b0 : ((rd_T34 l0 x16_1).f6) = true:=c34;clear c34;have H':=Aside0.mk H;clear H;obtain ⟨hcz35_0,hcz35_1,hcz35_2,hcz35_3,hcz35_4,hcz35_5,hcz35_6,hfz35_0,hfz35_1,hfz35_2,hfz35_3,hfz35_4,hfz35_5,hfz35_6⟩:=q7_ BK135.out;go_wp2
              go_meet
              case rel => exact ⟨_,(false),(by first | rfl | (simp;done) | (simp [*];done)),H',⟨by have:=HK1.out;have:=HJ8.out;have:=HJ21.out;first | omega | exact Nat.le_refl _⟩,⟨by (with_reducible repeat (first | refine blk_drewN ?_ _ | refine blk_drew ?_ | refine blk_alloc ?_ _));exact BK135.out⟩,⟨by repeat (first | (with_reducible first | exact HB.out | apply b0_ | apply b1_ | apply b2_ | refine below_set ?_ GE135.out) | exact HB.out)⟩⟩
             case rest =>
              clear HC32;obtain ⟨kq,x65_31,rfl,HA,HJ31,BK135,HB⟩:=hcut
              cases kq with
               | zero => exact absurd HA.out (by simp [reclaimplan_Check.j3])
               | succ kj31 =>
                have H:=HA.out;clear HA;simp only [reclaimplan_Check.j3] at H;by_cases c38 : x65_31 = true
                rotate_left
                ·
                 replace c38:=Bool.eq_false_iff.mpr c38;subst c38
                 have H1 : (reclaimplan_Check.l0 kj31 l1 ((rd_T34 l0 x16_1).f0) l0 (l0.length : Int) (wrap64 (x16_1 + 1))) = some r:=by rw [if_neg (show ¬ (false = true) by decide)] at H;exact H
                 clear H;have H:=H1;clear H1;have H':=Aside0.mk H;clear H;obtain ⟨hcz39_0,hcz39_1,hcz39_2,hcz39_3,hcz39_4,hcz39_5,hcz39_6,hfz39_0,hfz39_1,hfz39_2,hfz39_3,hfz39_4,hfz39_5,hfz39_6⟩:=q7_ BK135.out;go_wp2
                 go_roundg kj31
                 case measure => have:=HK1.out;have:=HJ8.out;have:=HJ21.out;have:=HJ31.out;omega
                 case rel => exact ⟨(((rd_T34 l0 x16_1).f0)),(wrap64 (x16_1 + 1)),(by first | rfl | (simp;done) | (simp [*];done)),(by first | rfl | (simp;done) | (simp [*];done)),H',⟨by have:=HK1.out;have:=HJ8.out;have:=HJ21.out;have:=HJ31.out;omega⟩,⟨by repeat (first | (with_reducible first | exact HB.out | apply b0_ | apply b1_ | apply b2_ | refine below_set ?_ GE135.out) | exact HB.out)⟩⟩
                subst c38
                have H1 : (some 3) = some r:=by rw [if_pos rfl] at H;exact H
                clear H;have H:=H1;clear H1;obtain rfl:=Option.some.inj H;go_wp2;go_ret;exact ⟨by first | rfl | (simp [errW_none,errW_some] <;> rfl) | (simp [*,errW_none,errW_some] <;> rfl),by repeat (first | (with_reducible first | exact HB.out | apply b0_ | apply b1_ | apply b2_ | refine below_set ?_ GE135.out) | exact HB.out)⟩
            subst c31
            have H1 : (some 1) = some r:=by rw [if_pos rfl] at H;exact H
            clear H;have H:=H1;clear H1;obtain rfl:=Option.some.inj H;go_wp2;go_ret;exact ⟨by first | rfl | (simp [errW_none,errW_some] <;> rfl) | (simp [*,errW_none,errW_some] <;> rfl),by repeat (first | (with_reducible first | exact HB.out | apply b0_ | apply b1_ | apply b2_ | refine below_set ?_ GE135.out) | exact HB.out)⟩
        rw [if_pos c20] at H;have c20b0 : decide (((rd_T34 l0 x16_1).f0)≤x6_1) = true:=decide_eq_true c20;clear c20;obtain rfl:=Option.some.inj H;obtain ⟨hcz21_0,hcz21_1,hcz21_2,hcz21_3,hcz21_4,hcz21_5,hcz21_6,hfz21_0,hfz21_1,hfz21_2,hfz21_3,hfz21_4,hfz21_5,hfz21_6⟩:=q7_ BK135.out;go_wp2;go_ret;exact ⟨by first | rfl | (simp [errW_none,errW_some] <;> rfl) | (simp [*,errW_none,errW_some] <;> rfl),by repeat (first | (with_reducible first | exact HB.out | apply b0_ | apply b1_ | apply b2_ | refine below_set ?_ GE135.out) | exact HB.out)⟩
       subst c19
       have H1 : (some 2) = some r:=by rw [if_pos rfl] at H;exact H
       clear H;have H:=H1;clear H1;obtain rfl:=Option.some.inj H;go_wp2;go_ret;exact ⟨by first | rfl | (simp [errW_none,errW_some] <;> rfl) | (simp [*,errW_none,errW_some] <;> rfl),by repeat (first | (with_reducible first | exact HB.out | apply b0_ | apply b1_ | apply b2_ | refine below_set ?_ GE135.out) | exact HB.out)⟩
mutual
def protection_valid.j0 : Nat→List Int→Bool→Option (Bool)
 | 0,_,_ => none
 | k + 1,x1,x16 => if x16 = true then (some false) else (protection_valid.l0 k x1 (x1.length : Int) 0)
def protection_valid.l0 : Nat→List Int→Int→Int→Option (Bool)
 | 0,_,_,_ => none
 | k + 1,x17,x18,x19 => if x19 < x18 then (if 0≤x19 then (if x19 < (x17.length : Int) then (if (rd x17 x19) < 0 then (protection_valid.j2 k x17 x18 x19 true) else (protection_valid.j2 k x17 x18 x19 (decide ((rd x17 x19) > 1048576)))) else (none)) else (none)) else (some true)
def protection_valid.j2 : Nat→List Int→Int→Int→Bool→Option (Bool)
 | 0,_,_,_,_ => none
 | k + 1,x17,x18,x19,x28 => if x28 = true then (some false) else (protection_valid.l0 k x17 x18 (wrap64 (x19 + 1)))
end
def protection_valid.f (k : Nat) (l0 : List (S30)) (l1 : List Int) : Option (Bool):=(accounts_Check.f k l0).bind fun t136 => (if t136 = 0 then (protection_valid.j0 k l1 ((l1.length : Int) != (l0.length : Int))) else (protection_valid.j0 k l1 true))
theorem protection_valid.mono_l : ∀ k,(∀ y0 y1,LeO (protection_valid.j0 k y0 y1) (protection_valid.j0 (k + 1) y0 y1))∧(∀ y0 y1 y2,LeO (protection_valid.l0 k y0 y1 y2) (protection_valid.l0 (k + 1) y0 y1 y2))∧(∀ y0 y1 y2 y3,LeO (protection_valid.j2 k y0 y1 y2 y3) (protection_valid.j2 (k + 1) y0 y1 y2 y3))
 | 0 => ⟨fun _ _ r h => by simp [protection_valid.j0] at h,fun _ _ _ r h => by simp [protection_valid.l0] at h,fun _ _ _ _ r h => by simp [protection_valid.j2] at h⟩
 | k + 1 => by
  obtain ⟨ih0,ih1,ih2⟩:=protection_valid.mono_l k;refine ⟨?_,?_,?_⟩
  ·
   intro y0 y1
   unfold protection_valid.j0
   repeat' first
    | (with_reducible exact ih0 _ _)
    | (with_reducible exact ih1 _ _ _)
    | (with_reducible exact ih2 _ _ _ _)
    | (with_reducible exact accounts_Check.mono _ _)
    | (with_reducible exact LeO.refl _)
    | (with_reducible exact LeO.none _)
    | (with_reducible refine LeO.ite ?_ ?_)
    | (with_reducible refine LeO.bind ?_ (fun _ => ?_))
    | exact ih0 _ _
    | exact ih1 _ _ _
    | exact ih2 _ _ _ _
    | exact accounts_Check.mono _ _
    | exact LeO.none _
    | refine LeO.ite ?_ ?_
    | refine LeO.bind ?_ (fun _ => ?_)
  ·
   intro y0 y1 y2
   unfold protection_valid.l0
   repeat' first
    | (with_reducible exact ih0 _ _)
    | (with_reducible exact ih1 _ _ _)
    | (with_reducible exact ih2 _ _ _ _)
    | (with_reducible exact accounts_Check.mono _ _)
    | (with_reducible exact LeO.refl _)
    | (with_reducible exact LeO.none _)
    | (with_reducible refine LeO.ite ?_ ?_)
    | (with_reducible refine LeO.bind ?_ (fun _ => ?_))
    | exact ih0 _ _
    | exact ih1 _ _ _
    | exact ih2 _ _ _ _
    | exact accounts_Check.mono _ _
    | exact LeO.none _
    | refine LeO.ite ?_ ?_
    | refine LeO.bind ?_ (fun _ => ?_)
  ·
   intro y0 y1 y2 y3
   unfold protection_valid.j2
   repeat' first
    | (with_reducible exact ih0 _ _)
    | (with_reducible exact ih1 _ _ _)
    | (with_reducible exact ih2 _ _ _ _)
    | (with_reducible exact accounts_Check.mono _ _)
    | (with_reducible exact LeO.refl _)
    | (with_reducible exact LeO.none _)
    | (with_reducible refine LeO.ite ?_ ?_)
    | (with_reducible refine LeO.bind ?_ (fun _ => ?_))
    | exact ih0 _ _
    | exact ih1 _ _ _
    | exact ih2 _ _ _ _
    | exact accounts_Check.mono _ _
    | exact LeO.none _
    | refine LeO.ite ?_ ?_
    | refine LeO.bind ?_ (fun _ => ?_)
theorem protection_valid.mono : ∀ a0 a1 k,LeO (protection_valid.f k a0 a1) (protection_valid.f (k + 1) a0 a1):=by
 intro a0 a1 k;obtain ⟨ih0,ih1,ih2⟩:=protection_valid.mono_l k
 unfold protection_valid.f
 repeat' first
  | (with_reducible exact ih0 _ _)
  | (with_reducible exact ih1 _ _ _)
  | (with_reducible exact ih2 _ _ _ _)
  | (with_reducible exact accounts_Check.mono _ _)
  | (with_reducible exact LeO.refl _)
  | (with_reducible exact LeO.none _)
  | (with_reducible refine LeO.ite ?_ ?_)
  | (with_reducible refine LeO.bind ?_ (fun _ => ?_))
  | exact ih0 _ _
  | exact ih1 _ _ _
  | exact ih2 _ _ _ _
  | exact accounts_Check.mono _ _
  | exact LeO.none _
  | refine LeO.ite ?_ ?_
  | refine LeO.bind ?_ (fun _ => ?_)
set_option maxHeartbeats 8000000 in
set_option maxRecDepth 100000 in
theorem protection_valid.calls (k : Nat) (A0 : Option Addr) (c0 : Nat) (l0 : List (S30)) (A1 : Option Addr) (c1 : Nat) (l1 : List Int) (r : Bool) (w : World) (hr0 : Kd.C k30 w A0 l0.length l0) (hc0 : l0.length≤c0) (hr1 : Kd.C (Kd.int .i64) w A1 l1.length l1) (hc1 : l1.length≤c1) (h : protection_valid.f k l0 l1 = some r) :
 Calls Try.prog 72 #[.slice A0 l0.length c0,.slice A1 l1.length c1] w fun e w' => e = .returned (.bool r)∧Below w.heap.size w w':=by
 have HR0:=Aside0.mk hr0;have HC0:=Aside0.mk hc0;clear hr0 hc0;have HR1:=Aside0.mk hr1;have HC1:=Aside0.mk hc1;clear hr1 hc1;have HB:=Aside0.mk (Below.refl w.heap.size w);have H : ((accounts_Check.f k l0).bind fun t136 => (if t136 = 0 then (protection_valid.j0 k l1 ((l1.length : Int) != (l0.length : Int))) else (protection_valid.j0 k l1 true))) = some r:=h;clear h
 have HC3:=Aside0.mk H;clear H
 go_enter Try.func72,Try.ntmps72
 go_upto_region 1 with (fail)
 go_cut [16] (fun v16 wc => ∃ (kq : Nat) (x16_2 : Bool),v16 = .bool x16_2∧Aside0 (protection_valid.j0 kq l1 x16_2 = some r)∧Aside0 (kq≤k)∧Aside0 (Below w.heap.size w wc))
 case first =>
  have H:=HC3.out;clear HC3;replace H:=Option.bind_eq_some_iff.mp H;obtain ⟨t136,A40,H⟩:=H;replace H : (if t136 = 0 then (protection_valid.j0 k l1 ((l1.length : Int) != (l0.length : Int))) else (protection_valid.j0 k l1 true)) = some r:=H;have A4:=Aside0.mk A40;clear A40;by_cases c5 : t136 = 0
  rotate_left
  ·
   rw [if_neg c5] at H;have c5b0 : (t136 == 0) = false:=beq_eq_false_iff_ne.mpr c5;have c5b1 : (t136 != 0) = true:=bne_iff_ne.mpr c5
   (first | rw [c5b0] | (simp only [i64_w,i32_w];rw [c5b0]) | skip)
   have H':=Aside0.mk H;clear H
   go_wp2_with (first | ((with_reducible refine gate_callee (f:=48) rfl ?_);refine goesL_ (some 8) rfl rfl Try.func48 (by kernel_rfl) rfl #[.slice A0 l0.length c0] rfl (by (try simp only [z3_,z4_,z5_]);first | done | rfl | (simp only [z6_,z7_];rfl)) ?_;(with_reducible refine (accounts_Check.calls k _ _ l0 t136 _ ?side1 ?side2 A4.out).mono ?_);(case side1 => repeat (first | exact (Kd.C_below HR0.out HB.out) | (with_reducible refine Kd.C_alloc ?_ _) | (with_reducible refine Kd.C_drewN ?_ _) | (with_reducible refine Kd.C_drew ?_)));(case side2 => exact HC0.out);rintro e w7 ⟨rfl,hb⟩;refine ⟨_,rfl,?_⟩;have n0_:=Aside0.mk (below_step (by repeat (first | (with_reducible first | exact HB.out | apply b0_ | apply b1_ | apply b2_) | exact HB.out)) hb);clear HB;have HB:=n0_;clear n0_))
   go_meet
   case rel => exact ⟨_,(true),(by first | rfl | (simp;done) | (simp [*];done)),H',⟨by first | omega | exact Nat.le_refl _⟩,⟨by repeat (first | (with_reducible first | exact HB.out | apply b0_ | apply b1_ | apply b2_) | exact HB.out)⟩⟩
  rw [if_pos c5] at H;have c5b0 : (t136 == 0) = true:=beq_iff_eq.mpr c5;have c5b1 : (t136 != 0) = false:=bne_eq_false_iff_eq.mpr c5;clear c5
  (first | rw [c5b0] | (simp only [i64_w,i32_w];rw [c5b0]) | skip)
  have H':=Aside0.mk H;clear H
  go_wp2_with (first | ((with_reducible refine gate_callee (f:=48) rfl ?_);refine goesL_ (some 8) rfl rfl Try.func48 (by kernel_rfl) rfl #[.slice A0 l0.length c0] rfl (by (try simp only [z3_,z4_,z5_]);first | done | rfl | (simp only [z6_,z7_];rfl)) ?_;(with_reducible refine (accounts_Check.calls k _ _ l0 t136 _ ?side1 ?side2 A4.out).mono ?_);(case side1 => repeat (first | exact (Kd.C_below HR0.out HB.out) | (with_reducible refine Kd.C_alloc ?_ _) | (with_reducible refine Kd.C_drewN ?_ _) | (with_reducible refine Kd.C_drew ?_)));(case side2 => exact HC0.out);rintro e w6 ⟨rfl,hb⟩;refine ⟨_,rfl,?_⟩;have n0_:=Aside0.mk (below_step (by repeat (first | (with_reducible first | exact HB.out | apply b0_ | apply b1_ | apply b2_) | exact HB.out)) hb);clear HB;have HB:=n0_;clear n0_))
  go_meet
  case rel => exact ⟨_,(((l1.length : Int) != (l0.length : Int))),(by first | rfl | (simp;done) | (simp [*];done)),H',⟨by first | omega | exact Nat.le_refl _⟩,⟨by repeat (first | (with_reducible first | exact HB.out | apply b0_ | apply b1_ | apply b2_) | exact HB.out)⟩⟩
 case rest =>
  clear HC3;obtain ⟨kq,x16_2,rfl,HA,HJ2,HB⟩:=hcut
  cases kq with
   | zero => exact absurd HA.out (by simp [protection_valid.j0])
   | succ kj2 =>
    have H:=HA.out;clear HA;simp only [protection_valid.j0] at H;by_cases c8 : x16_2 = true
    rotate_left
    ·
     replace c8:=Bool.eq_false_iff.mpr c8;subst c8
     have H1 : (protection_valid.l0 kj2 l1 (l1.length : Int) 0) = some r:=by rw [if_neg (show ¬ (false = true) by decide)] at H;exact H
     clear H;have H:=H1;clear H1;have H':=Aside0.mk H;clear H;go_wp2
     go_loopg [19] kj2 (fun kq v19 w' => ∃ (x19_2 : Int),v19 = .int .i64 x19_2∧Aside0 (protection_valid.l0 kq l1 (l1.length : Int) x19_2 = some r)∧Aside0 (kq≤kj2)∧Aside0 (Below w.heap.size w w'))
     case atStart => exact ⟨(0),(by first | rfl | (simp;done) | (simp [*];done)),H',⟨Nat.le_refl _⟩,⟨by repeat (first | (with_reducible first | exact HB.out | apply b0_ | apply b1_ | apply b2_) | exact HB.out)⟩⟩
     case round =>
      clear H';obtain ⟨x19_2,rfl,HA,HK2,HB⟩:=hrel
      cases gk with
       | zero => exact absurd HA.out (by simp [protection_valid.l0])
       | succ k2 =>
        have H:=HA.out;clear HA;simp only [protection_valid.l0] at H;by_cases c9 : x19_2 < (l1.length : Int)
        rotate_left
        · rw [if_neg c9] at H;have c9b0 : decide (x19_2 < (l1.length : Int)) = false:=decide_eq_false c9;clear c9;obtain rfl:=Option.some.inj H;go_wp2;go_ret;exact ⟨by first | rfl | (simp [errW_none,errW_some] <;> rfl) | (simp [*,errW_none,errW_some] <;> rfl),by repeat (first | (with_reducible first | exact HB.out | apply b0_ | apply b1_ | apply b2_) | exact HB.out)⟩
        rw [if_pos c9] at H;have c9b0 : decide (x19_2 < (l1.length : Int)) = true:=decide_eq_true c9;clear c9;by_cases c10 : 0≤x19_2
        rotate_left
        · rw [if_neg c10] at H;exact absurd H (by simp)
        rw [if_pos c10] at H;have c10b0 : decide (0≤x19_2) = true:=decide_eq_true c10;clear c10;by_cases c11 : x19_2 < (l1.length : Int)
        rotate_left
        · rw [if_neg c11] at H;exact absurd H (by simp)
        rw [if_pos c11] at H;have c11b0 : decide (x19_2 < (l1.length : Int)) = true:=decide_eq_true c11;clear c11;have HC12:=Aside0.mk H;clear H;have p137 : 0≤(x19_2 : Int):=of_decide_eq_true (by first | (with_reducible assumption) | assumption);have q137 : x19_2 < (l1.length : Int):=of_decide_eq_true (by first | (with_reducible assumption) | assumption)
        obtain ⟨ad137,e137,hx137_0⟩:=Kd.at_int HR1.out x19_2 p137 q137;cases e137;replace hx137_0:=(HB.out.cell (World.block_lt_of_cell? w _ hx137_0)).trans hx137_0;replace p137:=eq_true p137;replace q137:=eq_true q137
        go_upto_region 6 with (fail)
        go_cut [28] (fun v28 wc => ∃ (kq : Nat) (x28_11 : Bool),v28 = .bool x28_11∧Aside0 (protection_valid.j2 kq l1 (l1.length : Int) x19_2 x28_11 = some r)∧Aside0 (kq≤k2)∧Aside0 (Below w.heap.size w wc))
        case first =>
         have H:=HC12.out;clear HC12;by_cases c13 : (rd l1 x19_2) < 0
         rotate_left
         ·
          rw [if_neg c13] at H;have c13b0 : decide ((rd l1 x19_2) < 0) = false:=decide_eq_false c13;clear c13
          (first | rw [c13b0] | (simp only [i64_w,i32_w];rw [c13b0]) | skip)
          have H':=Aside0.mk H;clear H;go_wp2
          go_meet
          case rel => exact ⟨_,(decide ((rd l1 x19_2) > 1048576)),(by first | rfl | (simp;done) | (simp [*];done)),H',⟨by have:=HJ2.out;have:=HK2.out;first | omega | exact Nat.le_refl _⟩,⟨by repeat (first | (with_reducible first | exact HB.out | apply b0_ | apply b1_ | apply b2_) | exact HB.out)⟩⟩
         rw [if_pos c13] at H;have c13b0 : decide ((rd l1 x19_2) < 0) = true:=decide_eq_true c13;clear c13
         (first | rw [c13b0] | (simp only [i64_w,i32_w];rw [c13b0]) | skip)
         have H':=Aside0.mk H;clear H;go_wp2
         go_meet
         case rel => exact ⟨_,(true),(by first | rfl | (simp;done) | (simp [*];done)),H',⟨by have:=HJ2.out;have:=HK2.out;first | omega | exact Nat.le_refl _⟩,⟨by repeat (first | (with_reducible first | exact HB.out | apply b0_ | apply b1_ | apply b2_) | exact HB.out)⟩⟩
        case rest =>
         clear HC12;obtain ⟨kq,x28_11,rfl,HA,HJ11,HB⟩:=hcut
         cases kq with
          | zero => exact absurd HA.out (by simp [protection_valid.j2])
          | succ kj11 =>
           have H:=HA.out;clear HA;simp only [protection_valid.j2] at H;by_cases c14 : x28_11 = true
           rotate_left
           ·
            replace c14:=Bool.eq_false_iff.mpr c14;subst c14
            have H1 : (protection_valid.l0 kj11 l1 (l1.length : Int) (wrap64 (x19_2 + 1))) = some r:=by rw [if_neg (show ¬ (false = true) by decide)] at H;exact H
            clear H;have H:=H1;clear H1;have H':=Aside0.mk H;clear H;go_wp2
            go_roundg kj11
            case measure => have:=HJ2.out;have:=HK2.out;have:=HJ11.out;omega
            case rel => exact ⟨(wrap64 (x19_2 + 1)),(by first | rfl | (simp;done) | (simp [*];done)),H',⟨by have:=HJ2.out;have:=HK2.out;have:=HJ11.out;omega⟩,⟨by repeat (first | (with_reducible first | exact HB.out | apply b0_ | apply b1_ | apply b2_) | exact HB.out)⟩⟩
           subst c14
           have H1 : (some false) = some r:=by rw [if_pos rfl] at H;exact H
           clear H;have H:=H1;clear H1;obtain rfl:=Option.some.inj H;go_wp2;go_ret;exact ⟨by first | rfl | (simp [errW_none,errW_some] <;> rfl) | (simp [*,errW_none,errW_some] <;> rfl),by repeat (first | (with_reducible first | exact HB.out | apply b0_ | apply b1_ | apply b2_) | exact HB.out)⟩
    subst c8
    have H1 : (some false) = some r:=by rw [if_pos rfl] at H;exact H
    clear H;have H:=H1;clear H1;obtain rfl:=Option.some.inj H;go_wp2;go_ret;exact ⟨by first | rfl | (simp [errW_none,errW_some] <;> rfl) | (simp [*,errW_none,errW_some] <;> rfl),by repeat (first | (with_reducible first | exact HB.out | apply b0_ | apply b1_ | apply b2_) | exact HB.out)⟩
end Go.Proofs.Ytnmenfkmndnoaaa.Pr
