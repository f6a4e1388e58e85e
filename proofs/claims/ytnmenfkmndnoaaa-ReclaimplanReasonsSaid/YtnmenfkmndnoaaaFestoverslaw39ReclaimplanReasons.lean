-- Written by a program of this session (a changed copy of the kit's printer). Not trusted: Lean checks it.
import Derived.Test.YtnmenfkmndnoaaaM0
import Derived.Test.YtnmenfkmndnoaaaFestoverslaw39Few
import Derived.Test.YtnmenfkmndnoaaaFestoversref39Reason
import Derived.Test.YtnmenfkmndnoaaaFestoversref39Same
import Derived.Test.YtnmenfkmndnoaaaFestoversref39Witness
import Derived.Test.YtnmenfkmndnoaaaM2
import Derived.Test.YtnmenfkmndnoaaaM3
namespace Go.Proofs.Ytnmenfkmndnoaaa.Pr
open Go.RowKit Go.Proofs.YtnmenfkmndnoaaaW.PrintWords Go.Proofs.YtnmenfkmndnoaaaW.PrintLast Go.Proofs.YtnmenfkmndnoaaaW.PrintMore
attribute [local go_sem] max2_int min2_int max_two min_two max_three min_three max_four min_four
set_option linter.unusedVariables false
set_option linter.unusedSimpArgs false
def estoverslaw39_ReclaimplanReasons.j0 : Nat→Int→Bool→List (S34)→List (S30)→Int→Bool→Option (Bool)
 | 0,_,_,_,_,_,_ => none
 | k + 1,x1,x11,x306000,x306001,x306002,x306003 => if x11 = true then ((estoverslaw39_awake.f k).bind fun t308 => (some t308)) else ((reclaimplan_Reason.f k x306000 x306001 x306002 x1 x306003).bind fun t309 => ((estoversref39_Reason.f k x306000 x306001 x306002 x1 x306003).bind fun t310 => (if t309 = t310 then ((reclaimplan_Witness.f k x306000 x306001 x306002 x306003).bind fun t311 => ((estoversref39_Witness.f k x306000 x306001 x306002 x306003).bind fun t314 => ((estoversref39_Same.f k t311 t314).bind fun t317 => (some t317)))) else (some false))))
def estoverslaw39_ReclaimplanReasons.f (k : Nat) (l0_0 : List (S34)) (l0_1 : List (S30)) (a0_2 : Int) (a0_3 : Bool) (a1 : Int) : Option (Bool):=(estoverslaw39_awake.f k).bind fun t306 => (if t306 = true then ((estoverslaw39_Few.f l0_0 l0_1 a0_2 a0_3).bind fun t307 => (estoverslaw39_ReclaimplanReasons.j0 k a1 (!t307) l0_0 l0_1 a0_2 a0_3)) else (estoverslaw39_ReclaimplanReasons.j0 k a1 true l0_0 l0_1 a0_2 a0_3))
theorem estoverslaw39_ReclaimplanReasons.mono_l : ∀ k,(∀ y0 y1 y2 y3 y4 y5,LeO (estoverslaw39_ReclaimplanReasons.j0 k y0 y1 y2 y3 y4 y5) (estoverslaw39_ReclaimplanReasons.j0 (k + 1) y0 y1 y2 y3 y4 y5))
 | 0 => fun _ _ _ _ _ _ r h => by simp [estoverslaw39_ReclaimplanReasons.j0] at h
 | k + 1 => by
  have ih0:=estoverslaw39_ReclaimplanReasons.mono_l k
  ·
   intro y0 y1 y2 y3 y4 y5
   unfold estoverslaw39_ReclaimplanReasons.j0
   repeat' first
    | (with_reducible exact ih0 _ _ _ _ _ _)
    | (with_reducible exact estoverslaw39_awake.mono _)
    | (with_reducible exact estoversref39_Reason.mono _ _ _ _ _ _)
    | (with_reducible exact estoversref39_Same.mono _ _ _)
    | (with_reducible exact estoversref39_Witness.mono _ _ _ _ _)
    | (with_reducible exact reclaimplan_Reason.mono _ _ _ _ _ _)
    | (with_reducible exact reclaimplan_Witness.mono _ _ _ _ _)
    | (with_reducible exact LeO.refl _)
    | (with_reducible exact LeO.none _)
    | (with_reducible refine LeO.ite ?_ ?_)
    | (with_reducible refine LeO.bind ?_ (fun _ => ?_))
    | exact ih0 _ _ _ _ _ _
    | exact estoverslaw39_awake.mono _
    | exact estoversref39_Reason.mono _ _ _ _ _ _
    | exact estoversref39_Same.mono _ _ _
    | exact estoversref39_Witness.mono _ _ _ _ _
    | exact reclaimplan_Reason.mono _ _ _ _ _ _
    | exact reclaimplan_Witness.mono _ _ _ _ _
    | exact LeO.none _
    | refine LeO.ite ?_ ?_
    | refine LeO.bind ?_ (fun _ => ?_)
theorem estoverslaw39_ReclaimplanReasons.mono : ∀ a0 a1 a2 a3 a4 k,LeO (estoverslaw39_ReclaimplanReasons.f k a0 a1 a2 a3 a4) (estoverslaw39_ReclaimplanReasons.f (k + 1) a0 a1 a2 a3 a4):=by
 intro a0 a1 a2 a3 a4 k;have ih0:=estoverslaw39_ReclaimplanReasons.mono_l k
 unfold estoverslaw39_ReclaimplanReasons.f
 repeat' first
  | (with_reducible exact ih0 _ _ _ _ _ _)
  | (with_reducible exact estoverslaw39_awake.mono _)
  | (with_reducible exact estoversref39_Reason.mono _ _ _ _ _ _)
  | (with_reducible exact estoversref39_Same.mono _ _ _)
  | (with_reducible exact estoversref39_Witness.mono _ _ _ _ _)
  | (with_reducible exact reclaimplan_Reason.mono _ _ _ _ _ _)
  | (with_reducible exact reclaimplan_Witness.mono _ _ _ _ _)
  | (with_reducible exact LeO.refl _)
  | (with_reducible exact LeO.none _)
  | (with_reducible refine LeO.ite ?_ ?_)
  | (with_reducible refine LeO.bind ?_ (fun _ => ?_))
  | exact ih0 _ _ _ _ _ _
  | exact estoverslaw39_awake.mono _
  | exact estoversref39_Reason.mono _ _ _ _ _ _
  | exact estoversref39_Same.mono _ _ _
  | exact estoversref39_Witness.mono _ _ _ _ _
  | exact reclaimplan_Reason.mono _ _ _ _ _ _
  | exact reclaimplan_Witness.mono _ _ _ _ _
  | exact LeO.none _
  | refine LeO.ite ?_ ?_
  | refine LeO.bind ?_ (fun _ => ?_)
def estoverslaw39_ReclaimplanReasons.T3 : Bool × List (List Nat × List Nat):=(true,[([],[]),([0],[0]),([],[]),([2],[2]),([],[]),([4],[4]),([],[]),([],[]),([7],[7]),([1,3,5,6,8],[1,3,5,6,8]),([],[]),([10],[10]),([],[]),([12],[12]),([],[]),([14],[14]),([],[]),([],[]),([17],[17]),([11,13,15,16,18,9],[11,13,15,16,18]),([9,19],[9,19]),([20,19],[20]),([21],[21]),([22,21],[21,22]),([21],[21]),([24,21],[21,24]),([21],[21]),([26,21],[21,26]),([21],[21]),([28,21],[21,28]),([23,25,27,29,21,21],[21,23,25,27,29]),([21],[21]),([31,21],[21,31]),([21],[21]),([33,21],[21,33]),([21],[21]),([35,21],[21,35]),([21],[21]),([37,21],[21,37]),([32,34,36,38,30,21],[21,32,34,36,38]),([30,39,39,21],[21,30,39]),([21,40],[21,40]),([41,40,0,1,2,3,4,5,6,7,8,9,10,11,12,13,14,15,16,17,18,19,20,21,22,23,24,25,26,27,28,29,30,31,32,33,34,35,36,37,38,39,40,41],[41])])
def estoverslaw39_ReclaimplanReasons.B3 : List Nat:=[0,1,0,4,0,16,0,0,128,511,0,1024,0,4096,0,16384,0,0,131072,524287,1048575,2097151,4194303,8388607,4194303,20971519,4194303,71303167,4194303,272629759,1073741823,4194303,2151677951,4194303,8594128895,4194303,34363932671,4194303,137443147775,549755813887,1099511627775,2199023255551,4398046511103]
theorem estoverslaw39_ReclaimplanReasons.tab3 : rtab .any (opsOf Try.f7 3) = estoverslaw39_ReclaimplanReasons.T3:=by kernel_rfl
theorem estoverslaw39_ReclaimplanReasons.bits3 : waitsOk estoverslaw39_ReclaimplanReasons.T3.2 estoverslaw39_ReclaimplanReasons.B3 = true:=by kernel_rfl
set_option maxHeartbeats 8000000 in
set_option maxRecDepth 100000 in
theorem estoverslaw39_ReclaimplanReasons.calls (k : Nat) (A0_0 : Option Addr) (c0_0 : Nat) (l0_0 : List (S34)) (A0_1 : Option Addr) (c0_1 : Nat) (l0_1 : List (S30)) (a0_2 : Int) (a0_3 : Bool) (a1 : Int) (r : Bool) (w : World) (hr0_0 : Kd.C k34 w A0_0 l0_0.length l0_0) (hc0_0 : l0_0.length≤c0_0) (hr0_1 : Kd.C k30 w A0_1 l0_1.length l0_1) (hc0_1 : l0_1.length≤c0_1) (h : estoverslaw39_ReclaimplanReasons.f k l0_0 l0_1 a0_2 a0_3 a1 = some r) :
 Calls Try.prog 7 #[.agg #[.slice A0_0 l0_0.length c0_0,.slice A0_1 l0_1.length c0_1,.int .i64 a0_2,.bool a0_3],.int .i64 a1] w fun e w' => e = .returned (.bool r)∧Below w.heap.size w w':=by
 have hu37:=Try.underlying37;have HR0_0:=Aside0.mk hr0_0;have HC0_0:=Aside0.mk hc0_0;clear hr0_0 hc0_0;have HR0_1:=Aside0.mk hr0_1;have HC0_1:=Aside0.mk hc0_1;clear hr0_1 hc0_1;have HB:=Aside0.mk (Below.refl w.heap.size w)
 have H : ((estoverslaw39_awake.f k).bind fun t306 => (if t306 = true then ((estoverslaw39_Few.f l0_0 l0_1 a0_2 a0_3).bind fun t307 => (estoverslaw39_ReclaimplanReasons.j0 k a1 (!t307) l0_0 l0_1 a0_2 a0_3)) else (estoverslaw39_ReclaimplanReasons.j0 k a1 true l0_0 l0_1 a0_2 a0_3))) = some r:=h;clear h;have HC3:=Aside0.mk H;clear H
 go_enter Try.func7,Try.ntmps7
 go_upto_region 1 with (first | ((with_reducible refine gate_dst (N:=2) rfl ?_);refine box_event ?hg (N:=2) ?hd (cs:=#[.slice A0_0 l0_0.length c0_0,.slice A0_1 l0_1.length c0_1,.int .i64 a0_2,.bool a0_3]) (t:=37) ?hr ?_;(case hd => rfl);(case hg => rfl);(case hr => first | (go_simp;done) | (go_simp;rfl));intro gb305 hg w4 hbox hb;have n0_:=Aside0.mk (below_step (by repeat (first | (with_reducible first | exact HB.out | apply b0_ | apply b1_ | apply b2_) | exact HB.out)) hb);have n1_:=Aside0.mk (hbox);have n2_:=Aside0.mk ((by rw [hg];exact (below_size (by repeat (first | (with_reducible first | exact HB.out | apply b0_ | apply b1_ | apply b2_) | exact HB.out))) : w.heap.size≤gb305));have n3_:=Aside0.mk ((by rw [hg];exact (below_size (by repeat (first | (with_reducible first | exact HB.out | apply b0_ | apply b1_ | apply b2_) | exact HB.out))) : w.heap.size≤gb305));clear HB;have HB:=n0_;have BK305:=n1_;have GW305:=n2_;have GE305:=n3_;clear n0_ n1_ n2_ n3_;clear hb hbox hg))
 (try simp only [Act.put,List.setIfInBounds_toArray,List.set_cons_zero,List.set_cons_succ])
 go_cut [11] (fun v11 wc => ∃ (kq : Nat) (x11_2 : Bool),v11 = .bool x11_2∧Aside0 (estoverslaw39_ReclaimplanReasons.j0 kq a1 x11_2 l0_0 l0_1 a0_2 a0_3 = some r)∧Aside0 (kq≤k)∧Aside0 (wc.heap[gb305]? = some (.cells #[(.slice A0_0 l0_0.length c0_0),(.slice A0_1 l0_1.length c0_1),.int .i64 a0_2,.bool a0_3] 37 (0,0)))∧Aside0 (Below w.heap.size w wc))
 case first =>
  have H:=HC3.out;clear HC3;replace H:=Option.bind_eq_some_iff.mp H;obtain ⟨t306,A50,H⟩:=H;replace H : (if t306 = true then ((estoverslaw39_Few.f l0_0 l0_1 a0_2 a0_3).bind fun t307 => (estoverslaw39_ReclaimplanReasons.j0 k a1 (!t307) l0_0 l0_1 a0_2 a0_3)) else (estoverslaw39_ReclaimplanReasons.j0 k a1 true l0_0 l0_1 a0_2 a0_3)) = some r:=H;have A5:=Aside0.mk A50;clear A50
  by_cases c6 : t306 = true
  rotate_left
  ·
   replace c6:=Bool.eq_false_iff.mpr c6;subst c6
   have H1 : (estoverslaw39_ReclaimplanReasons.j0 k a1 true l0_0 l0_1 a0_2 a0_3) = some r:=by rw [if_neg (show ¬ (false = true) by decide)] at H;exact H
   clear H;have H:=H1;clear H1;have H':=Aside0.mk H;clear H
   go_wp2_with (first | ((with_reducible refine gate_callee (f:=29) rfl ?_);refine goesL_ (some 5) rfl rfl Try.func29 (by kernel_rfl) rfl #[] rfl (by (try simp only [z3_,z4_,z5_]);first | done | rfl | (simp only [z6_,z7_];rfl)) ?_;(with_reducible refine (estoverslaw39_awake.calls k  false _ A5.out).mono ?_);rintro e w11 ⟨rfl,hb⟩;refine ⟨_,rfl,?_⟩;have n0_:=Aside0.mk (blk_below (g:=gb305) (o:=.cells #[.slice A0_0 l0_0.length c0_0,.slice A0_1 l0_1.length c0_1,.int .i64 a0_2,.bool a0_3] 37 (0,0)) (by (with_reducible repeat (first | refine blk_drewN ?_ _ | refine blk_drew ?_ | refine blk_alloc ?_ _));exact BK305.out) hb);have n1_:=Aside0.mk (below_step (by repeat (first | (with_reducible first | exact HB.out | apply b0_ | apply b1_ | apply b2_ | refine below_set ?_ GE305.out) | exact HB.out)) hb);clear BK305;clear HB;have BK305:=n0_;have HB:=n1_;clear n0_ n1_))
   go_meet
   case rel => exact ⟨_,(true),(by first | rfl | (simp;done) | (simp [*];done)),H',⟨by first | omega | exact Nat.le_refl _⟩,⟨by (with_reducible repeat (first | refine blk_drewN ?_ _ | refine blk_drew ?_ | refine blk_alloc ?_ _));exact BK305.out⟩,⟨by repeat (first | (with_reducible first | exact HB.out | apply b0_ | apply b1_ | apply b2_ | refine below_set ?_ GE305.out) | exact HB.out)⟩⟩
  subst c6
  have H1 : ((estoverslaw39_Few.f l0_0 l0_1 a0_2 a0_3).bind fun t307 => (estoverslaw39_ReclaimplanReasons.j0 k a1 (!t307) l0_0 l0_1 a0_2 a0_3)) = some r:=by rw [if_pos rfl] at H;exact H
  clear H;have H:=H1;clear H1;replace H:=Option.bind_eq_some_iff.mp H;obtain ⟨t307,A70,H⟩:=H;replace H : (estoverslaw39_ReclaimplanReasons.j0 k a1 (!t307) l0_0 l0_1 a0_2 a0_3) = some r:=H;have A7:=Aside0.mk A70;clear A70;have H':=Aside0.mk H;clear H
  go_wp2_with (first | ((with_reducible refine gate_callee (f:=29) rfl ?_);refine goesL_ (some 5) rfl rfl Try.func29 (by kernel_rfl) rfl #[] rfl (by (try simp only [z3_,z4_,z5_]);first | done | rfl | (simp only [z6_,z7_];rfl)) ?_;(with_reducible refine (estoverslaw39_awake.calls k  true _ A5.out).mono ?_);rintro e w8 ⟨rfl,hb⟩;refine ⟨_,rfl,?_⟩;have n0_:=Aside0.mk (blk_below (g:=gb305) (o:=.cells #[.slice A0_0 l0_0.length c0_0,.slice A0_1 l0_1.length c0_1,.int .i64 a0_2,.bool a0_3] 37 (0,0)) (by (with_reducible repeat (first | refine blk_drewN ?_ _ | refine blk_drew ?_ | refine blk_alloc ?_ _));exact BK305.out) hb);have n1_:=Aside0.mk (below_step (by repeat (first | (with_reducible first | exact HB.out | apply b0_ | apply b1_ | apply b2_ | refine below_set ?_ GE305.out) | exact HB.out)) hb);clear BK305;clear HB;have BK305:=n0_;have HB:=n1_;clear n0_ n1_;obtain ⟨hcz9_0,hcz9_1,hcz9_2,hcz9_3,hfz9_0,hfz9_1,hfz9_2,hfz9_3⟩:=q4_ BK305.out) | (go_at_call 21;(with_reducible refine (estoverslaw39_Few.calls _ _ l0_0 _ _ l0_1 a0_2 a0_3 t307 _ ?side1 ?side2 ?side3 ?side4 A7.out).mono ?_);(case side1 => repeat (first | exact (Kd.C_below HR0_0.out HB.out) | (with_reducible refine Kd.C_alloc ?_ _) | (with_reducible refine Kd.C_drewN ?_ _) | (with_reducible refine Kd.C_drew ?_)));(case side2 => exact HC0_0.out);(case side3 => repeat (first | exact (Kd.C_below HR0_1.out HB.out) | (with_reducible refine Kd.C_alloc ?_ _) | (with_reducible refine Kd.C_drewN ?_ _) | (with_reducible refine Kd.C_drew ?_)));(case side4 => exact HC0_1.out);rintro e w10 ⟨rfl,hb⟩;have n0_:=Aside0.mk (blk_below (g:=gb305) (o:=.cells #[.slice A0_0 l0_0.length c0_0,.slice A0_1 l0_1.length c0_1,.int .i64 a0_2,.bool a0_3] 37 (0,0)) (by (with_reducible repeat (first | refine blk_drewN ?_ _ | refine blk_drew ?_ | refine blk_alloc ?_ _));exact BK305.out) hb);have n1_:=Aside0.mk (below_step (by repeat (first | (with_reducible first | exact HB.out | apply b0_ | apply b1_ | apply b2_ | refine below_set ?_ GE305.out) | exact HB.out)) hb);clear BK305;clear HB;have BK305:=n0_;have HB:=n1_;clear n0_ n1_))
  go_meet
  case rel => exact ⟨_,(!t307),(by first | rfl | (simp;done) | (simp [*];done)),H',⟨by first | omega | exact Nat.le_refl _⟩,⟨by (with_reducible repeat (first | refine blk_drewN ?_ _ | refine blk_drew ?_ | refine blk_alloc ?_ _));exact BK305.out⟩,⟨by repeat (first | (with_reducible first | exact HB.out | apply b0_ | apply b1_ | apply b2_ | refine below_set ?_ GE305.out) | exact HB.out)⟩⟩
 case rest =>
  clear HC3;obtain ⟨kq,x11_2,rfl,HA,HJ2,BK305,HB⟩:=hcut
  cases kq with
   | zero => exact absurd HA.out (by simp [estoverslaw39_ReclaimplanReasons.j0])
   | succ kj2 =>
    have H:=HA.out;clear HA;simp only [estoverslaw39_ReclaimplanReasons.j0] at H;by_cases c12 : x11_2 = true
    rotate_left
    ·
     replace c12:=Bool.eq_false_iff.mpr c12;subst c12
     have H1 : ((reclaimplan_Reason.f kj2 l0_0 l0_1 a0_2 a1 a0_3).bind fun t309 => ((estoversref39_Reason.f kj2 l0_0 l0_1 a0_2 a1 a0_3).bind fun t310 => (if t309 = t310 then ((reclaimplan_Witness.f kj2 l0_0 l0_1 a0_2 a0_3).bind fun t311 => ((estoversref39_Witness.f kj2 l0_0 l0_1 a0_2 a0_3).bind fun t314 => ((estoversref39_Same.f kj2 t311 t314).bind fun t317 => (some t317)))) else (some false)))) = some r:=by rw [if_neg (show ¬ (false = true) by decide)] at H;exact H
     clear H;have H:=H1;clear H1;replace H:=Option.bind_eq_some_iff.mp H;obtain ⟨t309,A150,H⟩:=H
     replace H : ((estoversref39_Reason.f kj2 l0_0 l0_1 a0_2 a1 a0_3).bind fun t310 => (if t309 = t310 then ((reclaimplan_Witness.f kj2 l0_0 l0_1 a0_2 a0_3).bind fun t311 => ((estoversref39_Witness.f kj2 l0_0 l0_1 a0_2 a0_3).bind fun t314 => ((estoversref39_Same.f kj2 t311 t314).bind fun t317 => (some t317)))) else (some false))) = some r:=H;have A15:=Aside0.mk A150;clear A150
     replace H:=Option.bind_eq_some_iff.mp H;obtain ⟨t310,A160,H⟩:=H;replace H : (if t309 = t310 then ((reclaimplan_Witness.f kj2 l0_0 l0_1 a0_2 a0_3).bind fun t311 => ((estoversref39_Witness.f kj2 l0_0 l0_1 a0_2 a0_3).bind fun t314 => ((estoversref39_Same.f kj2 t311 t314).bind fun t317 => (some t317)))) else (some false)) = some r:=H;have A16:=Aside0.mk A160;clear A160
     by_cases c17 : t309 = t310
     rotate_left
     ·
      rw [if_neg c17] at H;have c17b0 : (t309 == t310) = false:=beq_eq_false_iff_ne.mpr c17;have c17b1 : (t309 != t310) = true:=bne_iff_ne.mpr c17;obtain rfl:=Option.some.inj H
      try go_wp2
      have n0_:=Aside0.mk (blk_drew BK305.out);have n1_:=Aside0.mk (b2_ HB.out);clear BK305;clear HB;have BK305:=n0_;have HB:=n1_;clear n0_ n1_
      refine start_ (n:=43) (S:=fun w' => w'.cell? ⟨gb305,0,none⟩ = some (.slice A0_0 l0_0.length c0_0)∧w'.cell? ⟨gb305,1,none⟩ = some (.slice A0_1 l0_1.length c0_1)∧w'.cell? ⟨gb305,2,none⟩ = some (.int .i64 a0_2)∧w'.cell? ⟨gb305,3,none⟩ = some (.bool a0_3)) (ds:=[]) #[F0,F0,F0,F0,F0,F0,F0,F0,F0,F0,F0,F0,F0,F0,F0,F0,F0,F0,F0,F0,F0,F0,F0,F0,F0,F0,F0,F0,F0,F0,F0,F0,F0,F0,F0,F0,F0,F0,F0,F0,F0,F0,F0] (by kernel_rfl) rfl rfl ⟨(blk_cell BK305.out 0).trans rfl,(blk_cell BK305.out 1).trans rfl,(blk_cell BK305.out 2).trans rfl,(blk_cell BK305.out 3).trans rfl⟩ (fun hHeld => ?_);refine with_tabW estoverslaw39_ReclaimplanReasons.tab3 estoverslaw39_ReclaimplanReasons.bits3 (fun HT_ HW_ => ?_)
      generalize wc.drew = w28 at BK305 HB hHeld ⊢;refine pure_ (i:=0) (N:=some 13) (v:=?_) (a':=?_) #[T0,F0,F0,F0,F0,F0,F0,F0,F0,F0,F0,F0,F0,F0,F0,F0,F0,F0,F0,F0,F0,F0,F0,F0,F0,F0,F0,F0,F0,F0,F0,F0,F0,F0,F0,F0,F0,F0,F0,F0,F0,F0,F0] rfl rfl (any_of HT_.out (by kernel_rfl)) (fun _ _ _ h => h) (Or.inl ⟨by rfl,?_⟩) ?_ ?_
      rotate_left
      · intro w';go_simp;with_reducible rfl
      rotate_left
      · simp only [Act.put,z0_,z1_,z2_,i64_w,i32_w];rfl
      refine pure_ (i:=2) (N:=some 15) (v:=?_) (a':=?_) #[T0,F0,T0,F0,F0,F0,F0,F0,F0,F0,F0,F0,F0,F0,F0,F0,F0,F0,F0,F0,F0,F0,F0,F0,F0,F0,F0,F0,F0,F0,F0,F0,F0,F0,F0,F0,F0,F0,F0,F0,F0,F0,F0] rfl rfl (any_of HT_.out (by kernel_rfl)) (fun _ _ _ h => h) (Or.inl ⟨by rfl,?_⟩) ?_ ?_
      rotate_left
      · intro w';go_simp;with_reducible rfl
      rotate_left
      · simp only [Act.put,z0_,z1_,z2_,i64_w,i32_w];rfl
      refine pure_ (i:=4) (N:=some 17) (v:=?_) (a':=?_) #[T0,F0,T0,F0,T0,F0,F0,F0,F0,F0,F0,F0,F0,F0,F0,F0,F0,F0,F0,F0,F0,F0,F0,F0,F0,F0,F0,F0,F0,F0,F0,F0,F0,F0,F0,F0,F0,F0,F0,F0,F0,F0,F0] rfl rfl (any_of HT_.out (by kernel_rfl)) (fun _ _ _ h => h) (Or.inl ⟨by rfl,?_⟩) ?_ ?_
      rotate_left
      · intro w';go_simp;with_reducible rfl
      rotate_left
      · simp only [Act.put,z0_,z1_,z2_,i64_w,i32_w];rfl
      refine pure_ (i:=6) (N:=some 19) (v:=?_) (a':=?_) #[T0,F0,T0,F0,T0,F0,T0,F0,F0,F0,F0,F0,F0,F0,F0,F0,F0,F0,F0,F0,F0,F0,F0,F0,F0,F0,F0,F0,F0,F0,F0,F0,F0,F0,F0,F0,F0,F0,F0,F0,F0,F0,F0] rfl rfl (any_of HT_.out (by kernel_rfl)) (fun _ _ _ h => h) (Or.inl ⟨by rfl,?_⟩) ?_ ?_
      rotate_left
      · intro w';go_simp;with_reducible rfl
      rotate_left
      · simp only [Act.put,z0_,z1_,z2_,i64_w,i32_w];rfl
      refine pure_ (i:=7) (N:=some 20) (v:=?_) (a':=?_) #[T0,F0,T0,F0,T0,F0,T0,T0,F0,F0,F0,F0,F0,F0,F0,F0,F0,F0,F0,F0,F0,F0,F0,F0,F0,F0,F0,F0,F0,F0,F0,F0,F0,F0,F0,F0,F0,F0,F0,F0,F0,F0,F0] rfl rfl (any_of HT_.out (by kernel_rfl)) (fun _ _ _ h => h) (Or.inl ⟨by rfl,?_⟩) ?_ ?_
      rotate_left
      · intro w';go_simp;with_reducible rfl
      rotate_left
      · simp only [Act.put,z0_,z1_,z2_,i64_w,i32_w];rfl
      refine pure_ (i:=10) (N:=some 23) (v:=?_) (a':=?_) #[T0,F0,T0,F0,T0,F0,T0,T0,F0,F0,T0,F0,F0,F0,F0,F0,F0,F0,F0,F0,F0,F0,F0,F0,F0,F0,F0,F0,F0,F0,F0,F0,F0,F0,F0,F0,F0,F0,F0,F0,F0,F0,F0] rfl rfl (any_of HT_.out (by kernel_rfl)) (fun _ _ _ h => h) (Or.inl ⟨by rfl,?_⟩) ?_ ?_
      rotate_left
      · intro w';go_simp;with_reducible rfl
      rotate_left
      · simp only [Act.put,z0_,z1_,z2_,i64_w,i32_w];rfl
      refine pure_ (i:=12) (N:=some 25) (v:=?_) (a':=?_) #[T0,F0,T0,F0,T0,F0,T0,T0,F0,F0,T0,F0,T0,F0,F0,F0,F0,F0,F0,F0,F0,F0,F0,F0,F0,F0,F0,F0,F0,F0,F0,F0,F0,F0,F0,F0,F0,F0,F0,F0,F0,F0,F0] rfl rfl (any_of HT_.out (by kernel_rfl)) (fun _ _ _ h => h) (Or.inl ⟨by rfl,?_⟩) ?_ ?_
      rotate_left
      · intro w';go_simp;with_reducible rfl
      rotate_left
      · simp only [Act.put,z0_,z1_,z2_,i64_w,i32_w];rfl
      refine pure_ (i:=14) (N:=some 27) (v:=?_) (a':=?_) #[T0,F0,T0,F0,T0,F0,T0,T0,F0,F0,T0,F0,T0,F0,T0,F0,F0,F0,F0,F0,F0,F0,F0,F0,F0,F0,F0,F0,F0,F0,F0,F0,F0,F0,F0,F0,F0,F0,F0,F0,F0,F0,F0] rfl rfl (any_of HT_.out (by kernel_rfl)) (fun _ _ _ h => h) (Or.inl ⟨by rfl,?_⟩) ?_ ?_
      rotate_left
      · intro w';go_simp;with_reducible rfl
      rotate_left
      · simp only [Act.put,z0_,z1_,z2_,i64_w,i32_w];rfl
      refine pure_ (i:=16) (N:=some 29) (v:=?_) (a':=?_) #[T0,F0,T0,F0,T0,F0,T0,T0,F0,F0,T0,F0,T0,F0,T0,F0,T0,F0,F0,F0,F0,F0,F0,F0,F0,F0,F0,F0,F0,F0,F0,F0,F0,F0,F0,F0,F0,F0,F0,F0,F0,F0,F0] rfl rfl (any_of HT_.out (by kernel_rfl)) (fun _ _ _ h => h) (Or.inl ⟨by rfl,?_⟩) ?_ ?_
      rotate_left
      · intro w';go_simp;with_reducible rfl
      rotate_left
      · simp only [Act.put,z0_,z1_,z2_,i64_w,i32_w];rfl
      refine pure_ (i:=17) (N:=some 30) (v:=?_) (a':=?_) #[T0,F0,T0,F0,T0,F0,T0,T0,F0,F0,T0,F0,T0,F0,T0,F0,T0,T0,F0,F0,F0,F0,F0,F0,F0,F0,F0,F0,F0,F0,F0,F0,F0,F0,F0,F0,F0,F0,F0,F0,F0,F0,F0] rfl rfl (any_of HT_.out (by kernel_rfl)) (fun _ _ _ h => h) (Or.inl ⟨by rfl,?_⟩) ?_ ?_
      rotate_left
      · intro w';go_simp;with_reducible rfl
      rotate_left
      · simp only [Act.put,z0_,z1_,z2_,i64_w,i32_w];rfl
      refine take_ (i:=1) (N:=some 14) (v:=?_) (a':=?_) #[T0,T0,T0,F0,T0,F0,T0,T0,F0,F0,T0,F0,T0,F0,T0,F0,T0,T0,F0,F0,F0,F0,F0,F0,F0,F0,F0,F0,F0,F0,F0,F0,F0,F0,F0,F0,F0,F0,F0,F0,F0,F0,F0] rfl rfl (take_ofW HT_.out HW_.out (by kernel_rfl)) (fun _ _ _ h => h) (Or.inl ⟨by rfl,?_⟩) hHeld ?_ ?_
      rotate_left
      ·
       rintro w' ⟨s0,s1,s2,s3⟩
       go_simp;with_reducible rfl
      rotate_left
      · simp only [Act.put,z0_,z1_,z2_,i64_w,i32_w];rfl
      refine take_ (i:=3) (N:=some 16) (v:=?_) (a':=?_) #[T0,T0,T0,T0,T0,F0,T0,T0,F0,F0,T0,F0,T0,F0,T0,F0,T0,T0,F0,F0,F0,F0,F0,F0,F0,F0,F0,F0,F0,F0,F0,F0,F0,F0,F0,F0,F0,F0,F0,F0,F0,F0,F0] rfl rfl (take_ofW HT_.out HW_.out (by kernel_rfl)) (fun _ _ _ h => h) (Or.inl ⟨by rfl,?_⟩) hHeld ?_ ?_
      rotate_left
      ·
       rintro w' ⟨s0,s1,s2,s3⟩
       go_simp;with_reducible rfl
      rotate_left
      · simp only [Act.put,z0_,z1_,z2_,i64_w,i32_w];rfl
      refine take_ (i:=5) (N:=some 18) (v:=?_) (a':=?_) #[T0,T0,T0,T0,T0,T0,T0,T0,F0,F0,T0,F0,T0,F0,T0,F0,T0,T0,F0,F0,F0,F0,F0,F0,F0,F0,F0,F0,F0,F0,F0,F0,F0,F0,F0,F0,F0,F0,F0,F0,F0,F0,F0] rfl rfl (take_ofW HT_.out HW_.out (by kernel_rfl)) (fun _ _ _ h => h) (Or.inl ⟨by rfl,?_⟩) hHeld ?_ ?_
      rotate_left
      ·
       rintro w' ⟨s0,s1,s2,s3⟩
       go_simp;with_reducible rfl
      rotate_left
      · simp only [Act.put,z0_,z1_,z2_,i64_w,i32_w];rfl
      refine take_ (i:=8) (N:=some 21) (v:=?_) (a':=?_) #[T0,T0,T0,T0,T0,T0,T0,T0,T0,F0,T0,F0,T0,F0,T0,F0,T0,T0,F0,F0,F0,F0,F0,F0,F0,F0,F0,F0,F0,F0,F0,F0,F0,F0,F0,F0,F0,F0,F0,F0,F0,F0,F0] rfl rfl (take_ofW HT_.out HW_.out (by kernel_rfl)) (fun _ _ _ h => h) (Or.inl ⟨by rfl,?_⟩) hHeld ?_ ?_
      rotate_left
      ·
       rintro w' ⟨s0,s1,s2,s3⟩
       go_simp;with_reducible rfl
      rotate_left
      · simp only [Act.put,z0_,z1_,z2_,i64_w,i32_w];rfl
      refine take_ (i:=11) (N:=some 24) (v:=?_) (a':=?_) #[T0,T0,T0,T0,T0,T0,T0,T0,T0,F0,T0,T0,T0,F0,T0,F0,T0,T0,F0,F0,F0,F0,F0,F0,F0,F0,F0,F0,F0,F0,F0,F0,F0,F0,F0,F0,F0,F0,F0,F0,F0,F0,F0] rfl rfl (take_ofW HT_.out HW_.out (by kernel_rfl)) (fun _ _ _ h => h) (Or.inl ⟨by rfl,?_⟩) hHeld ?_ ?_
      rotate_left
      ·
       rintro w' ⟨s0,s1,s2,s3⟩
       go_simp;with_reducible rfl
      rotate_left
      · simp only [Act.put,z0_,z1_,z2_,i64_w,i32_w];rfl
      refine take_ (i:=13) (N:=some 26) (v:=?_) (a':=?_) #[T0,T0,T0,T0,T0,T0,T0,T0,T0,F0,T0,T0,T0,T0,T0,F0,T0,T0,F0,F0,F0,F0,F0,F0,F0,F0,F0,F0,F0,F0,F0,F0,F0,F0,F0,F0,F0,F0,F0,F0,F0,F0,F0] rfl rfl (take_ofW HT_.out HW_.out (by kernel_rfl)) (fun _ _ _ h => h) (Or.inl ⟨by rfl,?_⟩) hHeld ?_ ?_
      rotate_left
      ·
       rintro w' ⟨s0,s1,s2,s3⟩
       go_simp;with_reducible rfl
      rotate_left
      · simp only [Act.put,z0_,z1_,z2_,i64_w,i32_w];rfl
      refine take_ (i:=15) (N:=some 28) (v:=?_) (a':=?_) #[T0,T0,T0,T0,T0,T0,T0,T0,T0,F0,T0,T0,T0,T0,T0,T0,T0,T0,F0,F0,F0,F0,F0,F0,F0,F0,F0,F0,F0,F0,F0,F0,F0,F0,F0,F0,F0,F0,F0,F0,F0,F0,F0] rfl rfl (take_ofW HT_.out HW_.out (by kernel_rfl)) (fun _ _ _ h => h) (Or.inl ⟨by rfl,?_⟩) hHeld ?_ ?_
      rotate_left
      ·
       rintro w' ⟨s0,s1,s2,s3⟩
       go_simp;with_reducible rfl
      rotate_left
      · simp only [Act.put,z0_,z1_,z2_,i64_w,i32_w];rfl
      refine take_ (i:=18) (N:=some 31) (v:=?_) (a':=?_) #[T0,T0,T0,T0,T0,T0,T0,T0,T0,F0,T0,T0,T0,T0,T0,T0,T0,T0,T0,F0,F0,F0,F0,F0,F0,F0,F0,F0,F0,F0,F0,F0,F0,F0,F0,F0,F0,F0,F0,F0,F0,F0,F0] rfl rfl (take_ofW HT_.out HW_.out (by kernel_rfl)) (fun _ _ _ h => h) (Or.inl ⟨by rfl,?_⟩) hHeld ?_ ?_
      rotate_left
      ·
       rintro w' ⟨s0,s1,s2,s3⟩
       go_simp;with_reducible rfl
      rotate_left
      · simp only [Act.put,z0_,z1_,z2_,i64_w,i32_w];rfl
      refine one_ (i:=9) (N:=some 22) #[T0,T0,T0,T0,T0,T0,T0,T0,T0,T0,T0,T0,T0,T0,T0,T0,T0,T0,T0,F0,F0,F0,F0,F0,F0,F0,F0,F0,F0,F0,F0,F0,F0,F0,F0,F0,F0,F0,F0,F0,F0,F0,F0] rfl rfl (one_of HT_.out (by kernel_rfl)) (by decide) (fun K hK => ?_)
      refine goes_ Try.func33 (by kernel_rfl) rfl #[.slice A0_0 l0_0.length c0_0,.slice A0_1 l0_1.length c0_1,.int .i64 a0_2,.int .i64 a1,.bool a0_3] (by rfl) rfl rfl (by (try simp only [z3_,z4_,z5_]);first | done | rfl | (simp only [z6_,z7_];rfl)) ?_
      with_reducible refine (reclaimplan_Reason.calls kj2 _ _ l0_0 _ _ l0_1 a0_2 a1 a0_3 t309 _ ?side1 ?side2 ?side3 ?side4 A15.out).mono ?_
      (case side1 => repeat (first | exact (Kd.C_below HR0_0.out HB.out) | (with_reducible refine Kd.C_alloc ?_ _) | (with_reducible refine Kd.C_drewN ?_ _) | (with_reducible refine Kd.C_drew ?_)))
      (case side2 => exact HC0_0.out)
      (case side3 => repeat (first | exact (Kd.C_below HR0_1.out HB.out) | (with_reducible refine Kd.C_alloc ?_ _) | (with_reducible refine Kd.C_drewN ?_ _) | (with_reducible refine Kd.C_drew ?_)))
      (case side4 => exact HC0_1.out)
      rintro e w29 ⟨rfl,hb⟩
      refine ⟨_,rfl,?_⟩;have n0_:=Aside0.mk (blk_below (g:=gb305) (o:=.cells #[.slice A0_0 l0_0.length c0_0,.slice A0_1 l0_1.length c0_1,.int .i64 a0_2,.bool a0_3] 37 (0,0)) (by (with_reducible repeat (first | refine blk_drewN ?_ _ | refine blk_drew ?_ | refine blk_alloc ?_ _));exact BK305.out) hb)
      have n1_:=Aside0.mk (below_step (by repeat (first | (with_reducible first | exact HB.out | apply b0_ | apply b1_ | apply b2_ | refine below_set ?_ GE305.out) | exact HB.out)) hb);clear BK305;clear HB;have BK305:=n0_;have HB:=n1_;clear n0_ n1_
      (try clear hb)
      (try clear hb2)
      (try clear hk)
      (try clear hi)
      refine hK.out _ _ ⟨(blk_cell BK305.out 0).trans rfl,(blk_cell BK305.out 1).trans rfl,(blk_cell BK305.out 2).trans rfl,(blk_cell BK305.out 3).trans rfl⟩ (fun hHeld => ?_);clear hK K;refine norm_ (a':=?_) ?_ ?_
      rotate_left
      ·
       show Act.put _ (some 22) _ = _
       simp only [Act.put,z0_,z1_,z2_,i64_w,i32_w];rfl
      refine one_ (i:=19) (N:=some 32) #[T0,T0,T0,T0,T0,T0,T0,T0,T0,T0,T0,T0,T0,T0,T0,T0,T0,T0,T0,T0,F0,F0,F0,F0,F0,F0,F0,F0,F0,F0,F0,F0,F0,F0,F0,F0,F0,F0,F0,F0,F0,F0,F0] rfl rfl (one_of HT_.out (by kernel_rfl)) (by decide) (fun K hK => ?_)
      refine goes_ Try.func34 (by kernel_rfl) rfl #[.slice A0_0 l0_0.length c0_0,.slice A0_1 l0_1.length c0_1,.int .i64 a0_2,.int .i64 a1,.bool a0_3] (by rfl) rfl rfl (by (try simp only [z3_,z4_,z5_]);first | done | rfl | (simp only [z6_,z7_];rfl)) ?_
      with_reducible refine (estoversref39_Reason.calls kj2 _ _ l0_0 _ _ l0_1 a0_2 a1 a0_3 t310 _ ?side1 ?side2 ?side3 ?side4 A16.out).mono ?_
      (case side1 => repeat (first | exact (Kd.C_below HR0_0.out HB.out) | (with_reducible refine Kd.C_alloc ?_ _) | (with_reducible refine Kd.C_drewN ?_ _) | (with_reducible refine Kd.C_drew ?_)))
      (case side2 => exact HC0_0.out)
      (case side3 => repeat (first | exact (Kd.C_below HR0_1.out HB.out) | (with_reducible refine Kd.C_alloc ?_ _) | (with_reducible refine Kd.C_drewN ?_ _) | (with_reducible refine Kd.C_drew ?_)))
      (case side4 => exact HC0_1.out)
      rintro e w30 ⟨rfl,hb⟩
      refine ⟨_,rfl,?_⟩;have n0_:=Aside0.mk (blk_below (g:=gb305) (o:=.cells #[.slice A0_0 l0_0.length c0_0,.slice A0_1 l0_1.length c0_1,.int .i64 a0_2,.bool a0_3] 37 (0,0)) (by (with_reducible repeat (first | refine blk_drewN ?_ _ | refine blk_drew ?_ | refine blk_alloc ?_ _));exact BK305.out) hb)
      have n1_:=Aside0.mk (below_step (by repeat (first | (with_reducible first | exact HB.out | apply b0_ | apply b1_ | apply b2_ | refine below_set ?_ GE305.out) | exact HB.out)) hb);clear BK305;clear HB;have BK305:=n0_;have HB:=n1_;clear n0_ n1_
      (try clear hb)
      (try clear hb2)
      (try clear hk)
      (try clear hi)
      refine hK.out _ _ ⟨(blk_cell BK305.out 0).trans rfl,(blk_cell BK305.out 1).trans rfl,(blk_cell BK305.out 2).trans rfl,(blk_cell BK305.out 3).trans rfl⟩ (fun hHeld => ?_);clear hK K;refine norm_ (a':=?_) ?_ ?_
      rotate_left
      ·
       show Act.put _ (some 32) _ = _
       simp only [Act.put,z0_,z1_,z2_,i64_w,i32_w];rfl
      refine pure_ (i:=20) (N:=some 33) (v:=?_) (a':=?_) #[T0,T0,T0,T0,T0,T0,T0,T0,T0,T0,T0,T0,T0,T0,T0,T0,T0,T0,T0,T0,T0,F0,F0,F0,F0,F0,F0,F0,F0,F0,F0,F0,F0,F0,F0,F0,F0,F0,F0,F0,F0,F0,F0] rfl rfl (any_of HT_.out (by kernel_rfl)) (fun _ _ _ h => h) (Or.inl ⟨by rfl,?_⟩) ?_ ?_
      rotate_left
      · intro w';go_simp;with_reducible rfl
      rotate_left
      · simp only [Act.put,z0_,z1_,z2_,i64_w,i32_w];rfl
      refine pure_ (i:=21) (N:=some 34) (v:=?_) (a':=?_) #[T0,T0,T0,T0,T0,T0,T0,T0,T0,T0,T0,T0,T0,T0,T0,T0,T0,T0,T0,T0,T0,T0,F0,F0,F0,F0,F0,F0,F0,F0,F0,F0,F0,F0,F0,F0,F0,F0,F0,F0,F0,F0,F0] rfl rfl (any_of HT_.out (by kernel_rfl)) (fun _ _ _ h => h) (Or.inl ⟨by rfl,?_⟩) ?_ ?_
      rotate_left
      · intro w';go_simp;with_reducible rfl
      rotate_left
      · simp only [Act.put,z0_,z1_,z2_,i64_w,i32_w];rfl
      refine pure_ (i:=22) (N:=some 35) (v:=undef) (a':=?_) #[T0,T0,T0,T0,T0,T0,T0,T0,T0,T0,T0,T0,T0,T0,T0,T0,T0,T0,T0,T0,T0,T0,T0,F0,F0,F0,F0,F0,F0,F0,F0,F0,F0,F0,F0,F0,F0,F0,F0,F0,F0,F0,F0] rfl rfl (any_of HT_.out (by kernel_rfl)) (fun _ _ _ h => h) (Or.inr ⟨by rfl,rfl⟩) ?_ ?_
      rotate_left
      · simp only [Act.put,z0_,z1_,z2_,i64_w,i32_w];rfl
      refine pure_ (i:=23) (N:=some 36) (v:=undef) (a':=?_) #[T0,T0,T0,T0,T0,T0,T0,T0,T0,T0,T0,T0,T0,T0,T0,T0,T0,T0,T0,T0,T0,T0,T0,T0,F0,F0,F0,F0,F0,F0,F0,F0,F0,F0,F0,F0,F0,F0,F0,F0,F0,F0,F0] rfl rfl (any_of HT_.out (by kernel_rfl)) (fun _ _ _ h => h) (Or.inr ⟨by rfl,rfl⟩) ?_ ?_
      rotate_left
      · simp only [Act.put,z0_,z1_,z2_,i64_w,i32_w];rfl
      refine pure_ (i:=24) (N:=some 37) (v:=undef) (a':=?_) #[T0,T0,T0,T0,T0,T0,T0,T0,T0,T0,T0,T0,T0,T0,T0,T0,T0,T0,T0,T0,T0,T0,T0,T0,T0,F0,F0,F0,F0,F0,F0,F0,F0,F0,F0,F0,F0,F0,F0,F0,F0,F0,F0] rfl rfl (any_of HT_.out (by kernel_rfl)) (fun _ _ _ h => h) (Or.inr ⟨by rfl,rfl⟩) ?_ ?_
      rotate_left
      · simp only [Act.put,z0_,z1_,z2_,i64_w,i32_w];rfl
      refine pure_ (i:=25) (N:=some 38) (v:=undef) (a':=?_) #[T0,T0,T0,T0,T0,T0,T0,T0,T0,T0,T0,T0,T0,T0,T0,T0,T0,T0,T0,T0,T0,T0,T0,T0,T0,T0,F0,F0,F0,F0,F0,F0,F0,F0,F0,F0,F0,F0,F0,F0,F0,F0,F0] rfl rfl (any_of HT_.out (by kernel_rfl)) (fun _ _ _ h => h) (Or.inr ⟨by rfl,rfl⟩) ?_ ?_
      rotate_left
      · simp only [Act.put,z0_,z1_,z2_,i64_w,i32_w];rfl
      refine pure_ (i:=26) (N:=some 39) (v:=undef) (a':=?_) #[T0,T0,T0,T0,T0,T0,T0,T0,T0,T0,T0,T0,T0,T0,T0,T0,T0,T0,T0,T0,T0,T0,T0,T0,T0,T0,T0,F0,F0,F0,F0,F0,F0,F0,F0,F0,F0,F0,F0,F0,F0,F0,F0] rfl rfl (any_of HT_.out (by kernel_rfl)) (fun _ _ _ h => h) (Or.inr ⟨by rfl,rfl⟩) ?_ ?_
      rotate_left
      · simp only [Act.put,z0_,z1_,z2_,i64_w,i32_w];rfl
      refine pure_ (i:=27) (N:=some 40) (v:=undef) (a':=?_) #[T0,T0,T0,T0,T0,T0,T0,T0,T0,T0,T0,T0,T0,T0,T0,T0,T0,T0,T0,T0,T0,T0,T0,T0,T0,T0,T0,T0,F0,F0,F0,F0,F0,F0,F0,F0,F0,F0,F0,F0,F0,F0,F0] rfl rfl (any_of HT_.out (by kernel_rfl)) (fun _ _ _ h => h) (Or.inr ⟨by rfl,rfl⟩) ?_ ?_
      rotate_left
      · simp only [Act.put,z0_,z1_,z2_,i64_w,i32_w];rfl
      refine pure_ (i:=28) (N:=some 41) (v:=undef) (a':=?_) #[T0,T0,T0,T0,T0,T0,T0,T0,T0,T0,T0,T0,T0,T0,T0,T0,T0,T0,T0,T0,T0,T0,T0,T0,T0,T0,T0,T0,T0,F0,F0,F0,F0,F0,F0,F0,F0,F0,F0,F0,F0,F0,F0] rfl rfl (any_of HT_.out (by kernel_rfl)) (fun _ _ _ h => h) (Or.inr ⟨by rfl,rfl⟩) ?_ ?_
      rotate_left
      · simp only [Act.put,z0_,z1_,z2_,i64_w,i32_w];rfl
      refine pure_ (i:=29) (N:=some 42) (v:=undef) (a':=?_) #[T0,T0,T0,T0,T0,T0,T0,T0,T0,T0,T0,T0,T0,T0,T0,T0,T0,T0,T0,T0,T0,T0,T0,T0,T0,T0,T0,T0,T0,T0,F0,F0,F0,F0,F0,F0,F0,F0,F0,F0,F0,F0,F0] rfl rfl (any_of HT_.out (by kernel_rfl)) (fun _ _ _ h => h) (Or.inr ⟨by rfl,rfl⟩) ?_ ?_
      rotate_left
      · simp only [Act.put,z0_,z1_,z2_,i64_w,i32_w];rfl
      refine pure_ (i:=30) (N:=some 43) (v:=undef) (a':=?_) #[T0,T0,T0,T0,T0,T0,T0,T0,T0,T0,T0,T0,T0,T0,T0,T0,T0,T0,T0,T0,T0,T0,T0,T0,T0,T0,T0,T0,T0,T0,T0,F0,F0,F0,F0,F0,F0,F0,F0,F0,F0,F0,F0] rfl rfl (any_of HT_.out (by kernel_rfl)) (fun _ _ _ h => h) (Or.inr ⟨by rfl,rfl⟩) ?_ ?_
      rotate_left
      · simp only [Act.put,z0_,z1_,z2_,i64_w,i32_w];rfl
      refine pure_ (i:=31) (N:=some 44) (v:=undef) (a':=?_) #[T0,T0,T0,T0,T0,T0,T0,T0,T0,T0,T0,T0,T0,T0,T0,T0,T0,T0,T0,T0,T0,T0,T0,T0,T0,T0,T0,T0,T0,T0,T0,T0,F0,F0,F0,F0,F0,F0,F0,F0,F0,F0,F0] rfl rfl (any_of HT_.out (by kernel_rfl)) (fun _ _ _ h => h) (Or.inr ⟨by rfl,rfl⟩) ?_ ?_
      rotate_left
      · simp only [Act.put,z0_,z1_,z2_,i64_w,i32_w];rfl
      refine pure_ (i:=32) (N:=some 45) (v:=undef) (a':=?_) #[T0,T0,T0,T0,T0,T0,T0,T0,T0,T0,T0,T0,T0,T0,T0,T0,T0,T0,T0,T0,T0,T0,T0,T0,T0,T0,T0,T0,T0,T0,T0,T0,T0,F0,F0,F0,F0,F0,F0,F0,F0,F0,F0] rfl rfl (any_of HT_.out (by kernel_rfl)) (fun _ _ _ h => h) (Or.inr ⟨by rfl,rfl⟩) ?_ ?_
      rotate_left
      · simp only [Act.put,z0_,z1_,z2_,i64_w,i32_w];rfl
      refine pure_ (i:=33) (N:=some 46) (v:=undef) (a':=?_) #[T0,T0,T0,T0,T0,T0,T0,T0,T0,T0,T0,T0,T0,T0,T0,T0,T0,T0,T0,T0,T0,T0,T0,T0,T0,T0,T0,T0,T0,T0,T0,T0,T0,T0,F0,F0,F0,F0,F0,F0,F0,F0,F0] rfl rfl (any_of HT_.out (by kernel_rfl)) (fun _ _ _ h => h) (Or.inr ⟨by rfl,rfl⟩) ?_ ?_
      rotate_left
      · simp only [Act.put,z0_,z1_,z2_,i64_w,i32_w];rfl
      refine pure_ (i:=34) (N:=some 47) (v:=undef) (a':=?_) #[T0,T0,T0,T0,T0,T0,T0,T0,T0,T0,T0,T0,T0,T0,T0,T0,T0,T0,T0,T0,T0,T0,T0,T0,T0,T0,T0,T0,T0,T0,T0,T0,T0,T0,T0,F0,F0,F0,F0,F0,F0,F0,F0] rfl rfl (any_of HT_.out (by kernel_rfl)) (fun _ _ _ h => h) (Or.inr ⟨by rfl,rfl⟩) ?_ ?_
      rotate_left
      · simp only [Act.put,z0_,z1_,z2_,i64_w,i32_w];rfl
      refine pure_ (i:=35) (N:=some 48) (v:=undef) (a':=?_) #[T0,T0,T0,T0,T0,T0,T0,T0,T0,T0,T0,T0,T0,T0,T0,T0,T0,T0,T0,T0,T0,T0,T0,T0,T0,T0,T0,T0,T0,T0,T0,T0,T0,T0,T0,T0,F0,F0,F0,F0,F0,F0,F0] rfl rfl (any_of HT_.out (by kernel_rfl)) (fun _ _ _ h => h) (Or.inr ⟨by rfl,rfl⟩) ?_ ?_
      rotate_left
      · simp only [Act.put,z0_,z1_,z2_,i64_w,i32_w];rfl
      refine pure_ (i:=36) (N:=some 49) (v:=undef) (a':=?_) #[T0,T0,T0,T0,T0,T0,T0,T0,T0,T0,T0,T0,T0,T0,T0,T0,T0,T0,T0,T0,T0,T0,T0,T0,T0,T0,T0,T0,T0,T0,T0,T0,T0,T0,T0,T0,T0,F0,F0,F0,F0,F0,F0] rfl rfl (any_of HT_.out (by kernel_rfl)) (fun _ _ _ h => h) (Or.inr ⟨by rfl,rfl⟩) ?_ ?_
      rotate_left
      · simp only [Act.put,z0_,z1_,z2_,i64_w,i32_w];rfl
      refine pure_ (i:=37) (N:=some 50) (v:=undef) (a':=?_) #[T0,T0,T0,T0,T0,T0,T0,T0,T0,T0,T0,T0,T0,T0,T0,T0,T0,T0,T0,T0,T0,T0,T0,T0,T0,T0,T0,T0,T0,T0,T0,T0,T0,T0,T0,T0,T0,T0,F0,F0,F0,F0,F0] rfl rfl (any_of HT_.out (by kernel_rfl)) (fun _ _ _ h => h) (Or.inr ⟨by rfl,rfl⟩) ?_ ?_
      rotate_left
      · simp only [Act.put,z0_,z1_,z2_,i64_w,i32_w];rfl
      refine pure_ (i:=38) (N:=some 51) (v:=undef) (a':=?_) #[T0,T0,T0,T0,T0,T0,T0,T0,T0,T0,T0,T0,T0,T0,T0,T0,T0,T0,T0,T0,T0,T0,T0,T0,T0,T0,T0,T0,T0,T0,T0,T0,T0,T0,T0,T0,T0,T0,T0,F0,F0,F0,F0] rfl rfl (any_of HT_.out (by kernel_rfl)) (fun _ _ _ h => h) (Or.inr ⟨by rfl,rfl⟩) ?_ ?_
      rotate_left
      · simp only [Act.put,z0_,z1_,z2_,i64_w,i32_w];rfl
      refine pure_ (i:=39) (N:=some 52) (v:=undef) (a':=?_) #[T0,T0,T0,T0,T0,T0,T0,T0,T0,T0,T0,T0,T0,T0,T0,T0,T0,T0,T0,T0,T0,T0,T0,T0,T0,T0,T0,T0,T0,T0,T0,T0,T0,T0,T0,T0,T0,T0,T0,T0,F0,F0,F0] rfl rfl (any_of HT_.out (by kernel_rfl)) (fun _ _ _ h => h) (Or.inr ⟨by rfl,rfl⟩) ?_ ?_
      rotate_left
      · simp only [Act.put,z0_,z1_,z2_,i64_w,i32_w];rfl
      refine pure_ (i:=40) (N:=some 53) (v:=undef) (a':=?_) #[T0,T0,T0,T0,T0,T0,T0,T0,T0,T0,T0,T0,T0,T0,T0,T0,T0,T0,T0,T0,T0,T0,T0,T0,T0,T0,T0,T0,T0,T0,T0,T0,T0,T0,T0,T0,T0,T0,T0,T0,T0,F0,F0] rfl rfl (any_of HT_.out (by kernel_rfl)) (fun _ _ _ h => h) (Or.inr ⟨by rfl,rfl⟩) ?_ ?_
      rotate_left
      · simp only [Act.put,z0_,z1_,z2_,i64_w,i32_w];rfl
      refine pure_ (i:=41) (N:=some 54) (v:=?_) (a':=?_) #[T0,T0,T0,T0,T0,T0,T0,T0,T0,T0,T0,T0,T0,T0,T0,T0,T0,T0,T0,T0,T0,T0,T0,T0,T0,T0,T0,T0,T0,T0,T0,T0,T0,T0,T0,T0,T0,T0,T0,T0,T0,T0,F0] rfl rfl (any_of HT_.out (by kernel_rfl)) (fun _ _ _ h => h) (Or.inl ⟨by rfl,?_⟩) ?_ ?_
      rotate_left
      · intro w';go_simp;with_reducible rfl
      rotate_left
      · simp only [Act.put,z0_,z1_,z2_,i64_w,i32_w];rfl
      refine pure_ (i:=42) (N:=some 4) (v:=?_) (a':=?_) #[T0,T0,T0,T0,T0,T0,T0,T0,T0,T0,T0,T0,T0,T0,T0,T0,T0,T0,T0,T0,T0,T0,T0,T0,T0,T0,T0,T0,T0,T0,T0,T0,T0,T0,T0,T0,T0,T0,T0,T0,T0,T0,T0] rfl rfl (any_of HT_.out (by kernel_rfl)) (fun _ _ _ h => h) (Or.inl ⟨by rfl,?_⟩) ?_ ?_
      rotate_left
      · intro w';go_simp;with_reducible rfl
      rotate_left
      · simp only [Act.put,z0_,z1_,z2_,i64_w,i32_w];rfl
      refine done_ (done_of HT_.out (by kernel_rfl)) ?_
      try go_wp2
      go_ret;exact ⟨by first | rfl | (simp [errW_none,errW_some] <;> rfl) | (simp [*,errW_none,errW_some] <;> rfl),by repeat (first | (with_reducible first | exact HB.out | apply b0_ | apply b1_ | apply b2_ | refine below_set ?_ GE305.out) | exact HB.out)⟩
     rw [if_pos c17] at H;have c17b0 : (t309 == t310) = true:=beq_iff_eq.mpr c17;have c17b1 : (t309 != t310) = false:=bne_eq_false_iff_eq.mpr c17;clear c17;replace H:=Option.bind_eq_some_iff.mp H;obtain ⟨t311,A180,H⟩:=H;replace H : ((estoversref39_Witness.f kj2 l0_0 l0_1 a0_2 a0_3).bind fun t314 => ((estoversref39_Same.f kj2 t311 t314).bind fun t317 => (some t317))) = some r:=H
     have A18:=Aside0.mk A180;clear A180;replace H:=Option.bind_eq_some_iff.mp H;obtain ⟨t314,A190,H⟩:=H;replace H : ((estoversref39_Same.f kj2 t311 t314).bind fun t317 => (some t317)) = some r:=H;have A19:=Aside0.mk A190;clear A190;replace H:=Option.bind_eq_some_iff.mp H;obtain ⟨t317,A200,H⟩:=H;replace H : (some t317) = some r:=H;have A20:=Aside0.mk A200;clear A200
     obtain rfl:=Option.some.inj H
     try go_wp2
     have n0_:=Aside0.mk (blk_drew BK305.out);have n1_:=Aside0.mk (b2_ HB.out);clear BK305;clear HB;have BK305:=n0_;have HB:=n1_;clear n0_ n1_
     refine start_ (n:=43) (S:=fun w' => w'.cell? ⟨gb305,0,none⟩ = some (.slice A0_0 l0_0.length c0_0)∧w'.cell? ⟨gb305,1,none⟩ = some (.slice A0_1 l0_1.length c0_1)∧w'.cell? ⟨gb305,2,none⟩ = some (.int .i64 a0_2)∧w'.cell? ⟨gb305,3,none⟩ = some (.bool a0_3)) (ds:=[]) #[F0,F0,F0,F0,F0,F0,F0,F0,F0,F0,F0,F0,F0,F0,F0,F0,F0,F0,F0,F0,F0,F0,F0,F0,F0,F0,F0,F0,F0,F0,F0,F0,F0,F0,F0,F0,F0,F0,F0,F0,F0,F0,F0] (by kernel_rfl) rfl rfl ⟨(blk_cell BK305.out 0).trans rfl,(blk_cell BK305.out 1).trans rfl,(blk_cell BK305.out 2).trans rfl,(blk_cell BK305.out 3).trans rfl⟩ (fun hHeld => ?_);refine with_tabW estoverslaw39_ReclaimplanReasons.tab3 estoverslaw39_ReclaimplanReasons.bits3 (fun HT_ HW_ => ?_)
     generalize wc.drew = w21 at BK305 HB hHeld ⊢;refine pure_ (i:=0) (N:=some 13) (v:=?_) (a':=?_) #[T0,F0,F0,F0,F0,F0,F0,F0,F0,F0,F0,F0,F0,F0,F0,F0,F0,F0,F0,F0,F0,F0,F0,F0,F0,F0,F0,F0,F0,F0,F0,F0,F0,F0,F0,F0,F0,F0,F0,F0,F0,F0,F0] rfl rfl (any_of HT_.out (by kernel_rfl)) (fun _ _ _ h => h) (Or.inl ⟨by rfl,?_⟩) ?_ ?_
     rotate_left
     · intro w';go_simp;with_reducible rfl
     rotate_left
     · simp only [Act.put,z0_,z1_,z2_,i64_w,i32_w];rfl
     refine pure_ (i:=2) (N:=some 15) (v:=?_) (a':=?_) #[T0,F0,T0,F0,F0,F0,F0,F0,F0,F0,F0,F0,F0,F0,F0,F0,F0,F0,F0,F0,F0,F0,F0,F0,F0,F0,F0,F0,F0,F0,F0,F0,F0,F0,F0,F0,F0,F0,F0,F0,F0,F0,F0] rfl rfl (any_of HT_.out (by kernel_rfl)) (fun _ _ _ h => h) (Or.inl ⟨by rfl,?_⟩) ?_ ?_
     rotate_left
     · intro w';go_simp;with_reducible rfl
     rotate_left
     · simp only [Act.put,z0_,z1_,z2_,i64_w,i32_w];rfl
     refine pure_ (i:=4) (N:=some 17) (v:=?_) (a':=?_) #[T0,F0,T0,F0,T0,F0,F0,F0,F0,F0,F0,F0,F0,F0,F0,F0,F0,F0,F0,F0,F0,F0,F0,F0,F0,F0,F0,F0,F0,F0,F0,F0,F0,F0,F0,F0,F0,F0,F0,F0,F0,F0,F0] rfl rfl (any_of HT_.out (by kernel_rfl)) (fun _ _ _ h => h) (Or.inl ⟨by rfl,?_⟩) ?_ ?_
     rotate_left
     · intro w';go_simp;with_reducible rfl
     rotate_left
     · simp only [Act.put,z0_,z1_,z2_,i64_w,i32_w];rfl
     refine pure_ (i:=6) (N:=some 19) (v:=?_) (a':=?_) #[T0,F0,T0,F0,T0,F0,T0,F0,F0,F0,F0,F0,F0,F0,F0,F0,F0,F0,F0,F0,F0,F0,F0,F0,F0,F0,F0,F0,F0,F0,F0,F0,F0,F0,F0,F0,F0,F0,F0,F0,F0,F0,F0] rfl rfl (any_of HT_.out (by kernel_rfl)) (fun _ _ _ h => h) (Or.inl ⟨by rfl,?_⟩) ?_ ?_
     rotate_left
     · intro w';go_simp;with_reducible rfl
     rotate_left
     · simp only [Act.put,z0_,z1_,z2_,i64_w,i32_w];rfl
     refine pure_ (i:=7) (N:=some 20) (v:=?_) (a':=?_) #[T0,F0,T0,F0,T0,F0,T0,T0,F0,F0,F0,F0,F0,F0,F0,F0,F0,F0,F0,F0,F0,F0,F0,F0,F0,F0,F0,F0,F0,F0,F0,F0,F0,F0,F0,F0,F0,F0,F0,F0,F0,F0,F0] rfl rfl (any_of HT_.out (by kernel_rfl)) (fun _ _ _ h => h) (Or.inl ⟨by rfl,?_⟩) ?_ ?_
     rotate_left
     · intro w';go_simp;with_reducible rfl
     rotate_left
     · simp only [Act.put,z0_,z1_,z2_,i64_w,i32_w];rfl
     refine pure_ (i:=10) (N:=some 23) (v:=?_) (a':=?_) #[T0,F0,T0,F0,T0,F0,T0,T0,F0,F0,T0,F0,F0,F0,F0,F0,F0,F0,F0,F0,F0,F0,F0,F0,F0,F0,F0,F0,F0,F0,F0,F0,F0,F0,F0,F0,F0,F0,F0,F0,F0,F0,F0] rfl rfl (any_of HT_.out (by kernel_rfl)) (fun _ _ _ h => h) (Or.inl ⟨by rfl,?_⟩) ?_ ?_
     rotate_left
     · intro w';go_simp;with_reducible rfl
     rotate_left
     · simp only [Act.put,z0_,z1_,z2_,i64_w,i32_w];rfl
     refine pure_ (i:=12) (N:=some 25) (v:=?_) (a':=?_) #[T0,F0,T0,F0,T0,F0,T0,T0,F0,F0,T0,F0,T0,F0,F0,F0,F0,F0,F0,F0,F0,F0,F0,F0,F0,F0,F0,F0,F0,F0,F0,F0,F0,F0,F0,F0,F0,F0,F0,F0,F0,F0,F0] rfl rfl (any_of HT_.out (by kernel_rfl)) (fun _ _ _ h => h) (Or.inl ⟨by rfl,?_⟩) ?_ ?_
     rotate_left
     · intro w';go_simp;with_reducible rfl
     rotate_left
     · simp only [Act.put,z0_,z1_,z2_,i64_w,i32_w];rfl
     refine pure_ (i:=14) (N:=some 27) (v:=?_) (a':=?_) #[T0,F0,T0,F0,T0,F0,T0,T0,F0,F0,T0,F0,T0,F0,T0,F0,F0,F0,F0,F0,F0,F0,F0,F0,F0,F0,F0,F0,F0,F0,F0,F0,F0,F0,F0,F0,F0,F0,F0,F0,F0,F0,F0] rfl rfl (any_of HT_.out (by kernel_rfl)) (fun _ _ _ h => h) (Or.inl ⟨by rfl,?_⟩) ?_ ?_
     rotate_left
     · intro w';go_simp;with_reducible rfl
     rotate_left
     · simp only [Act.put,z0_,z1_,z2_,i64_w,i32_w];rfl
     refine pure_ (i:=16) (N:=some 29) (v:=?_) (a':=?_) #[T0,F0,T0,F0,T0,F0,T0,T0,F0,F0,T0,F0,T0,F0,T0,F0,T0,F0,F0,F0,F0,F0,F0,F0,F0,F0,F0,F0,F0,F0,F0,F0,F0,F0,F0,F0,F0,F0,F0,F0,F0,F0,F0] rfl rfl (any_of HT_.out (by kernel_rfl)) (fun _ _ _ h => h) (Or.inl ⟨by rfl,?_⟩) ?_ ?_
     rotate_left
     · intro w';go_simp;with_reducible rfl
     rotate_left
     · simp only [Act.put,z0_,z1_,z2_,i64_w,i32_w];rfl
     refine pure_ (i:=17) (N:=some 30) (v:=?_) (a':=?_) #[T0,F0,T0,F0,T0,F0,T0,T0,F0,F0,T0,F0,T0,F0,T0,F0,T0,T0,F0,F0,F0,F0,F0,F0,F0,F0,F0,F0,F0,F0,F0,F0,F0,F0,F0,F0,F0,F0,F0,F0,F0,F0,F0] rfl rfl (any_of HT_.out (by kernel_rfl)) (fun _ _ _ h => h) (Or.inl ⟨by rfl,?_⟩) ?_ ?_
     rotate_left
     · intro w';go_simp;with_reducible rfl
     rotate_left
     · simp only [Act.put,z0_,z1_,z2_,i64_w,i32_w];rfl
     refine take_ (i:=1) (N:=some 14) (v:=?_) (a':=?_) #[T0,T0,T0,F0,T0,F0,T0,T0,F0,F0,T0,F0,T0,F0,T0,F0,T0,T0,F0,F0,F0,F0,F0,F0,F0,F0,F0,F0,F0,F0,F0,F0,F0,F0,F0,F0,F0,F0,F0,F0,F0,F0,F0] rfl rfl (take_ofW HT_.out HW_.out (by kernel_rfl)) (fun _ _ _ h => h) (Or.inl ⟨by rfl,?_⟩) hHeld ?_ ?_
     rotate_left
     ·
      rintro w' ⟨s0,s1,s2,s3⟩
      go_simp;with_reducible rfl
     rotate_left
     · simp only [Act.put,z0_,z1_,z2_,i64_w,i32_w];rfl
     refine take_ (i:=3) (N:=some 16) (v:=?_) (a':=?_) #[T0,T0,T0,T0,T0,F0,T0,T0,F0,F0,T0,F0,T0,F0,T0,F0,T0,T0,F0,F0,F0,F0,F0,F0,F0,F0,F0,F0,F0,F0,F0,F0,F0,F0,F0,F0,F0,F0,F0,F0,F0,F0,F0] rfl rfl (take_ofW HT_.out HW_.out (by kernel_rfl)) (fun _ _ _ h => h) (Or.inl ⟨by rfl,?_⟩) hHeld ?_ ?_
     rotate_left
     ·
      rintro w' ⟨s0,s1,s2,s3⟩
      go_simp;with_reducible rfl
     rotate_left
     · simp only [Act.put,z0_,z1_,z2_,i64_w,i32_w];rfl
     refine take_ (i:=5) (N:=some 18) (v:=?_) (a':=?_) #[T0,T0,T0,T0,T0,T0,T0,T0,F0,F0,T0,F0,T0,F0,T0,F0,T0,T0,F0,F0,F0,F0,F0,F0,F0,F0,F0,F0,F0,F0,F0,F0,F0,F0,F0,F0,F0,F0,F0,F0,F0,F0,F0] rfl rfl (take_ofW HT_.out HW_.out (by kernel_rfl)) (fun _ _ _ h => h) (Or.inl ⟨by rfl,?_⟩) hHeld ?_ ?_
     rotate_left
     ·
      rintro w' ⟨s0,s1,s2,s3⟩
      go_simp;with_reducible rfl
     rotate_left
     · simp only [Act.put,z0_,z1_,z2_,i64_w,i32_w];rfl
     refine take_ (i:=8) (N:=some 21) (v:=?_) (a':=?_) #[T0,T0,T0,T0,T0,T0,T0,T0,T0,F0,T0,F0,T0,F0,T0,F0,T0,T0,F0,F0,F0,F0,F0,F0,F0,F0,F0,F0,F0,F0,F0,F0,F0,F0,F0,F0,F0,F0,F0,F0,F0,F0,F0] rfl rfl (take_ofW HT_.out HW_.out (by kernel_rfl)) (fun _ _ _ h => h) (Or.inl ⟨by rfl,?_⟩) hHeld ?_ ?_
     rotate_left
     ·
      rintro w' ⟨s0,s1,s2,s3⟩
      go_simp;with_reducible rfl
     rotate_left
     · simp only [Act.put,z0_,z1_,z2_,i64_w,i32_w];rfl
     refine take_ (i:=11) (N:=some 24) (v:=?_) (a':=?_) #[T0,T0,T0,T0,T0,T0,T0,T0,T0,F0,T0,T0,T0,F0,T0,F0,T0,T0,F0,F0,F0,F0,F0,F0,F0,F0,F0,F0,F0,F0,F0,F0,F0,F0,F0,F0,F0,F0,F0,F0,F0,F0,F0] rfl rfl (take_ofW HT_.out HW_.out (by kernel_rfl)) (fun _ _ _ h => h) (Or.inl ⟨by rfl,?_⟩) hHeld ?_ ?_
     rotate_left
     ·
      rintro w' ⟨s0,s1,s2,s3⟩
      go_simp;with_reducible rfl
     rotate_left
     · simp only [Act.put,z0_,z1_,z2_,i64_w,i32_w];rfl
     refine take_ (i:=13) (N:=some 26) (v:=?_) (a':=?_) #[T0,T0,T0,T0,T0,T0,T0,T0,T0,F0,T0,T0,T0,T0,T0,F0,T0,T0,F0,F0,F0,F0,F0,F0,F0,F0,F0,F0,F0,F0,F0,F0,F0,F0,F0,F0,F0,F0,F0,F0,F0,F0,F0] rfl rfl (take_ofW HT_.out HW_.out (by kernel_rfl)) (fun _ _ _ h => h) (Or.inl ⟨by rfl,?_⟩) hHeld ?_ ?_
     rotate_left
     ·
      rintro w' ⟨s0,s1,s2,s3⟩
      go_simp;with_reducible rfl
     rotate_left
     · simp only [Act.put,z0_,z1_,z2_,i64_w,i32_w];rfl
     refine take_ (i:=15) (N:=some 28) (v:=?_) (a':=?_) #[T0,T0,T0,T0,T0,T0,T0,T0,T0,F0,T0,T0,T0,T0,T0,T0,T0,T0,F0,F0,F0,F0,F0,F0,F0,F0,F0,F0,F0,F0,F0,F0,F0,F0,F0,F0,F0,F0,F0,F0,F0,F0,F0] rfl rfl (take_ofW HT_.out HW_.out (by kernel_rfl)) (fun _ _ _ h => h) (Or.inl ⟨by rfl,?_⟩) hHeld ?_ ?_
     rotate_left
     ·
      rintro w' ⟨s0,s1,s2,s3⟩
      go_simp;with_reducible rfl
     rotate_left
     · simp only [Act.put,z0_,z1_,z2_,i64_w,i32_w];rfl
     refine take_ (i:=18) (N:=some 31) (v:=?_) (a':=?_) #[T0,T0,T0,T0,T0,T0,T0,T0,T0,F0,T0,T0,T0,T0,T0,T0,T0,T0,T0,F0,F0,F0,F0,F0,F0,F0,F0,F0,F0,F0,F0,F0,F0,F0,F0,F0,F0,F0,F0,F0,F0,F0,F0] rfl rfl (take_ofW HT_.out HW_.out (by kernel_rfl)) (fun _ _ _ h => h) (Or.inl ⟨by rfl,?_⟩) hHeld ?_ ?_
     rotate_left
     ·
      rintro w' ⟨s0,s1,s2,s3⟩
      go_simp;with_reducible rfl
     rotate_left
     · simp only [Act.put,z0_,z1_,z2_,i64_w,i32_w];rfl
     refine one_ (i:=9) (N:=some 22) #[T0,T0,T0,T0,T0,T0,T0,T0,T0,T0,T0,T0,T0,T0,T0,T0,T0,T0,T0,F0,F0,F0,F0,F0,F0,F0,F0,F0,F0,F0,F0,F0,F0,F0,F0,F0,F0,F0,F0,F0,F0,F0,F0] rfl rfl (one_of HT_.out (by kernel_rfl)) (by decide) (fun K hK => ?_)
     refine goes_ Try.func33 (by kernel_rfl) rfl #[.slice A0_0 l0_0.length c0_0,.slice A0_1 l0_1.length c0_1,.int .i64 a0_2,.int .i64 a1,.bool a0_3] (by rfl) rfl rfl (by (try simp only [z3_,z4_,z5_]);first | done | rfl | (simp only [z6_,z7_];rfl)) ?_
     with_reducible refine (reclaimplan_Reason.calls kj2 _ _ l0_0 _ _ l0_1 a0_2 a1 a0_3 t309 _ ?side1 ?side2 ?side3 ?side4 A15.out).mono ?_
     (case side1 => repeat (first | exact (Kd.C_below HR0_0.out HB.out) | (with_reducible refine Kd.C_alloc ?_ _) | (with_reducible refine Kd.C_drewN ?_ _) | (with_reducible refine Kd.C_drew ?_)))
     (case side2 => exact HC0_0.out)
     (case side3 => repeat (first | exact (Kd.C_below HR0_1.out HB.out) | (with_reducible refine Kd.C_alloc ?_ _) | (with_reducible refine Kd.C_drewN ?_ _) | (with_reducible refine Kd.C_drew ?_)))
     (case side4 => exact HC0_1.out)
     rintro e w22 ⟨rfl,hb⟩
     refine ⟨_,rfl,?_⟩;have n0_:=Aside0.mk (blk_below (g:=gb305) (o:=.cells #[.slice A0_0 l0_0.length c0_0,.slice A0_1 l0_1.length c0_1,.int .i64 a0_2,.bool a0_3] 37 (0,0)) (by (with_reducible repeat (first | refine blk_drewN ?_ _ | refine blk_drew ?_ | refine blk_alloc ?_ _));exact BK305.out) hb)
     have n1_:=Aside0.mk (below_step (by repeat (first | (with_reducible first | exact HB.out | apply b0_ | apply b1_ | apply b2_ | refine below_set ?_ GE305.out) | exact HB.out)) hb);clear BK305;clear HB;have BK305:=n0_;have HB:=n1_;clear n0_ n1_
     (try clear hb)
     (try clear hb2)
     (try clear hk)
     (try clear hi)
     refine hK.out _ _ ⟨(blk_cell BK305.out 0).trans rfl,(blk_cell BK305.out 1).trans rfl,(blk_cell BK305.out 2).trans rfl,(blk_cell BK305.out 3).trans rfl⟩ (fun hHeld => ?_);clear hK K;refine norm_ (a':=?_) ?_ ?_
     rotate_left
     ·
      show Act.put _ (some 22) _ = _
      simp only [Act.put,z0_,z1_,z2_,i64_w,i32_w];rfl
     refine one_ (i:=19) (N:=some 32) #[T0,T0,T0,T0,T0,T0,T0,T0,T0,T0,T0,T0,T0,T0,T0,T0,T0,T0,T0,T0,F0,F0,F0,F0,F0,F0,F0,F0,F0,F0,F0,F0,F0,F0,F0,F0,F0,F0,F0,F0,F0,F0,F0] rfl rfl (one_of HT_.out (by kernel_rfl)) (by decide) (fun K hK => ?_)
     refine goes_ Try.func34 (by kernel_rfl) rfl #[.slice A0_0 l0_0.length c0_0,.slice A0_1 l0_1.length c0_1,.int .i64 a0_2,.int .i64 a1,.bool a0_3] (by rfl) rfl rfl (by (try simp only [z3_,z4_,z5_]);first | done | rfl | (simp only [z6_,z7_];rfl)) ?_
     with_reducible refine (estoversref39_Reason.calls kj2 _ _ l0_0 _ _ l0_1 a0_2 a1 a0_3 t310 _ ?side1 ?side2 ?side3 ?side4 A16.out).mono ?_
     (case side1 => repeat (first | exact (Kd.C_below HR0_0.out HB.out) | (with_reducible refine Kd.C_alloc ?_ _) | (with_reducible refine Kd.C_drewN ?_ _) | (with_reducible refine Kd.C_drew ?_)))
     (case side2 => exact HC0_0.out)
     (case side3 => repeat (first | exact (Kd.C_below HR0_1.out HB.out) | (with_reducible refine Kd.C_alloc ?_ _) | (with_reducible refine Kd.C_drewN ?_ _) | (with_reducible refine Kd.C_drew ?_)))
     (case side4 => exact HC0_1.out)
     rintro e w23 ⟨rfl,hb⟩
     refine ⟨_,rfl,?_⟩;have n0_:=Aside0.mk (blk_below (g:=gb305) (o:=.cells #[.slice A0_0 l0_0.length c0_0,.slice A0_1 l0_1.length c0_1,.int .i64 a0_2,.bool a0_3] 37 (0,0)) (by (with_reducible repeat (first | refine blk_drewN ?_ _ | refine blk_drew ?_ | refine blk_alloc ?_ _));exact BK305.out) hb)
     have n1_:=Aside0.mk (below_step (by repeat (first | (with_reducible first | exact HB.out | apply b0_ | apply b1_ | apply b2_ | refine below_set ?_ GE305.out) | exact HB.out)) hb);clear BK305;clear HB;have BK305:=n0_;have HB:=n1_;clear n0_ n1_
     (try clear hb)
     (try clear hb2)
     (try clear hk)
     (try clear hi)
     refine hK.out _ _ ⟨(blk_cell BK305.out 0).trans rfl,(blk_cell BK305.out 1).trans rfl,(blk_cell BK305.out 2).trans rfl,(blk_cell BK305.out 3).trans rfl⟩ (fun hHeld => ?_);clear hK K;refine norm_ (a':=?_) ?_ ?_
     rotate_left
     ·
      show Act.put _ (some 32) _ = _
      simp only [Act.put,z0_,z1_,z2_,i64_w,i32_w];rfl
     refine pure_ (i:=20) (N:=some 33) (v:=?_) (a':=?_) #[T0,T0,T0,T0,T0,T0,T0,T0,T0,T0,T0,T0,T0,T0,T0,T0,T0,T0,T0,T0,T0,F0,F0,F0,F0,F0,F0,F0,F0,F0,F0,F0,F0,F0,F0,F0,F0,F0,F0,F0,F0,F0,F0] rfl rfl (any_of HT_.out (by kernel_rfl)) (fun _ _ _ h => h) (Or.inl ⟨by rfl,?_⟩) ?_ ?_
     rotate_left
     · intro w';go_simp;with_reducible rfl
     rotate_left
     · simp only [Act.put,z0_,z1_,z2_,i64_w,i32_w];rfl
     refine pure_ (i:=21) (N:=some 34) (v:=?_) (a':=?_) #[T0,T0,T0,T0,T0,T0,T0,T0,T0,T0,T0,T0,T0,T0,T0,T0,T0,T0,T0,T0,T0,T0,F0,F0,F0,F0,F0,F0,F0,F0,F0,F0,F0,F0,F0,F0,F0,F0,F0,F0,F0,F0,F0] rfl rfl (any_of HT_.out (by kernel_rfl)) (fun _ _ _ h => h) (Or.inl ⟨by rfl,?_⟩) ?_ ?_
     rotate_left
     · intro w';go_simp;with_reducible rfl
     rotate_left
     · simp only [Act.put,z0_,z1_,z2_,i64_w,i32_w];rfl
     refine pure_ (i:=22) (N:=some 35) (v:=?_) (a':=?_) #[T0,T0,T0,T0,T0,T0,T0,T0,T0,T0,T0,T0,T0,T0,T0,T0,T0,T0,T0,T0,T0,T0,T0,F0,F0,F0,F0,F0,F0,F0,F0,F0,F0,F0,F0,F0,F0,F0,F0,F0,F0,F0,F0] rfl rfl (any_of HT_.out (by kernel_rfl)) (fun _ _ _ h => h) (Or.inl ⟨by rfl,?_⟩) ?_ ?_
     rotate_left
     · intro w';go_simp;with_reducible rfl
     rotate_left
     · simp only [Act.put,z0_,z1_,z2_,i64_w,i32_w];rfl
     refine pure_ (i:=24) (N:=some 37) (v:=?_) (a':=?_) #[T0,T0,T0,T0,T0,T0,T0,T0,T0,T0,T0,T0,T0,T0,T0,T0,T0,T0,T0,T0,T0,T0,T0,F0,T0,F0,F0,F0,F0,F0,F0,F0,F0,F0,F0,F0,F0,F0,F0,F0,F0,F0,F0] rfl rfl (any_of HT_.out (by kernel_rfl)) (fun _ _ _ h => h) (Or.inl ⟨by rfl,?_⟩) ?_ ?_
     rotate_left
     · intro w';go_simp;with_reducible rfl
     rotate_left
     · simp only [Act.put,z0_,z1_,z2_,i64_w,i32_w];rfl
     refine pure_ (i:=26) (N:=some 39) (v:=?_) (a':=?_) #[T0,T0,T0,T0,T0,T0,T0,T0,T0,T0,T0,T0,T0,T0,T0,T0,T0,T0,T0,T0,T0,T0,T0,F0,T0,F0,T0,F0,F0,F0,F0,F0,F0,F0,F0,F0,F0,F0,F0,F0,F0,F0,F0] rfl rfl (any_of HT_.out (by kernel_rfl)) (fun _ _ _ h => h) (Or.inl ⟨by rfl,?_⟩) ?_ ?_
     rotate_left
     · intro w';go_simp;with_reducible rfl
     rotate_left
     · simp only [Act.put,z0_,z1_,z2_,i64_w,i32_w];rfl
     refine pure_ (i:=28) (N:=some 41) (v:=?_) (a':=?_) #[T0,T0,T0,T0,T0,T0,T0,T0,T0,T0,T0,T0,T0,T0,T0,T0,T0,T0,T0,T0,T0,T0,T0,F0,T0,F0,T0,F0,T0,F0,F0,F0,F0,F0,F0,F0,F0,F0,F0,F0,F0,F0,F0] rfl rfl (any_of HT_.out (by kernel_rfl)) (fun _ _ _ h => h) (Or.inl ⟨by rfl,?_⟩) ?_ ?_
     rotate_left
     · intro w';go_simp;with_reducible rfl
     rotate_left
     · simp only [Act.put,z0_,z1_,z2_,i64_w,i32_w];rfl
     refine pure_ (i:=31) (N:=some 44) (v:=?_) (a':=?_) #[T0,T0,T0,T0,T0,T0,T0,T0,T0,T0,T0,T0,T0,T0,T0,T0,T0,T0,T0,T0,T0,T0,T0,F0,T0,F0,T0,F0,T0,F0,F0,T0,F0,F0,F0,F0,F0,F0,F0,F0,F0,F0,F0] rfl rfl (any_of HT_.out (by kernel_rfl)) (fun _ _ _ h => h) (Or.inl ⟨by rfl,?_⟩) ?_ ?_
     rotate_left
     · intro w';go_simp;with_reducible rfl
     rotate_left
     · simp only [Act.put,z0_,z1_,z2_,i64_w,i32_w];rfl
     refine pure_ (i:=33) (N:=some 46) (v:=?_) (a':=?_) #[T0,T0,T0,T0,T0,T0,T0,T0,T0,T0,T0,T0,T0,T0,T0,T0,T0,T0,T0,T0,T0,T0,T0,F0,T0,F0,T0,F0,T0,F0,F0,T0,F0,T0,F0,F0,F0,F0,F0,F0,F0,F0,F0] rfl rfl (any_of HT_.out (by kernel_rfl)) (fun _ _ _ h => h) (Or.inl ⟨by rfl,?_⟩) ?_ ?_
     rotate_left
     · intro w';go_simp;with_reducible rfl
     rotate_left
     · simp only [Act.put,z0_,z1_,z2_,i64_w,i32_w];rfl
     refine pure_ (i:=35) (N:=some 48) (v:=?_) (a':=?_) #[T0,T0,T0,T0,T0,T0,T0,T0,T0,T0,T0,T0,T0,T0,T0,T0,T0,T0,T0,T0,T0,T0,T0,F0,T0,F0,T0,F0,T0,F0,F0,T0,F0,T0,F0,T0,F0,F0,F0,F0,F0,F0,F0] rfl rfl (any_of HT_.out (by kernel_rfl)) (fun _ _ _ h => h) (Or.inl ⟨by rfl,?_⟩) ?_ ?_
     rotate_left
     · intro w';go_simp;with_reducible rfl
     rotate_left
     · simp only [Act.put,z0_,z1_,z2_,i64_w,i32_w];rfl
     refine pure_ (i:=37) (N:=some 50) (v:=?_) (a':=?_) #[T0,T0,T0,T0,T0,T0,T0,T0,T0,T0,T0,T0,T0,T0,T0,T0,T0,T0,T0,T0,T0,T0,T0,F0,T0,F0,T0,F0,T0,F0,F0,T0,F0,T0,F0,T0,F0,T0,F0,F0,F0,F0,F0] rfl rfl (any_of HT_.out (by kernel_rfl)) (fun _ _ _ h => h) (Or.inl ⟨by rfl,?_⟩) ?_ ?_
     rotate_left
     · intro w';go_simp;with_reducible rfl
     rotate_left
     · simp only [Act.put,z0_,z1_,z2_,i64_w,i32_w];rfl
     refine take_ (i:=23) (N:=some 36) (v:=?_) (a':=?_) #[T0,T0,T0,T0,T0,T0,T0,T0,T0,T0,T0,T0,T0,T0,T0,T0,T0,T0,T0,T0,T0,T0,T0,T0,T0,F0,T0,F0,T0,F0,F0,T0,F0,T0,F0,T0,F0,T0,F0,F0,F0,F0,F0] rfl rfl (take_ofW HT_.out HW_.out (by kernel_rfl)) (fun _ _ _ h => h) (Or.inl ⟨by rfl,?_⟩) hHeld ?_ ?_
     rotate_left
     ·
      rintro w' ⟨s0,s1,s2,s3⟩
      go_simp;with_reducible rfl
     rotate_left
     · simp only [Act.put,z0_,z1_,z2_,i64_w,i32_w];rfl
     refine take_ (i:=25) (N:=some 38) (v:=?_) (a':=?_) #[T0,T0,T0,T0,T0,T0,T0,T0,T0,T0,T0,T0,T0,T0,T0,T0,T0,T0,T0,T0,T0,T0,T0,T0,T0,T0,T0,F0,T0,F0,F0,T0,F0,T0,F0,T0,F0,T0,F0,F0,F0,F0,F0] rfl rfl (take_ofW HT_.out HW_.out (by kernel_rfl)) (fun _ _ _ h => h) (Or.inl ⟨by rfl,?_⟩) hHeld ?_ ?_
     rotate_left
     ·
      rintro w' ⟨s0,s1,s2,s3⟩
      go_simp;with_reducible rfl
     rotate_left
     · simp only [Act.put,z0_,z1_,z2_,i64_w,i32_w];rfl
     refine take_ (i:=27) (N:=some 40) (v:=?_) (a':=?_) #[T0,T0,T0,T0,T0,T0,T0,T0,T0,T0,T0,T0,T0,T0,T0,T0,T0,T0,T0,T0,T0,T0,T0,T0,T0,T0,T0,T0,T0,F0,F0,T0,F0,T0,F0,T0,F0,T0,F0,F0,F0,F0,F0] rfl rfl (take_ofW HT_.out HW_.out (by kernel_rfl)) (fun _ _ _ h => h) (Or.inl ⟨by rfl,?_⟩) hHeld ?_ ?_
     rotate_left
     ·
      rintro w' ⟨s0,s1,s2,s3⟩
      go_simp;with_reducible rfl
     rotate_left
     · simp only [Act.put,z0_,z1_,z2_,i64_w,i32_w];rfl
     refine take_ (i:=29) (N:=some 42) (v:=?_) (a':=?_) #[T0,T0,T0,T0,T0,T0,T0,T0,T0,T0,T0,T0,T0,T0,T0,T0,T0,T0,T0,T0,T0,T0,T0,T0,T0,T0,T0,T0,T0,T0,F0,T0,F0,T0,F0,T0,F0,T0,F0,F0,F0,F0,F0] rfl rfl (take_ofW HT_.out HW_.out (by kernel_rfl)) (fun _ _ _ h => h) (Or.inl ⟨by rfl,?_⟩) hHeld ?_ ?_
     rotate_left
     ·
      rintro w' ⟨s0,s1,s2,s3⟩
      go_simp;with_reducible rfl
     rotate_left
     · simp only [Act.put,z0_,z1_,z2_,i64_w,i32_w];rfl
     refine take_ (i:=32) (N:=some 45) (v:=?_) (a':=?_) #[T0,T0,T0,T0,T0,T0,T0,T0,T0,T0,T0,T0,T0,T0,T0,T0,T0,T0,T0,T0,T0,T0,T0,T0,T0,T0,T0,T0,T0,T0,F0,T0,T0,T0,F0,T0,F0,T0,F0,F0,F0,F0,F0] rfl rfl (take_ofW HT_.out HW_.out (by kernel_rfl)) (fun _ _ _ h => h) (Or.inl ⟨by rfl,?_⟩) hHeld ?_ ?_
     rotate_left
     ·
      rintro w' ⟨s0,s1,s2,s3⟩
      go_simp;with_reducible rfl
     rotate_left
     · simp only [Act.put,z0_,z1_,z2_,i64_w,i32_w];rfl
     refine take_ (i:=34) (N:=some 47) (v:=?_) (a':=?_) #[T0,T0,T0,T0,T0,T0,T0,T0,T0,T0,T0,T0,T0,T0,T0,T0,T0,T0,T0,T0,T0,T0,T0,T0,T0,T0,T0,T0,T0,T0,F0,T0,T0,T0,T0,T0,F0,T0,F0,F0,F0,F0,F0] rfl rfl (take_ofW HT_.out HW_.out (by kernel_rfl)) (fun _ _ _ h => h) (Or.inl ⟨by rfl,?_⟩) hHeld ?_ ?_
     rotate_left
     ·
      rintro w' ⟨s0,s1,s2,s3⟩
      go_simp;with_reducible rfl
     rotate_left
     · simp only [Act.put,z0_,z1_,z2_,i64_w,i32_w];rfl
     refine take_ (i:=36) (N:=some 49) (v:=?_) (a':=?_) #[T0,T0,T0,T0,T0,T0,T0,T0,T0,T0,T0,T0,T0,T0,T0,T0,T0,T0,T0,T0,T0,T0,T0,T0,T0,T0,T0,T0,T0,T0,F0,T0,T0,T0,T0,T0,T0,T0,F0,F0,F0,F0,F0] rfl rfl (take_ofW HT_.out HW_.out (by kernel_rfl)) (fun _ _ _ h => h) (Or.inl ⟨by rfl,?_⟩) hHeld ?_ ?_
     rotate_left
     ·
      rintro w' ⟨s0,s1,s2,s3⟩
      go_simp;with_reducible rfl
     rotate_left
     · simp only [Act.put,z0_,z1_,z2_,i64_w,i32_w];rfl
     refine take_ (i:=38) (N:=some 51) (v:=?_) (a':=?_) #[T0,T0,T0,T0,T0,T0,T0,T0,T0,T0,T0,T0,T0,T0,T0,T0,T0,T0,T0,T0,T0,T0,T0,T0,T0,T0,T0,T0,T0,T0,F0,T0,T0,T0,T0,T0,T0,T0,T0,F0,F0,F0,F0] rfl rfl (take_ofW HT_.out HW_.out (by kernel_rfl)) (fun _ _ _ h => h) (Or.inl ⟨by rfl,?_⟩) hHeld ?_ ?_
     rotate_left
     ·
      rintro w' ⟨s0,s1,s2,s3⟩
      go_simp;with_reducible rfl
     rotate_left
     · simp only [Act.put,z0_,z1_,z2_,i64_w,i32_w];rfl
     refine one_ (i:=30) (N:=some 43) #[T0,T0,T0,T0,T0,T0,T0,T0,T0,T0,T0,T0,T0,T0,T0,T0,T0,T0,T0,T0,T0,T0,T0,T0,T0,T0,T0,T0,T0,T0,T0,T0,T0,T0,T0,T0,T0,T0,T0,F0,F0,F0,F0] rfl rfl (one_of HT_.out (by kernel_rfl)) (by decide) (fun K hK => ?_)
     refine goes_ Try.func22 (by kernel_rfl) rfl #[.slice A0_0 l0_0.length c0_0,.slice A0_1 l0_1.length c0_1,.int .i64 a0_2,.bool a0_3] (by rfl) rfl rfl (by (try simp only [z3_,z4_,z5_]);first | done | rfl | (simp only [z6_,z7_];rfl)) ?_
     with_reducible refine (reclaimplan_Witness.calls kj2 _ _ l0_0 _ _ l0_1 a0_2 a0_3 t311 _ ?side1 ?side2 ?side3 ?side4 A18.out).mono ?_
     (case side1 => repeat (first | exact (Kd.C_below HR0_0.out HB.out) | (with_reducible refine Kd.C_alloc ?_ _) | (with_reducible refine Kd.C_drewN ?_ _) | (with_reducible refine Kd.C_drew ?_)))
     (case side2 => exact HC0_0.out)
     (case side3 => repeat (first | exact (Kd.C_below HR0_1.out HB.out) | (with_reducible refine Kd.C_alloc ?_ _) | (with_reducible refine Kd.C_drewN ?_ _) | (with_reducible refine Kd.C_drew ?_)))
     (case side4 => exact HC0_1.out)
     rintro e w24 ⟨v312,rfl,ho0,hb⟩
     refine ⟨_,rfl,?_⟩;have n0_:=Aside0.mk (Kd.R_lower ho0 (below_size (by repeat (first | (with_reducible first | exact HB.out | apply b0_ | apply b1_ | apply b2_ | refine below_set ?_ GE305.out) | exact HB.out))))
     have n1_:=Aside0.mk (blk_below (g:=gb305) (o:=.cells #[.slice A0_0 l0_0.length c0_0,.slice A0_1 l0_1.length c0_1,.int .i64 a0_2,.bool a0_3] 37 (0,0)) (by (with_reducible repeat (first | refine blk_drewN ?_ _ | refine blk_drew ?_ | refine blk_alloc ?_ _));exact BK305.out) hb)
     have n2_:=Aside0.mk (below_step (by repeat (first | (with_reducible first | exact HB.out | apply b0_ | apply b1_ | apply b2_ | refine below_set ?_ GE305.out) | exact HB.out)) hb);clear BK305;clear HB;have HO313:=n0_;have BK305:=n1_;have HB:=n2_;clear n0_ n1_ n2_
     (try clear hb)
     (try clear hb2)
     (try clear hk)
     (try clear hi)
     (try clear ho0)
     refine hK.out _ _ ⟨(blk_cell BK305.out 0).trans rfl,(blk_cell BK305.out 1).trans rfl,(blk_cell BK305.out 2).trans rfl,(blk_cell BK305.out 3).trans rfl⟩ (fun hHeld => ?_);clear hK K;refine norm_ (a':=?_) ?_ ?_
     rotate_left
     ·
      show Act.put _ (some 43) _ = _
      simp only [Act.put,z0_,z1_,z2_,i64_w,i32_w];rfl
     refine one_ (i:=39) (N:=some 52) #[T0,T0,T0,T0,T0,T0,T0,T0,T0,T0,T0,T0,T0,T0,T0,T0,T0,T0,T0,T0,T0,T0,T0,T0,T0,T0,T0,T0,T0,T0,T0,T0,T0,T0,T0,T0,T0,T0,T0,T0,F0,F0,F0] rfl rfl (one_of HT_.out (by kernel_rfl)) (by decide) (fun K hK => ?_)
     refine goes_ Try.func36 (by kernel_rfl) rfl #[.slice A0_0 l0_0.length c0_0,.slice A0_1 l0_1.length c0_1,.int .i64 a0_2,.bool a0_3] (by rfl) rfl rfl (by (try simp only [z3_,z4_,z5_]);first | done | rfl | (simp only [z6_,z7_];rfl)) ?_
     with_reducible refine (estoversref39_Witness.calls kj2 _ _ l0_0 _ _ l0_1 a0_2 a0_3 t314 _ ?side1 ?side2 ?side3 ?side4 A19.out).mono ?_
     (case side1 => repeat (first | exact (Kd.C_below HR0_0.out HB.out) | (with_reducible refine Kd.C_alloc ?_ _) | (with_reducible refine Kd.C_drewN ?_ _) | (with_reducible refine Kd.C_drew ?_)))
     (case side2 => exact HC0_0.out)
     (case side3 => repeat (first | exact (Kd.C_below HR0_1.out HB.out) | (with_reducible refine Kd.C_alloc ?_ _) | (with_reducible refine Kd.C_drewN ?_ _) | (with_reducible refine Kd.C_drew ?_)))
     (case side4 => exact HC0_1.out)
     rintro e w25 ⟨v315,rfl,ho0,hb⟩
     refine ⟨_,rfl,?_⟩;have n0_:=Aside0.mk (Kd.R_elder' (by (with_reducible repeat (first | apply Kd.R_alloc | apply Kd.R_drewN | apply Kd.R_drew));exact HO313.out) (Kd.R_base ho0) hb)
     have n1_:=Aside0.mk (Kd.R_lower (Kd.R_new' ho0 (Kd.R_lt (by (with_reducible repeat (first | apply Kd.R_alloc | apply Kd.R_drewN | apply Kd.R_drew));exact HO313.out))) (below_size (by repeat (first | (with_reducible first | exact HB.out | apply b0_ | apply b1_ | apply b2_ | refine below_set ?_ GE305.out) | exact HB.out))))
     have n2_:=Aside0.mk (blk_below (g:=gb305) (o:=.cells #[.slice A0_0 l0_0.length c0_0,.slice A0_1 l0_1.length c0_1,.int .i64 a0_2,.bool a0_3] 37 (0,0)) (by (with_reducible repeat (first | refine blk_drewN ?_ _ | refine blk_drew ?_ | refine blk_alloc ?_ _));exact BK305.out) hb)
     have n3_:=Aside0.mk (below_step (by repeat (first | (with_reducible first | exact HB.out | apply b0_ | apply b1_ | apply b2_ | refine below_set ?_ GE305.out) | exact HB.out)) hb);clear HO313;clear BK305;clear HB;have HO313:=n0_;have HO316:=n1_;have BK305:=n2_;have HB:=n3_;clear n0_ n1_ n2_ n3_
     (try clear hb)
     (try clear hb2)
     (try clear hk)
     (try clear hi)
     (try clear ho0)
     obtain ⟨Ao26,co26,eo26⟩:=Kd.R_slice HO313.out
     (first | subst eo26 | (injection eo26 with f1_ f2_ f3_;have f4_:=f1_.symm;have f5_:=f3_.symm;clear f1_ f2_ f3_;subst f4_;subst f5_))
     obtain ⟨Ao27,co27,eo27⟩:=Kd.R_slice HO316.out
     (first | subst eo27 | (injection eo27 with f1_ f2_ f3_;have f4_:=f1_.symm;have f5_:=f3_.symm;clear f1_ f2_ f3_;subst f4_;subst f5_))
     refine hK.out _ _ ⟨(blk_cell BK305.out 0).trans rfl,(blk_cell BK305.out 1).trans rfl,(blk_cell BK305.out 2).trans rfl,(blk_cell BK305.out 3).trans rfl⟩ (fun hHeld => ?_);clear hK K;refine norm_ (a':=?_) ?_ ?_
     rotate_left
     ·
      show Act.put _ (some 52) _ = _
      simp only [Act.put,z0_,z1_,z2_,i64_w,i32_w];rfl
     refine one_ (i:=40) (N:=some 53) #[T0,T0,T0,T0,T0,T0,T0,T0,T0,T0,T0,T0,T0,T0,T0,T0,T0,T0,T0,T0,T0,T0,T0,T0,T0,T0,T0,T0,T0,T0,T0,T0,T0,T0,T0,T0,T0,T0,T0,T0,T0,F0,F0] rfl rfl (one_of HT_.out (by kernel_rfl)) (by decide) (fun K hK => ?_)
     refine goes_ Try.func35 (by kernel_rfl) rfl #[.slice Ao26 t311.length co26,.slice Ao27 t314.length co27] (by rfl) rfl rfl (by (try simp only [z3_,z4_,z5_]);first | done | rfl | (simp only [z6_,z7_];rfl)) ?_
     with_reducible refine (estoversref39_Same.calls kj2 _ _ t311 _ _ t314 t317 _ ?side1 ?side2 ?side3 ?side4 A20.out).mono ?_
     (case side1 => repeat (first | exact (Kd.R_reads' HO313.out).2.2 | (with_reducible refine Kd.C_alloc ?_ _) | (with_reducible refine Kd.C_drewN ?_ _) | (with_reducible refine Kd.C_drew ?_)))
     (case side2 => exact (Kd.R_reads' HO313.out).2.1)
     (case side3 => repeat (first | exact (Kd.R_reads' HO316.out).2.2 | (with_reducible refine Kd.C_alloc ?_ _) | (with_reducible refine Kd.C_drewN ?_ _) | (with_reducible refine Kd.C_drew ?_)))
     (case side4 => exact (Kd.R_reads' HO316.out).2.1)
     rintro e w' ⟨rfl,⟨nd,rfl⟩⟩
     refine ⟨_,rfl,?_⟩;refine hK.out _ _ ⟨(blk_cell BK305.out 0).trans rfl,(blk_cell BK305.out 1).trans rfl,(blk_cell BK305.out 2).trans rfl,(blk_cell BK305.out 3).trans rfl⟩ (fun hHeld => ?_);clear hK K;refine norm_ (a':=?_) ?_ ?_
     rotate_left
     ·
      show Act.put _ (some 53) _ = _
      simp only [Act.put,z0_,z1_,z2_,i64_w,i32_w];rfl
     refine pure_ (i:=41) (N:=some 54) (v:=?_) (a':=?_) #[T0,T0,T0,T0,T0,T0,T0,T0,T0,T0,T0,T0,T0,T0,T0,T0,T0,T0,T0,T0,T0,T0,T0,T0,T0,T0,T0,T0,T0,T0,T0,T0,T0,T0,T0,T0,T0,T0,T0,T0,T0,T0,F0] rfl rfl (any_of HT_.out (by kernel_rfl)) (fun _ _ _ h => h) (Or.inl ⟨by rfl,?_⟩) ?_ ?_
     rotate_left
     · intro w';go_simp;with_reducible rfl
     rotate_left
     · simp only [Act.put,z0_,z1_,z2_,i64_w,i32_w];rfl
     refine pure_ (i:=42) (N:=some 4) (v:=?_) (a':=?_) #[T0,T0,T0,T0,T0,T0,T0,T0,T0,T0,T0,T0,T0,T0,T0,T0,T0,T0,T0,T0,T0,T0,T0,T0,T0,T0,T0,T0,T0,T0,T0,T0,T0,T0,T0,T0,T0,T0,T0,T0,T0,T0,T0] rfl rfl (any_of HT_.out (by kernel_rfl)) (fun _ _ _ h => h) (Or.inl ⟨by rfl,?_⟩) ?_ ?_
     rotate_left
     · intro w';go_simp;with_reducible rfl
     rotate_left
     · simp only [Act.put,z0_,z1_,z2_,i64_w,i32_w];rfl
     refine done_ (done_of HT_.out (by kernel_rfl)) ?_
     try go_wp2
     go_ret;exact ⟨by first | rfl | (simp [errW_none,errW_some] <;> rfl) | (simp [*,errW_none,errW_some] <;> rfl),by repeat (first | (with_reducible first | exact HB.out | apply b0_ | apply b1_ | apply b2_ | refine below_set ?_ GE305.out) | exact HB.out)⟩
    subst c12
    have H1 : ((estoverslaw39_awake.f kj2).bind fun t308 => (some t308)) = some r:=by rw [if_pos rfl] at H;exact H
    clear H;have H:=H1;clear H1;replace H:=Option.bind_eq_some_iff.mp H;obtain ⟨t308,A130,H⟩:=H;replace H : (some t308) = some r:=H;have A13:=Aside0.mk A130;clear A130;obtain rfl:=Option.some.inj H
    go_wp2_with (first | ((with_reducible refine gate_callee (f:=29) rfl ?_);refine goesL_ (some 12) rfl rfl Try.func29 (by kernel_rfl) rfl #[] rfl (by (try simp only [z3_,z4_,z5_]);first | done | rfl | (simp only [z6_,z7_];rfl)) ?_;(with_reducible refine (estoverslaw39_awake.calls kj2  t308 _ A13.out).mono ?_);rintro e w14 ⟨rfl,hb⟩;refine ⟨_,rfl,?_⟩;have n0_:=Aside0.mk (blk_below (g:=gb305) (o:=.cells #[.slice A0_0 l0_0.length c0_0,.slice A0_1 l0_1.length c0_1,.int .i64 a0_2,.bool a0_3] 37 (0,0)) (by (with_reducible repeat (first | refine blk_drewN ?_ _ | refine blk_drew ?_ | refine blk_alloc ?_ _));exact BK305.out) hb);have n1_:=Aside0.mk (below_step (by repeat (first | (with_reducible first | exact HB.out | apply b0_ | apply b1_ | apply b2_ | refine below_set ?_ GE305.out) | exact HB.out)) hb);clear BK305;clear HB;have BK305:=n0_;have HB:=n1_;clear n0_ n1_))
    go_ret;exact ⟨by first | rfl | (simp [errW_none,errW_some] <;> rfl) | (simp [*,errW_none,errW_some] <;> rfl),by repeat (first | (with_reducible first | exact HB.out | apply b0_ | apply b1_ | apply b2_ | refine below_set ?_ GE305.out) | exact HB.out)⟩
end Go.Proofs.Ytnmenfkmndnoaaa.Pr
