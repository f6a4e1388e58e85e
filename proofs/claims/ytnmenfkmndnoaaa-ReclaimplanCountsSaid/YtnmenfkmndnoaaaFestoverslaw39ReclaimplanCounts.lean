-- Written by a program of this session (a changed copy of the kit's printer). Not trusted: Lean checks it.
import Derived.Test.YtnmenfkmndnoaaaM0
import Derived.Test.YtnmenfkmndnoaaaFestoverslaw39Few
import Derived.Test.YtnmenfkmndnoaaaFestoversref39Transit
import Derived.Test.YtnmenfkmndnoaaaFestoversref39Useful
import Derived.Test.YtnmenfkmndnoaaaM3
namespace Go.Proofs.Ytnmenfkmndnoaaa.Pr
open Go.RowKit Go.Proofs.YtnmenfkmndnoaaaW.PrintWords Go.Proofs.YtnmenfkmndnoaaaW.PrintLast Go.Proofs.YtnmenfkmndnoaaaW.PrintMore
attribute [local go_sem] max2_int min2_int max_two min_two max_three min_three max_four min_four
set_option linter.unusedVariables false
set_option linter.unusedSimpArgs false
def estoverslaw39_ReclaimplanCounts.j0 : Nat→Bool→List (S34)→List (S30)→Int→Bool→Option (Bool)
 | 0,_,_,_,_,_ => none
 | k + 1,x9,x348000,x348001,x348002,x348003 => if x9 = true then ((estoverslaw39_awake.f k).bind fun t350 => (some t350)) else ((reclaimplan_Useful.f k x348000 x348001 x348002 x348003).bind fun t351 => ((estoversref39_Useful.f k x348000 x348001 x348002 x348003).bind fun t352 => (if t351 = t352 then ((reclaimplan_Transit.f k x348000 x348001 x348002 x348003).bind fun t353 => ((estoversref39_Transit.f k x348000 x348001 x348002 x348003).bind fun t354 => (some (t353 == t354)))) else (some false))))
def estoverslaw39_ReclaimplanCounts.f (k : Nat) (l0_0 : List (S34)) (l0_1 : List (S30)) (a0_2 : Int) (a0_3 : Bool) : Option (Bool):=(estoverslaw39_awake.f k).bind fun t348 => (if t348 = true then ((estoverslaw39_Few.f l0_0 l0_1 a0_2 a0_3).bind fun t349 => (estoverslaw39_ReclaimplanCounts.j0 k (!t349) l0_0 l0_1 a0_2 a0_3)) else (estoverslaw39_ReclaimplanCounts.j0 k true l0_0 l0_1 a0_2 a0_3))
theorem estoverslaw39_ReclaimplanCounts.mono_l : ∀ k,(∀ y0 y1 y2 y3 y4,LeO (estoverslaw39_ReclaimplanCounts.j0 k y0 y1 y2 y3 y4) (estoverslaw39_ReclaimplanCounts.j0 (k + 1) y0 y1 y2 y3 y4))
 | 0 => fun _ _ _ _ _ r h => by simp [estoverslaw39_ReclaimplanCounts.j0] at h
 | k + 1 => by
  have ih0:=estoverslaw39_ReclaimplanCounts.mono_l k
  ·
   intro y0 y1 y2 y3 y4
   unfold estoverslaw39_ReclaimplanCounts.j0
   repeat' first
    | (with_reducible exact ih0 _ _ _ _ _)
    | (with_reducible exact estoverslaw39_awake.mono _)
    | (with_reducible exact estoversref39_Transit.mono _ _ _ _ _)
    | (with_reducible exact estoversref39_Useful.mono _ _ _ _ _)
    | (with_reducible exact reclaimplan_Transit.mono _ _ _ _ _)
    | (with_reducible exact reclaimplan_Useful.mono _ _ _ _ _)
    | (with_reducible exact LeO.refl _)
    | (with_reducible exact LeO.none _)
    | (with_reducible refine LeO.ite ?_ ?_)
    | (with_reducible refine LeO.bind ?_ (fun _ => ?_))
    | exact ih0 _ _ _ _ _
    | exact estoverslaw39_awake.mono _
    | exact estoversref39_Transit.mono _ _ _ _ _
    | exact estoversref39_Useful.mono _ _ _ _ _
    | exact reclaimplan_Transit.mono _ _ _ _ _
    | exact reclaimplan_Useful.mono _ _ _ _ _
    | exact LeO.none _
    | refine LeO.ite ?_ ?_
    | refine LeO.bind ?_ (fun _ => ?_)
theorem estoverslaw39_ReclaimplanCounts.mono : ∀ a0 a1 a2 a3 k,LeO (estoverslaw39_ReclaimplanCounts.f k a0 a1 a2 a3) (estoverslaw39_ReclaimplanCounts.f (k + 1) a0 a1 a2 a3):=by
 intro a0 a1 a2 a3 k;have ih0:=estoverslaw39_ReclaimplanCounts.mono_l k
 unfold estoverslaw39_ReclaimplanCounts.f
 repeat' first
  | (with_reducible exact ih0 _ _ _ _ _)
  | (with_reducible exact estoverslaw39_awake.mono _)
  | (with_reducible exact estoversref39_Transit.mono _ _ _ _ _)
  | (with_reducible exact estoversref39_Useful.mono _ _ _ _ _)
  | (with_reducible exact reclaimplan_Transit.mono _ _ _ _ _)
  | (with_reducible exact reclaimplan_Useful.mono _ _ _ _ _)
  | (with_reducible exact LeO.refl _)
  | (with_reducible exact LeO.none _)
  | (with_reducible refine LeO.ite ?_ ?_)
  | (with_reducible refine LeO.bind ?_ (fun _ => ?_))
  | exact ih0 _ _ _ _ _
  | exact estoverslaw39_awake.mono _
  | exact estoversref39_Transit.mono _ _ _ _ _
  | exact estoversref39_Useful.mono _ _ _ _ _
  | exact reclaimplan_Transit.mono _ _ _ _ _
  | exact reclaimplan_Useful.mono _ _ _ _ _
  | exact LeO.none _
  | refine LeO.ite ?_ ?_
  | refine LeO.bind ?_ (fun _ => ?_)
def estoverslaw39_ReclaimplanCounts.T3 : Bool × List (List Nat × List Nat):=(true,[([],[]),([0],[0]),([],[]),([2],[2]),([],[]),([4],[4]),([],[]),([6],[6]),([1,3,5,7],[1,3,5,7]),([],[]),([9],[9]),([],[]),([11],[11]),([],[]),([13],[13]),([],[]),([15],[15]),([10,12,14,16,8],[10,12,14,16]),([8,17],[8,17]),([18,17],[18]),([19],[19]),([20,19],[19,20]),([19],[19]),([22,19],[19,22]),([19],[19]),([24,19],[19,24]),([19],[19]),([26,19],[19,26]),([21,23,25,27,19,19],[19,21,23,25,27]),([19],[19]),([29,19],[19,29]),([19],[19]),([31,19],[19,31]),([19],[19]),([33,19],[19,33]),([19],[19]),([35,19],[19,35]),([30,32,34,36,28,19],[19,30,32,34,36]),([28,37,19],[19,28,37]),([19,38],[19,38]),([39,37,0,1,2,3,4,5,6,7,8,9,10,11,12,13,14,15,16,17,18,19,20,21,22,23,24,25,26,27,28,29,30,31,32,33,34,35,36,37,38,39],[39])])
def estoverslaw39_ReclaimplanCounts.B3 : List Nat:=[0,1,0,4,0,16,0,64,255,0,512,0,2048,0,8192,0,32768,131071,262143,524287,1048575,2097151,1048575,5242879,1048575,17825791,1048575,68157439,268435455,1048575,537919487,1048575,2148532223,1048575,8590983167,1048575,34360786943,137438953471,274877906943,549755813887,1099511627775]
theorem estoverslaw39_ReclaimplanCounts.tab3 : rtab .any (opsOf Try.f9 3) = estoverslaw39_ReclaimplanCounts.T3:=by kernel_rfl
theorem estoverslaw39_ReclaimplanCounts.bits3 : waitsOk estoverslaw39_ReclaimplanCounts.T3.2 estoverslaw39_ReclaimplanCounts.B3 = true:=by kernel_rfl
set_option maxHeartbeats 8000000 in
set_option maxRecDepth 100000 in
theorem estoverslaw39_ReclaimplanCounts.calls (k : Nat) (A0_0 : Option Addr) (c0_0 : Nat) (l0_0 : List (S34)) (A0_1 : Option Addr) (c0_1 : Nat) (l0_1 : List (S30)) (a0_2 : Int) (a0_3 : Bool) (r : Bool) (w : World) (hr0_0 : Kd.C k34 w A0_0 l0_0.length l0_0) (hc0_0 : l0_0.length≤c0_0) (hr0_1 : Kd.C k30 w A0_1 l0_1.length l0_1) (hc0_1 : l0_1.length≤c0_1) (h : estoverslaw39_ReclaimplanCounts.f k l0_0 l0_1 a0_2 a0_3 = some r) :
 Calls Try.prog 9 #[.agg #[.slice A0_0 l0_0.length c0_0,.slice A0_1 l0_1.length c0_1,.int .i64 a0_2,.bool a0_3]] w fun e w' => e = .returned (.bool r)∧Below w.heap.size w w':=by
 have hu37:=Try.underlying37;have HR0_0:=Aside0.mk hr0_0;have HC0_0:=Aside0.mk hc0_0;clear hr0_0 hc0_0;have HR0_1:=Aside0.mk hr0_1;have HC0_1:=Aside0.mk hc0_1;clear hr0_1 hc0_1;have HB:=Aside0.mk (Below.refl w.heap.size w)
 have H : ((estoverslaw39_awake.f k).bind fun t348 => (if t348 = true then ((estoverslaw39_Few.f l0_0 l0_1 a0_2 a0_3).bind fun t349 => (estoverslaw39_ReclaimplanCounts.j0 k (!t349) l0_0 l0_1 a0_2 a0_3)) else (estoverslaw39_ReclaimplanCounts.j0 k true l0_0 l0_1 a0_2 a0_3))) = some r:=h;clear h;have HC2:=Aside0.mk H;clear H
 go_enter Try.func9,Try.ntmps9
 go_upto_region 1 with (first | ((with_reducible refine gate_dst (N:=1) rfl ?_);refine box_event ?hg (N:=1) ?hd (cs:=#[.slice A0_0 l0_0.length c0_0,.slice A0_1 l0_1.length c0_1,.int .i64 a0_2,.bool a0_3]) (t:=37) ?hr ?_;(case hd => rfl);(case hg => rfl);(case hr => first | (go_simp;done) | (go_simp;rfl));intro gb347 hg w3 hbox hb;have n0_:=Aside0.mk (below_step (by repeat (first | (with_reducible first | exact HB.out | apply b0_ | apply b1_ | apply b2_) | exact HB.out)) hb);have n1_:=Aside0.mk (hbox);have n2_:=Aside0.mk ((by rw [hg];exact (below_size (by repeat (first | (with_reducible first | exact HB.out | apply b0_ | apply b1_ | apply b2_) | exact HB.out))) : w.heap.size≤gb347));have n3_:=Aside0.mk ((by rw [hg];exact (below_size (by repeat (first | (with_reducible first | exact HB.out | apply b0_ | apply b1_ | apply b2_) | exact HB.out))) : w.heap.size≤gb347));clear HB;have HB:=n0_;have BK347:=n1_;have GW347:=n2_;have GE347:=n3_;clear n0_ n1_ n2_ n3_;clear hb hbox hg))
 (try simp only [Act.put,List.setIfInBounds_toArray,List.set_cons_zero,List.set_cons_succ])
 go_cut [9] (fun v9 wc => ∃ (kq : Nat) (x9_1 : Bool),v9 = .bool x9_1∧Aside0 (estoverslaw39_ReclaimplanCounts.j0 kq x9_1 l0_0 l0_1 a0_2 a0_3 = some r)∧Aside0 (kq≤k)∧Aside0 (wc.heap[gb347]? = some (.cells #[(.slice A0_0 l0_0.length c0_0),(.slice A0_1 l0_1.length c0_1),.int .i64 a0_2,.bool a0_3] 37 (0,0)))∧Aside0 (Below w.heap.size w wc))
 case first =>
  have H:=HC2.out;clear HC2;replace H:=Option.bind_eq_some_iff.mp H;obtain ⟨t348,A40,H⟩:=H;replace H : (if t348 = true then ((estoverslaw39_Few.f l0_0 l0_1 a0_2 a0_3).bind fun t349 => (estoverslaw39_ReclaimplanCounts.j0 k (!t349) l0_0 l0_1 a0_2 a0_3)) else (estoverslaw39_ReclaimplanCounts.j0 k true l0_0 l0_1 a0_2 a0_3)) = some r:=H;have A4:=Aside0.mk A40;clear A40
  by_cases c5 : t348 = true
  rotate_left
  ·
   replace c5:=Bool.eq_false_iff.mpr c5;subst c5
   have H1 : (estoverslaw39_ReclaimplanCounts.j0 k true l0_0 l0_1 a0_2 a0_3) = some r:=by rw [if_neg (show ¬ (false = true) by decide)] at H;exact H
   clear H;have H:=H1;clear H1;have H':=Aside0.mk H;clear H
   go_wp2_with (first | ((with_reducible refine gate_callee (f:=29) rfl ?_);refine goesL_ (some 3) rfl rfl Try.func29 (by kernel_rfl) rfl #[] rfl (by (try simp only [z3_,z4_,z5_]);first | done | rfl | (simp only [z6_,z7_];rfl)) ?_;(with_reducible refine (estoverslaw39_awake.calls k  false _ A4.out).mono ?_);rintro e w10 ⟨rfl,hb⟩;refine ⟨_,rfl,?_⟩;have n0_:=Aside0.mk (blk_below (g:=gb347) (o:=.cells #[.slice A0_0 l0_0.length c0_0,.slice A0_1 l0_1.length c0_1,.int .i64 a0_2,.bool a0_3] 37 (0,0)) (by (with_reducible repeat (first | refine blk_drewN ?_ _ | refine blk_drew ?_ | refine blk_alloc ?_ _));exact BK347.out) hb);have n1_:=Aside0.mk (below_step (by repeat (first | (with_reducible first | exact HB.out | apply b0_ | apply b1_ | apply b2_ | refine below_set ?_ GE347.out) | exact HB.out)) hb);clear BK347;clear HB;have BK347:=n0_;have HB:=n1_;clear n0_ n1_))
   go_meet
   case rel => exact ⟨_,(true),(by first | rfl | (simp;done) | (simp [*];done)),H',⟨by first | omega | exact Nat.le_refl _⟩,⟨by (with_reducible repeat (first | refine blk_drewN ?_ _ | refine blk_drew ?_ | refine blk_alloc ?_ _));exact BK347.out⟩,⟨by repeat (first | (with_reducible first | exact HB.out | apply b0_ | apply b1_ | apply b2_ | refine below_set ?_ GE347.out) | exact HB.out)⟩⟩
  subst c5
  have H1 : ((estoverslaw39_Few.f l0_0 l0_1 a0_2 a0_3).bind fun t349 => (estoverslaw39_ReclaimplanCounts.j0 k (!t349) l0_0 l0_1 a0_2 a0_3)) = some r:=by rw [if_pos rfl] at H;exact H
  clear H;have H:=H1;clear H1;replace H:=Option.bind_eq_some_iff.mp H;obtain ⟨t349,A60,H⟩:=H;replace H : (estoverslaw39_ReclaimplanCounts.j0 k (!t349) l0_0 l0_1 a0_2 a0_3) = some r:=H;have A6:=Aside0.mk A60;clear A60;have H':=Aside0.mk H;clear H
  go_wp2_with (first | ((with_reducible refine gate_callee (f:=29) rfl ?_);refine goesL_ (some 3) rfl rfl Try.func29 (by kernel_rfl) rfl #[] rfl (by (try simp only [z3_,z4_,z5_]);first | done | rfl | (simp only [z6_,z7_];rfl)) ?_;(with_reducible refine (estoverslaw39_awake.calls k  true _ A4.out).mono ?_);rintro e w7 ⟨rfl,hb⟩;refine ⟨_,rfl,?_⟩;have n0_:=Aside0.mk (blk_below (g:=gb347) (o:=.cells #[.slice A0_0 l0_0.length c0_0,.slice A0_1 l0_1.length c0_1,.int .i64 a0_2,.bool a0_3] 37 (0,0)) (by (with_reducible repeat (first | refine blk_drewN ?_ _ | refine blk_drew ?_ | refine blk_alloc ?_ _));exact BK347.out) hb);have n1_:=Aside0.mk (below_step (by repeat (first | (with_reducible first | exact HB.out | apply b0_ | apply b1_ | apply b2_ | refine below_set ?_ GE347.out) | exact HB.out)) hb);clear BK347;clear HB;have BK347:=n0_;have HB:=n1_;clear n0_ n1_;obtain ⟨hcz8_0,hcz8_1,hcz8_2,hcz8_3,hfz8_0,hfz8_1,hfz8_2,hfz8_3⟩:=q4_ BK347.out) | (go_at_call 21;(with_reducible refine (estoverslaw39_Few.calls _ _ l0_0 _ _ l0_1 a0_2 a0_3 t349 _ ?side1 ?side2 ?side3 ?side4 A6.out).mono ?_);(case side1 => repeat (first | exact (Kd.C_below HR0_0.out HB.out) | (with_reducible refine Kd.C_alloc ?_ _) | (with_reducible refine Kd.C_drewN ?_ _) | (with_reducible refine Kd.C_drew ?_)));(case side2 => exact HC0_0.out);(case side3 => repeat (first | exact (Kd.C_below HR0_1.out HB.out) | (with_reducible refine Kd.C_alloc ?_ _) | (with_reducible refine Kd.C_drewN ?_ _) | (with_reducible refine Kd.C_drew ?_)));(case side4 => exact HC0_1.out);rintro e w9 ⟨rfl,hb⟩;have n0_:=Aside0.mk (blk_below (g:=gb347) (o:=.cells #[.slice A0_0 l0_0.length c0_0,.slice A0_1 l0_1.length c0_1,.int .i64 a0_2,.bool a0_3] 37 (0,0)) (by (with_reducible repeat (first | refine blk_drewN ?_ _ | refine blk_drew ?_ | refine blk_alloc ?_ _));exact BK347.out) hb);have n1_:=Aside0.mk (below_step (by repeat (first | (with_reducible first | exact HB.out | apply b0_ | apply b1_ | apply b2_ | refine below_set ?_ GE347.out) | exact HB.out)) hb);clear BK347;clear HB;have BK347:=n0_;have HB:=n1_;clear n0_ n1_))
  go_meet
  case rel => exact ⟨_,(!t349),(by first | rfl | (simp;done) | (simp [*];done)),H',⟨by first | omega | exact Nat.le_refl _⟩,⟨by (with_reducible repeat (first | refine blk_drewN ?_ _ | refine blk_drew ?_ | refine blk_alloc ?_ _));exact BK347.out⟩,⟨by repeat (first | (with_reducible first | exact HB.out | apply b0_ | apply b1_ | apply b2_ | refine below_set ?_ GE347.out) | exact HB.out)⟩⟩
 case rest =>
  clear HC2;obtain ⟨kq,x9_1,rfl,HA,HJ1,BK347,HB⟩:=hcut
  cases kq with
   | zero => exact absurd HA.out (by simp [estoverslaw39_ReclaimplanCounts.j0])
   | succ kj1 =>
    have H:=HA.out;clear HA;simp only [estoverslaw39_ReclaimplanCounts.j0] at H;by_cases c11 : x9_1 = true
    rotate_left
    ·
     replace c11:=Bool.eq_false_iff.mpr c11;subst c11
     have H1 : ((reclaimplan_Useful.f kj1 l0_0 l0_1 a0_2 a0_3).bind fun t351 => ((estoversref39_Useful.f kj1 l0_0 l0_1 a0_2 a0_3).bind fun t352 => (if t351 = t352 then ((reclaimplan_Transit.f kj1 l0_0 l0_1 a0_2 a0_3).bind fun t353 => ((estoversref39_Transit.f kj1 l0_0 l0_1 a0_2 a0_3).bind fun t354 => (some (t353 == t354)))) else (some false)))) = some r:=by rw [if_neg (show ¬ (false = true) by decide)] at H;exact H
     clear H;have H:=H1;clear H1;replace H:=Option.bind_eq_some_iff.mp H;obtain ⟨t351,A140,H⟩:=H;replace H : ((estoversref39_Useful.f kj1 l0_0 l0_1 a0_2 a0_3).bind fun t352 => (if t351 = t352 then ((reclaimplan_Transit.f kj1 l0_0 l0_1 a0_2 a0_3).bind fun t353 => ((estoversref39_Transit.f kj1 l0_0 l0_1 a0_2 a0_3).bind fun t354 => (some (t353 == t354)))) else (some false))) = some r:=H
     have A14:=Aside0.mk A140;clear A140;replace H:=Option.bind_eq_some_iff.mp H;obtain ⟨t352,A150,H⟩:=H;replace H : (if t351 = t352 then ((reclaimplan_Transit.f kj1 l0_0 l0_1 a0_2 a0_3).bind fun t353 => ((estoversref39_Transit.f kj1 l0_0 l0_1 a0_2 a0_3).bind fun t354 => (some (t353 == t354)))) else (some false)) = some r:=H;have A15:=Aside0.mk A150;clear A150
     by_cases c16 : t351 = t352
     rotate_left
     ·
      rw [if_neg c16] at H;have c16b0 : (t351 == t352) = false:=beq_eq_false_iff_ne.mpr c16;have c16b1 : (t351 != t352) = true:=bne_iff_ne.mpr c16;obtain rfl:=Option.some.inj H
      try go_wp2
      have n0_:=Aside0.mk (blk_drew BK347.out);have n1_:=Aside0.mk (b2_ HB.out);clear BK347;clear HB;have BK347:=n0_;have HB:=n1_;clear n0_ n1_
      refine start_ (n:=41) (S:=fun w' => w'.cell? ⟨gb347,0,none⟩ = some (.slice A0_0 l0_0.length c0_0)∧w'.cell? ⟨gb347,1,none⟩ = some (.slice A0_1 l0_1.length c0_1)∧w'.cell? ⟨gb347,2,none⟩ = some (.int .i64 a0_2)∧w'.cell? ⟨gb347,3,none⟩ = some (.bool a0_3)) (ds:=[]) #[F0,F0,F0,F0,F0,F0,F0,F0,F0,F0,F0,F0,F0,F0,F0,F0,F0,F0,F0,F0,F0,F0,F0,F0,F0,F0,F0,F0,F0,F0,F0,F0,F0,F0,F0,F0,F0,F0,F0,F0,F0] (by kernel_rfl) rfl rfl ⟨(blk_cell BK347.out 0).trans rfl,(blk_cell BK347.out 1).trans rfl,(blk_cell BK347.out 2).trans rfl,(blk_cell BK347.out 3).trans rfl⟩ (fun hHeld => ?_);refine with_tabW estoverslaw39_ReclaimplanCounts.tab3 estoverslaw39_ReclaimplanCounts.bits3 (fun HT_ HW_ => ?_)
      generalize wc.drew = w24 at BK347 HB hHeld ⊢;refine pure_ (i:=0) (N:=some 11) (v:=?_) (a':=?_) #[T0,F0,F0,F0,F0,F0,F0,F0,F0,F0,F0,F0,F0,F0,F0,F0,F0,F0,F0,F0,F0,F0,F0,F0,F0,F0,F0,F0,F0,F0,F0,F0,F0,F0,F0,F0,F0,F0,F0,F0,F0] rfl rfl (any_of HT_.out (by kernel_rfl)) (fun _ _ _ h => h) (Or.inl ⟨by rfl,?_⟩) ?_ ?_
      rotate_left
      · intro w';go_simp;with_reducible rfl
      rotate_left
      · simp only [Act.put,z0_,z1_,z2_,i64_w,i32_w];rfl
      refine pure_ (i:=2) (N:=some 13) (v:=?_) (a':=?_) #[T0,F0,T0,F0,F0,F0,F0,F0,F0,F0,F0,F0,F0,F0,F0,F0,F0,F0,F0,F0,F0,F0,F0,F0,F0,F0,F0,F0,F0,F0,F0,F0,F0,F0,F0,F0,F0,F0,F0,F0,F0] rfl rfl (any_of HT_.out (by kernel_rfl)) (fun _ _ _ h => h) (Or.inl ⟨by rfl,?_⟩) ?_ ?_
      rotate_left
      · intro w';go_simp;with_reducible rfl
      rotate_left
      · simp only [Act.put,z0_,z1_,z2_,i64_w,i32_w];rfl
      refine pure_ (i:=4) (N:=some 15) (v:=?_) (a':=?_) #[T0,F0,T0,F0,T0,F0,F0,F0,F0,F0,F0,F0,F0,F0,F0,F0,F0,F0,F0,F0,F0,F0,F0,F0,F0,F0,F0,F0,F0,F0,F0,F0,F0,F0,F0,F0,F0,F0,F0,F0,F0] rfl rfl (any_of HT_.out (by kernel_rfl)) (fun _ _ _ h => h) (Or.inl ⟨by rfl,?_⟩) ?_ ?_
      rotate_left
      · intro w';go_simp;with_reducible rfl
      rotate_left
      · simp only [Act.put,z0_,z1_,z2_,i64_w,i32_w];rfl
      refine pure_ (i:=6) (N:=some 17) (v:=?_) (a':=?_) #[T0,F0,T0,F0,T0,F0,T0,F0,F0,F0,F0,F0,F0,F0,F0,F0,F0,F0,F0,F0,F0,F0,F0,F0,F0,F0,F0,F0,F0,F0,F0,F0,F0,F0,F0,F0,F0,F0,F0,F0,F0] rfl rfl (any_of HT_.out (by kernel_rfl)) (fun _ _ _ h => h) (Or.inl ⟨by rfl,?_⟩) ?_ ?_
      rotate_left
      · intro w';go_simp;with_reducible rfl
      rotate_left
      · simp only [Act.put,z0_,z1_,z2_,i64_w,i32_w];rfl
      refine pure_ (i:=9) (N:=some 20) (v:=?_) (a':=?_) #[T0,F0,T0,F0,T0,F0,T0,F0,F0,T0,F0,F0,F0,F0,F0,F0,F0,F0,F0,F0,F0,F0,F0,F0,F0,F0,F0,F0,F0,F0,F0,F0,F0,F0,F0,F0,F0,F0,F0,F0,F0] rfl rfl (any_of HT_.out (by kernel_rfl)) (fun _ _ _ h => h) (Or.inl ⟨by rfl,?_⟩) ?_ ?_
      rotate_left
      · intro w';go_simp;with_reducible rfl
      rotate_left
      · simp only [Act.put,z0_,z1_,z2_,i64_w,i32_w];rfl
      refine pure_ (i:=11) (N:=some 22) (v:=?_) (a':=?_) #[T0,F0,T0,F0,T0,F0,T0,F0,F0,T0,F0,T0,F0,F0,F0,F0,F0,F0,F0,F0,F0,F0,F0,F0,F0,F0,F0,F0,F0,F0,F0,F0,F0,F0,F0,F0,F0,F0,F0,F0,F0] rfl rfl (any_of HT_.out (by kernel_rfl)) (fun _ _ _ h => h) (Or.inl ⟨by rfl,?_⟩) ?_ ?_
      rotate_left
      · intro w';go_simp;with_reducible rfl
      rotate_left
      · simp only [Act.put,z0_,z1_,z2_,i64_w,i32_w];rfl
      refine pure_ (i:=13) (N:=some 24) (v:=?_) (a':=?_) #[T0,F0,T0,F0,T0,F0,T0,F0,F0,T0,F0,T0,F0,T0,F0,F0,F0,F0,F0,F0,F0,F0,F0,F0,F0,F0,F0,F0,F0,F0,F0,F0,F0,F0,F0,F0,F0,F0,F0,F0,F0] rfl rfl (any_of HT_.out (by kernel_rfl)) (fun _ _ _ h => h) (Or.inl ⟨by rfl,?_⟩) ?_ ?_
      rotate_left
      · intro w';go_simp;with_reducible rfl
      rotate_left
      · simp only [Act.put,z0_,z1_,z2_,i64_w,i32_w];rfl
      refine pure_ (i:=15) (N:=some 26) (v:=?_) (a':=?_) #[T0,F0,T0,F0,T0,F0,T0,F0,F0,T0,F0,T0,F0,T0,F0,T0,F0,F0,F0,F0,F0,F0,F0,F0,F0,F0,F0,F0,F0,F0,F0,F0,F0,F0,F0,F0,F0,F0,F0,F0,F0] rfl rfl (any_of HT_.out (by kernel_rfl)) (fun _ _ _ h => h) (Or.inl ⟨by rfl,?_⟩) ?_ ?_
      rotate_left
      · intro w';go_simp;with_reducible rfl
      rotate_left
      · simp only [Act.put,z0_,z1_,z2_,i64_w,i32_w];rfl
      refine take_ (i:=1) (N:=some 12) (v:=?_) (a':=?_) #[T0,T0,T0,F0,T0,F0,T0,F0,F0,T0,F0,T0,F0,T0,F0,T0,F0,F0,F0,F0,F0,F0,F0,F0,F0,F0,F0,F0,F0,F0,F0,F0,F0,F0,F0,F0,F0,F0,F0,F0,F0] rfl rfl (take_ofW HT_.out HW_.out (by kernel_rfl)) (fun _ _ _ h => h) (Or.inl ⟨by rfl,?_⟩) hHeld ?_ ?_
      rotate_left
      ·
       rintro w' ⟨s0,s1,s2,s3⟩
       go_simp;with_reducible rfl
      rotate_left
      · simp only [Act.put,z0_,z1_,z2_,i64_w,i32_w];rfl
      refine take_ (i:=3) (N:=some 14) (v:=?_) (a':=?_) #[T0,T0,T0,T0,T0,F0,T0,F0,F0,T0,F0,T0,F0,T0,F0,T0,F0,F0,F0,F0,F0,F0,F0,F0,F0,F0,F0,F0,F0,F0,F0,F0,F0,F0,F0,F0,F0,F0,F0,F0,F0] rfl rfl (take_ofW HT_.out HW_.out (by kernel_rfl)) (fun _ _ _ h => h) (Or.inl ⟨by rfl,?_⟩) hHeld ?_ ?_
      rotate_left
      ·
       rintro w' ⟨s0,s1,s2,s3⟩
       go_simp;with_reducible rfl
      rotate_left
      · simp only [Act.put,z0_,z1_,z2_,i64_w,i32_w];rfl
      refine take_ (i:=5) (N:=some 16) (v:=?_) (a':=?_) #[T0,T0,T0,T0,T0,T0,T0,F0,F0,T0,F0,T0,F0,T0,F0,T0,F0,F0,F0,F0,F0,F0,F0,F0,F0,F0,F0,F0,F0,F0,F0,F0,F0,F0,F0,F0,F0,F0,F0,F0,F0] rfl rfl (take_ofW HT_.out HW_.out (by kernel_rfl)) (fun _ _ _ h => h) (Or.inl ⟨by rfl,?_⟩) hHeld ?_ ?_
      rotate_left
      ·
       rintro w' ⟨s0,s1,s2,s3⟩
       go_simp;with_reducible rfl
      rotate_left
      · simp only [Act.put,z0_,z1_,z2_,i64_w,i32_w];rfl
      refine take_ (i:=7) (N:=some 18) (v:=?_) (a':=?_) #[T0,T0,T0,T0,T0,T0,T0,T0,F0,T0,F0,T0,F0,T0,F0,T0,F0,F0,F0,F0,F0,F0,F0,F0,F0,F0,F0,F0,F0,F0,F0,F0,F0,F0,F0,F0,F0,F0,F0,F0,F0] rfl rfl (take_ofW HT_.out HW_.out (by kernel_rfl)) (fun _ _ _ h => h) (Or.inl ⟨by rfl,?_⟩) hHeld ?_ ?_
      rotate_left
      ·
       rintro w' ⟨s0,s1,s2,s3⟩
       go_simp;with_reducible rfl
      rotate_left
      · simp only [Act.put,z0_,z1_,z2_,i64_w,i32_w];rfl
      refine take_ (i:=10) (N:=some 21) (v:=?_) (a':=?_) #[T0,T0,T0,T0,T0,T0,T0,T0,F0,T0,T0,T0,F0,T0,F0,T0,F0,F0,F0,F0,F0,F0,F0,F0,F0,F0,F0,F0,F0,F0,F0,F0,F0,F0,F0,F0,F0,F0,F0,F0,F0] rfl rfl (take_ofW HT_.out HW_.out (by kernel_rfl)) (fun _ _ _ h => h) (Or.inl ⟨by rfl,?_⟩) hHeld ?_ ?_
      rotate_left
      ·
       rintro w' ⟨s0,s1,s2,s3⟩
       go_simp;with_reducible rfl
      rotate_left
      · simp only [Act.put,z0_,z1_,z2_,i64_w,i32_w];rfl
      refine take_ (i:=12) (N:=some 23) (v:=?_) (a':=?_) #[T0,T0,T0,T0,T0,T0,T0,T0,F0,T0,T0,T0,T0,T0,F0,T0,F0,F0,F0,F0,F0,F0,F0,F0,F0,F0,F0,F0,F0,F0,F0,F0,F0,F0,F0,F0,F0,F0,F0,F0,F0] rfl rfl (take_ofW HT_.out HW_.out (by kernel_rfl)) (fun _ _ _ h => h) (Or.inl ⟨by rfl,?_⟩) hHeld ?_ ?_
      rotate_left
      ·
       rintro w' ⟨s0,s1,s2,s3⟩
       go_simp;with_reducible rfl
      rotate_left
      · simp only [Act.put,z0_,z1_,z2_,i64_w,i32_w];rfl
      refine take_ (i:=14) (N:=some 25) (v:=?_) (a':=?_) #[T0,T0,T0,T0,T0,T0,T0,T0,F0,T0,T0,T0,T0,T0,T0,T0,F0,F0,F0,F0,F0,F0,F0,F0,F0,F0,F0,F0,F0,F0,F0,F0,F0,F0,F0,F0,F0,F0,F0,F0,F0] rfl rfl (take_ofW HT_.out HW_.out (by kernel_rfl)) (fun _ _ _ h => h) (Or.inl ⟨by rfl,?_⟩) hHeld ?_ ?_
      rotate_left
      ·
       rintro w' ⟨s0,s1,s2,s3⟩
       go_simp;with_reducible rfl
      rotate_left
      · simp only [Act.put,z0_,z1_,z2_,i64_w,i32_w];rfl
      refine take_ (i:=16) (N:=some 27) (v:=?_) (a':=?_) #[T0,T0,T0,T0,T0,T0,T0,T0,F0,T0,T0,T0,T0,T0,T0,T0,T0,F0,F0,F0,F0,F0,F0,F0,F0,F0,F0,F0,F0,F0,F0,F0,F0,F0,F0,F0,F0,F0,F0,F0,F0] rfl rfl (take_ofW HT_.out HW_.out (by kernel_rfl)) (fun _ _ _ h => h) (Or.inl ⟨by rfl,?_⟩) hHeld ?_ ?_
      rotate_left
      ·
       rintro w' ⟨s0,s1,s2,s3⟩
       go_simp;with_reducible rfl
      rotate_left
      · simp only [Act.put,z0_,z1_,z2_,i64_w,i32_w];rfl
      refine one_ (i:=8) (N:=some 19) #[T0,T0,T0,T0,T0,T0,T0,T0,T0,T0,T0,T0,T0,T0,T0,T0,T0,F0,F0,F0,F0,F0,F0,F0,F0,F0,F0,F0,F0,F0,F0,F0,F0,F0,F0,F0,F0,F0,F0,F0,F0] rfl rfl (one_of HT_.out (by kernel_rfl)) (by decide) (fun K hK => ?_)
      refine goes_ Try.func38 (by kernel_rfl) rfl #[.slice A0_0 l0_0.length c0_0,.slice A0_1 l0_1.length c0_1,.int .i64 a0_2,.bool a0_3] (by rfl) rfl rfl (by (try simp only [z3_,z4_,z5_]);first | done | rfl | (simp only [z6_,z7_];rfl)) ?_
      with_reducible refine (reclaimplan_Useful.calls kj1 _ _ l0_0 _ _ l0_1 a0_2 a0_3 t351 _ ?side1 ?side2 ?side3 ?side4 A14.out).mono ?_
      (case side1 => repeat (first | exact (Kd.C_below HR0_0.out HB.out) | (with_reducible refine Kd.C_alloc ?_ _) | (with_reducible refine Kd.C_drewN ?_ _) | (with_reducible refine Kd.C_drew ?_)))
      (case side2 => exact HC0_0.out)
      (case side3 => repeat (first | exact (Kd.C_below HR0_1.out HB.out) | (with_reducible refine Kd.C_alloc ?_ _) | (with_reducible refine Kd.C_drewN ?_ _) | (with_reducible refine Kd.C_drew ?_)))
      (case side4 => exact HC0_1.out)
      rintro e w25 ⟨rfl,hb⟩
      refine ⟨_,rfl,?_⟩;have n0_:=Aside0.mk (blk_below (g:=gb347) (o:=.cells #[.slice A0_0 l0_0.length c0_0,.slice A0_1 l0_1.length c0_1,.int .i64 a0_2,.bool a0_3] 37 (0,0)) (by (with_reducible repeat (first | refine blk_drewN ?_ _ | refine blk_drew ?_ | refine blk_alloc ?_ _));exact BK347.out) hb)
      have n1_:=Aside0.mk (below_step (by repeat (first | (with_reducible first | exact HB.out | apply b0_ | apply b1_ | apply b2_ | refine below_set ?_ GE347.out) | exact HB.out)) hb);clear BK347;clear HB;have BK347:=n0_;have HB:=n1_;clear n0_ n1_
      (try clear hb)
      (try clear hb2)
      (try clear hk)
      (try clear hi)
      refine hK.out _ _ ⟨(blk_cell BK347.out 0).trans rfl,(blk_cell BK347.out 1).trans rfl,(blk_cell BK347.out 2).trans rfl,(blk_cell BK347.out 3).trans rfl⟩ (fun hHeld => ?_);clear hK K;refine norm_ (a':=?_) ?_ ?_
      rotate_left
      ·
       show Act.put _ (some 19) _ = _
       simp only [Act.put,z0_,z1_,z2_,i64_w,i32_w];rfl
      refine one_ (i:=17) (N:=some 28) #[T0,T0,T0,T0,T0,T0,T0,T0,T0,T0,T0,T0,T0,T0,T0,T0,T0,T0,F0,F0,F0,F0,F0,F0,F0,F0,F0,F0,F0,F0,F0,F0,F0,F0,F0,F0,F0,F0,F0,F0,F0] rfl rfl (one_of HT_.out (by kernel_rfl)) (by decide) (fun K hK => ?_)
      refine goes_ Try.func39 (by kernel_rfl) rfl #[.slice A0_0 l0_0.length c0_0,.slice A0_1 l0_1.length c0_1,.int .i64 a0_2,.bool a0_3] (by rfl) rfl rfl (by (try simp only [z3_,z4_,z5_]);first | done | rfl | (simp only [z6_,z7_];rfl)) ?_
      with_reducible refine (estoversref39_Useful.calls kj1 _ _ l0_0 _ _ l0_1 a0_2 a0_3 t352 _ ?side1 ?side2 ?side3 ?side4 A15.out).mono ?_
      (case side1 => repeat (first | exact (Kd.C_below HR0_0.out HB.out) | (with_reducible refine Kd.C_alloc ?_ _) | (with_reducible refine Kd.C_drewN ?_ _) | (with_reducible refine Kd.C_drew ?_)))
      (case side2 => exact HC0_0.out)
      (case side3 => repeat (first | exact (Kd.C_below HR0_1.out HB.out) | (with_reducible refine Kd.C_alloc ?_ _) | (with_reducible refine Kd.C_drewN ?_ _) | (with_reducible refine Kd.C_drew ?_)))
      (case side4 => exact HC0_1.out)
      rintro e w26 ⟨rfl,hb⟩
      refine ⟨_,rfl,?_⟩;have n0_:=Aside0.mk (blk_below (g:=gb347) (o:=.cells #[.slice A0_0 l0_0.length c0_0,.slice A0_1 l0_1.length c0_1,.int .i64 a0_2,.bool a0_3] 37 (0,0)) (by (with_reducible repeat (first | refine blk_drewN ?_ _ | refine blk_drew ?_ | refine blk_alloc ?_ _));exact BK347.out) hb)
      have n1_:=Aside0.mk (below_step (by repeat (first | (with_reducible first | exact HB.out | apply b0_ | apply b1_ | apply b2_ | refine below_set ?_ GE347.out) | exact HB.out)) hb);clear BK347;clear HB;have BK347:=n0_;have HB:=n1_;clear n0_ n1_
      (try clear hb)
      (try clear hb2)
      (try clear hk)
      (try clear hi)
      refine hK.out _ _ ⟨(blk_cell BK347.out 0).trans rfl,(blk_cell BK347.out 1).trans rfl,(blk_cell BK347.out 2).trans rfl,(blk_cell BK347.out 3).trans rfl⟩ (fun hHeld => ?_);clear hK K;refine norm_ (a':=?_) ?_ ?_
      rotate_left
      ·
       show Act.put _ (some 28) _ = _
       simp only [Act.put,z0_,z1_,z2_,i64_w,i32_w];rfl
      refine pure_ (i:=18) (N:=some 29) (v:=?_) (a':=?_) #[T0,T0,T0,T0,T0,T0,T0,T0,T0,T0,T0,T0,T0,T0,T0,T0,T0,T0,T0,F0,F0,F0,F0,F0,F0,F0,F0,F0,F0,F0,F0,F0,F0,F0,F0,F0,F0,F0,F0,F0,F0] rfl rfl (any_of HT_.out (by kernel_rfl)) (fun _ _ _ h => h) (Or.inl ⟨by rfl,?_⟩) ?_ ?_
      rotate_left
      · intro w';go_simp;with_reducible rfl
      rotate_left
      · simp only [Act.put,z0_,z1_,z2_,i64_w,i32_w];rfl
      refine pure_ (i:=19) (N:=some 30) (v:=?_) (a':=?_) #[T0,T0,T0,T0,T0,T0,T0,T0,T0,T0,T0,T0,T0,T0,T0,T0,T0,T0,T0,T0,F0,F0,F0,F0,F0,F0,F0,F0,F0,F0,F0,F0,F0,F0,F0,F0,F0,F0,F0,F0,F0] rfl rfl (any_of HT_.out (by kernel_rfl)) (fun _ _ _ h => h) (Or.inl ⟨by rfl,?_⟩) ?_ ?_
      rotate_left
      · intro w';go_simp;with_reducible rfl
      rotate_left
      · simp only [Act.put,z0_,z1_,z2_,i64_w,i32_w];rfl
      refine pure_ (i:=20) (N:=some 31) (v:=undef) (a':=?_) #[T0,T0,T0,T0,T0,T0,T0,T0,T0,T0,T0,T0,T0,T0,T0,T0,T0,T0,T0,T0,T0,F0,F0,F0,F0,F0,F0,F0,F0,F0,F0,F0,F0,F0,F0,F0,F0,F0,F0,F0,F0] rfl rfl (any_of HT_.out (by kernel_rfl)) (fun _ _ _ h => h) (Or.inr ⟨by rfl,rfl⟩) ?_ ?_
      rotate_left
      · simp only [Act.put,z0_,z1_,z2_,i64_w,i32_w];rfl
      refine pure_ (i:=21) (N:=some 32) (v:=undef) (a':=?_) #[T0,T0,T0,T0,T0,T0,T0,T0,T0,T0,T0,T0,T0,T0,T0,T0,T0,T0,T0,T0,T0,T0,F0,F0,F0,F0,F0,F0,F0,F0,F0,F0,F0,F0,F0,F0,F0,F0,F0,F0,F0] rfl rfl (any_of HT_.out (by kernel_rfl)) (fun _ _ _ h => h) (Or.inr ⟨by rfl,rfl⟩) ?_ ?_
      rotate_left
      · simp only [Act.put,z0_,z1_,z2_,i64_w,i32_w];rfl
      refine pure_ (i:=22) (N:=some 33) (v:=undef) (a':=?_) #[T0,T0,T0,T0,T0,T0,T0,T0,T0,T0,T0,T0,T0,T0,T0,T0,T0,T0,T0,T0,T0,T0,T0,F0,F0,F0,F0,F0,F0,F0,F0,F0,F0,F0,F0,F0,F0,F0,F0,F0,F0] rfl rfl (any_of HT_.out (by kernel_rfl)) (fun _ _ _ h => h) (Or.inr ⟨by rfl,rfl⟩) ?_ ?_
      rotate_left
      · simp only [Act.put,z0_,z1_,z2_,i64_w,i32_w];rfl
      refine pure_ (i:=23) (N:=some 34) (v:=undef) (a':=?_) #[T0,T0,T0,T0,T0,T0,T0,T0,T0,T0,T0,T0,T0,T0,T0,T0,T0,T0,T0,T0,T0,T0,T0,T0,F0,F0,F0,F0,F0,F0,F0,F0,F0,F0,F0,F0,F0,F0,F0,F0,F0] rfl rfl (any_of HT_.out (by kernel_rfl)) (fun _ _ _ h => h) (Or.inr ⟨by rfl,rfl⟩) ?_ ?_
      rotate_left
      · simp only [Act.put,z0_,z1_,z2_,i64_w,i32_w];rfl
      refine pure_ (i:=24) (N:=some 35) (v:=undef) (a':=?_) #[T0,T0,T0,T0,T0,T0,T0,T0,T0,T0,T0,T0,T0,T0,T0,T0,T0,T0,T0,T0,T0,T0,T0,T0,T0,F0,F0,F0,F0,F0,F0,F0,F0,F0,F0,F0,F0,F0,F0,F0,F0] rfl rfl (any_of HT_.out (by kernel_rfl)) (fun _ _ _ h => h) (Or.inr ⟨by rfl,rfl⟩) ?_ ?_
      rotate_left
      · simp only [Act.put,z0_,z1_,z2_,i64_w,i32_w];rfl
      refine pure_ (i:=25) (N:=some 36) (v:=undef) (a':=?_) #[T0,T0,T0,T0,T0,T0,T0,T0,T0,T0,T0,T0,T0,T0,T0,T0,T0,T0,T0,T0,T0,T0,T0,T0,T0,T0,F0,F0,F0,F0,F0,F0,F0,F0,F0,F0,F0,F0,F0,F0,F0] rfl rfl (any_of HT_.out (by kernel_rfl)) (fun _ _ _ h => h) (Or.inr ⟨by rfl,rfl⟩) ?_ ?_
      rotate_left
      · simp only [Act.put,z0_,z1_,z2_,i64_w,i32_w];rfl
      refine pure_ (i:=26) (N:=some 37) (v:=undef) (a':=?_) #[T0,T0,T0,T0,T0,T0,T0,T0,T0,T0,T0,T0,T0,T0,T0,T0,T0,T0,T0,T0,T0,T0,T0,T0,T0,T0,T0,F0,F0,F0,F0,F0,F0,F0,F0,F0,F0,F0,F0,F0,F0] rfl rfl (any_of HT_.out (by kernel_rfl)) (fun _ _ _ h => h) (Or.inr ⟨by rfl,rfl⟩) ?_ ?_
      rotate_left
      · simp only [Act.put,z0_,z1_,z2_,i64_w,i32_w];rfl
      refine pure_ (i:=27) (N:=some 38) (v:=undef) (a':=?_) #[T0,T0,T0,T0,T0,T0,T0,T0,T0,T0,T0,T0,T0,T0,T0,T0,T0,T0,T0,T0,T0,T0,T0,T0,T0,T0,T0,T0,F0,F0,F0,F0,F0,F0,F0,F0,F0,F0,F0,F0,F0] rfl rfl (any_of HT_.out (by kernel_rfl)) (fun _ _ _ h => h) (Or.inr ⟨by rfl,rfl⟩) ?_ ?_
      rotate_left
      · simp only [Act.put,z0_,z1_,z2_,i64_w,i32_w];rfl
      refine pure_ (i:=28) (N:=some 39) (v:=undef) (a':=?_) #[T0,T0,T0,T0,T0,T0,T0,T0,T0,T0,T0,T0,T0,T0,T0,T0,T0,T0,T0,T0,T0,T0,T0,T0,T0,T0,T0,T0,T0,F0,F0,F0,F0,F0,F0,F0,F0,F0,F0,F0,F0] rfl rfl (any_of HT_.out (by kernel_rfl)) (fun _ _ _ h => h) (Or.inr ⟨by rfl,rfl⟩) ?_ ?_
      rotate_left
      · simp only [Act.put,z0_,z1_,z2_,i64_w,i32_w];rfl
      refine pure_ (i:=29) (N:=some 40) (v:=undef) (a':=?_) #[T0,T0,T0,T0,T0,T0,T0,T0,T0,T0,T0,T0,T0,T0,T0,T0,T0,T0,T0,T0,T0,T0,T0,T0,T0,T0,T0,T0,T0,T0,F0,F0,F0,F0,F0,F0,F0,F0,F0,F0,F0] rfl rfl (any_of HT_.out (by kernel_rfl)) (fun _ _ _ h => h) (Or.inr ⟨by rfl,rfl⟩) ?_ ?_
      rotate_left
      · simp only [Act.put,z0_,z1_,z2_,i64_w,i32_w];rfl
      refine pure_ (i:=30) (N:=some 41) (v:=undef) (a':=?_) #[T0,T0,T0,T0,T0,T0,T0,T0,T0,T0,T0,T0,T0,T0,T0,T0,T0,T0,T0,T0,T0,T0,T0,T0,T0,T0,T0,T0,T0,T0,T0,F0,F0,F0,F0,F0,F0,F0,F0,F0,F0] rfl rfl (any_of HT_.out (by kernel_rfl)) (fun _ _ _ h => h) (Or.inr ⟨by rfl,rfl⟩) ?_ ?_
      rotate_left
      · simp only [Act.put,z0_,z1_,z2_,i64_w,i32_w];rfl
      refine pure_ (i:=31) (N:=some 42) (v:=undef) (a':=?_) #[T0,T0,T0,T0,T0,T0,T0,T0,T0,T0,T0,T0,T0,T0,T0,T0,T0,T0,T0,T0,T0,T0,T0,T0,T0,T0,T0,T0,T0,T0,T0,T0,F0,F0,F0,F0,F0,F0,F0,F0,F0] rfl rfl (any_of HT_.out (by kernel_rfl)) (fun _ _ _ h => h) (Or.inr ⟨by rfl,rfl⟩) ?_ ?_
      rotate_left
      · simp only [Act.put,z0_,z1_,z2_,i64_w,i32_w];rfl
      refine pure_ (i:=32) (N:=some 43) (v:=undef) (a':=?_) #[T0,T0,T0,T0,T0,T0,T0,T0,T0,T0,T0,T0,T0,T0,T0,T0,T0,T0,T0,T0,T0,T0,T0,T0,T0,T0,T0,T0,T0,T0,T0,T0,T0,F0,F0,F0,F0,F0,F0,F0,F0] rfl rfl (any_of HT_.out (by kernel_rfl)) (fun _ _ _ h => h) (Or.inr ⟨by rfl,rfl⟩) ?_ ?_
      rotate_left
      · simp only [Act.put,z0_,z1_,z2_,i64_w,i32_w];rfl
      refine pure_ (i:=33) (N:=some 44) (v:=undef) (a':=?_) #[T0,T0,T0,T0,T0,T0,T0,T0,T0,T0,T0,T0,T0,T0,T0,T0,T0,T0,T0,T0,T0,T0,T0,T0,T0,T0,T0,T0,T0,T0,T0,T0,T0,T0,F0,F0,F0,F0,F0,F0,F0] rfl rfl (any_of HT_.out (by kernel_rfl)) (fun _ _ _ h => h) (Or.inr ⟨by rfl,rfl⟩) ?_ ?_
      rotate_left
      · simp only [Act.put,z0_,z1_,z2_,i64_w,i32_w];rfl
      refine pure_ (i:=34) (N:=some 45) (v:=undef) (a':=?_) #[T0,T0,T0,T0,T0,T0,T0,T0,T0,T0,T0,T0,T0,T0,T0,T0,T0,T0,T0,T0,T0,T0,T0,T0,T0,T0,T0,T0,T0,T0,T0,T0,T0,T0,T0,F0,F0,F0,F0,F0,F0] rfl rfl (any_of HT_.out (by kernel_rfl)) (fun _ _ _ h => h) (Or.inr ⟨by rfl,rfl⟩) ?_ ?_
      rotate_left
      · simp only [Act.put,z0_,z1_,z2_,i64_w,i32_w];rfl
      refine pure_ (i:=35) (N:=some 46) (v:=undef) (a':=?_) #[T0,T0,T0,T0,T0,T0,T0,T0,T0,T0,T0,T0,T0,T0,T0,T0,T0,T0,T0,T0,T0,T0,T0,T0,T0,T0,T0,T0,T0,T0,T0,T0,T0,T0,T0,T0,F0,F0,F0,F0,F0] rfl rfl (any_of HT_.out (by kernel_rfl)) (fun _ _ _ h => h) (Or.inr ⟨by rfl,rfl⟩) ?_ ?_
      rotate_left
      · simp only [Act.put,z0_,z1_,z2_,i64_w,i32_w];rfl
      refine pure_ (i:=36) (N:=some 47) (v:=undef) (a':=?_) #[T0,T0,T0,T0,T0,T0,T0,T0,T0,T0,T0,T0,T0,T0,T0,T0,T0,T0,T0,T0,T0,T0,T0,T0,T0,T0,T0,T0,T0,T0,T0,T0,T0,T0,T0,T0,T0,F0,F0,F0,F0] rfl rfl (any_of HT_.out (by kernel_rfl)) (fun _ _ _ h => h) (Or.inr ⟨by rfl,rfl⟩) ?_ ?_
      rotate_left
      · simp only [Act.put,z0_,z1_,z2_,i64_w,i32_w];rfl
      refine pure_ (i:=37) (N:=some 48) (v:=undef) (a':=?_) #[T0,T0,T0,T0,T0,T0,T0,T0,T0,T0,T0,T0,T0,T0,T0,T0,T0,T0,T0,T0,T0,T0,T0,T0,T0,T0,T0,T0,T0,T0,T0,T0,T0,T0,T0,T0,T0,T0,F0,F0,F0] rfl rfl (any_of HT_.out (by kernel_rfl)) (fun _ _ _ h => h) (Or.inr ⟨by rfl,rfl⟩) ?_ ?_
      rotate_left
      · simp only [Act.put,z0_,z1_,z2_,i64_w,i32_w];rfl
      refine pure_ (i:=38) (N:=some 49) (v:=undef) (a':=?_) #[T0,T0,T0,T0,T0,T0,T0,T0,T0,T0,T0,T0,T0,T0,T0,T0,T0,T0,T0,T0,T0,T0,T0,T0,T0,T0,T0,T0,T0,T0,T0,T0,T0,T0,T0,T0,T0,T0,T0,F0,F0] rfl rfl (any_of HT_.out (by kernel_rfl)) (fun _ _ _ h => h) (Or.inr ⟨by rfl,rfl⟩) ?_ ?_
      rotate_left
      · simp only [Act.put,z0_,z1_,z2_,i64_w,i32_w];rfl
      refine pure_ (i:=39) (N:=some 50) (v:=?_) (a':=?_) #[T0,T0,T0,T0,T0,T0,T0,T0,T0,T0,T0,T0,T0,T0,T0,T0,T0,T0,T0,T0,T0,T0,T0,T0,T0,T0,T0,T0,T0,T0,T0,T0,T0,T0,T0,T0,T0,T0,T0,T0,F0] rfl rfl (any_of HT_.out (by kernel_rfl)) (fun _ _ _ h => h) (Or.inl ⟨by rfl,?_⟩) ?_ ?_
      rotate_left
      · intro w';go_simp;with_reducible rfl
      rotate_left
      · simp only [Act.put,z0_,z1_,z2_,i64_w,i32_w];rfl
      refine pure_ (i:=40) (N:=some 2) (v:=?_) (a':=?_) #[T0,T0,T0,T0,T0,T0,T0,T0,T0,T0,T0,T0,T0,T0,T0,T0,T0,T0,T0,T0,T0,T0,T0,T0,T0,T0,T0,T0,T0,T0,T0,T0,T0,T0,T0,T0,T0,T0,T0,T0,T0] rfl rfl (any_of HT_.out (by kernel_rfl)) (fun _ _ _ h => h) (Or.inl ⟨by rfl,?_⟩) ?_ ?_
      rotate_left
      · intro w';go_simp;with_reducible rfl
      rotate_left
      · simp only [Act.put,z0_,z1_,z2_,i64_w,i32_w];rfl
      refine done_ (done_of HT_.out (by kernel_rfl)) ?_
      try go_wp2
      go_ret;exact ⟨by first | rfl | (simp [errW_none,errW_some] <;> rfl) | (simp [*,errW_none,errW_some] <;> rfl),by repeat (first | (with_reducible first | exact HB.out | apply b0_ | apply b1_ | apply b2_ | refine below_set ?_ GE347.out) | exact HB.out)⟩
     rw [if_pos c16] at H;have c16b0 : (t351 == t352) = true:=beq_iff_eq.mpr c16;have c16b1 : (t351 != t352) = false:=bne_eq_false_iff_eq.mpr c16;clear c16;replace H:=Option.bind_eq_some_iff.mp H;obtain ⟨t353,A170,H⟩:=H;replace H : ((estoversref39_Transit.f kj1 l0_0 l0_1 a0_2 a0_3).bind fun t354 => (some (t353 == t354))) = some r:=H;have A17:=Aside0.mk A170;clear A170
     replace H:=Option.bind_eq_some_iff.mp H;obtain ⟨t354,A180,H⟩:=H;replace H : (some (t353 == t354)) = some r:=H;have A18:=Aside0.mk A180;clear A180;obtain rfl:=Option.some.inj H
     try go_wp2
     have n0_:=Aside0.mk (blk_drew BK347.out);have n1_:=Aside0.mk (b2_ HB.out);clear BK347;clear HB;have BK347:=n0_;have HB:=n1_;clear n0_ n1_
     refine start_ (n:=41) (S:=fun w' => w'.cell? ⟨gb347,0,none⟩ = some (.slice A0_0 l0_0.length c0_0)∧w'.cell? ⟨gb347,1,none⟩ = some (.slice A0_1 l0_1.length c0_1)∧w'.cell? ⟨gb347,2,none⟩ = some (.int .i64 a0_2)∧w'.cell? ⟨gb347,3,none⟩ = some (.bool a0_3)) (ds:=[]) #[F0,F0,F0,F0,F0,F0,F0,F0,F0,F0,F0,F0,F0,F0,F0,F0,F0,F0,F0,F0,F0,F0,F0,F0,F0,F0,F0,F0,F0,F0,F0,F0,F0,F0,F0,F0,F0,F0,F0,F0,F0] (by kernel_rfl) rfl rfl ⟨(blk_cell BK347.out 0).trans rfl,(blk_cell BK347.out 1).trans rfl,(blk_cell BK347.out 2).trans rfl,(blk_cell BK347.out 3).trans rfl⟩ (fun hHeld => ?_);refine with_tabW estoverslaw39_ReclaimplanCounts.tab3 estoverslaw39_ReclaimplanCounts.bits3 (fun HT_ HW_ => ?_)
     generalize wc.drew = w19 at BK347 HB hHeld ⊢;refine pure_ (i:=0) (N:=some 11) (v:=?_) (a':=?_) #[T0,F0,F0,F0,F0,F0,F0,F0,F0,F0,F0,F0,F0,F0,F0,F0,F0,F0,F0,F0,F0,F0,F0,F0,F0,F0,F0,F0,F0,F0,F0,F0,F0,F0,F0,F0,F0,F0,F0,F0,F0] rfl rfl (any_of HT_.out (by kernel_rfl)) (fun _ _ _ h => h) (Or.inl ⟨by rfl,?_⟩) ?_ ?_
     rotate_left
     · intro w';go_simp;with_reducible rfl
     rotate_left
     · simp only [Act.put,z0_,z1_,z2_,i64_w,i32_w];rfl
     refine pure_ (i:=2) (N:=some 13) (v:=?_) (a':=?_) #[T0,F0,T0,F0,F0,F0,F0,F0,F0,F0,F0,F0,F0,F0,F0,F0,F0,F0,F0,F0,F0,F0,F0,F0,F0,F0,F0,F0,F0,F0,F0,F0,F0,F0,F0,F0,F0,F0,F0,F0,F0] rfl rfl (any_of HT_.out (by kernel_rfl)) (fun _ _ _ h => h) (Or.inl ⟨by rfl,?_⟩) ?_ ?_
     rotate_left
     · intro w';go_simp;with_reducible rfl
     rotate_left
     · simp only [Act.put,z0_,z1_,z2_,i64_w,i32_w];rfl
     refine pure_ (i:=4) (N:=some 15) (v:=?_) (a':=?_) #[T0,F0,T0,F0,T0,F0,F0,F0,F0,F0,F0,F0,F0,F0,F0,F0,F0,F0,F0,F0,F0,F0,F0,F0,F0,F0,F0,F0,F0,F0,F0,F0,F0,F0,F0,F0,F0,F0,F0,F0,F0] rfl rfl (any_of HT_.out (by kernel_rfl)) (fun _ _ _ h => h) (Or.inl ⟨by rfl,?_⟩) ?_ ?_
     rotate_left
     · intro w';go_simp;with_reducible rfl
     rotate_left
     · simp only [Act.put,z0_,z1_,z2_,i64_w,i32_w];rfl
     refine pure_ (i:=6) (N:=some 17) (v:=?_) (a':=?_) #[T0,F0,T0,F0,T0,F0,T0,F0,F0,F0,F0,F0,F0,F0,F0,F0,F0,F0,F0,F0,F0,F0,F0,F0,F0,F0,F0,F0,F0,F0,F0,F0,F0,F0,F0,F0,F0,F0,F0,F0,F0] rfl rfl (any_of HT_.out (by kernel_rfl)) (fun _ _ _ h => h) (Or.inl ⟨by rfl,?_⟩) ?_ ?_
     rotate_left
     · intro w';go_simp;with_reducible rfl
     rotate_left
     · simp only [Act.put,z0_,z1_,z2_,i64_w,i32_w];rfl
     refine pure_ (i:=9) (N:=some 20) (v:=?_) (a':=?_) #[T0,F0,T0,F0,T0,F0,T0,F0,F0,T0,F0,F0,F0,F0,F0,F0,F0,F0,F0,F0,F0,F0,F0,F0,F0,F0,F0,F0,F0,F0,F0,F0,F0,F0,F0,F0,F0,F0,F0,F0,F0] rfl rfl (any_of HT_.out (by kernel_rfl)) (fun _ _ _ h => h) (Or.inl ⟨by rfl,?_⟩) ?_ ?_
     rotate_left
     · intro w';go_simp;with_reducible rfl
     rotate_left
     · simp only [Act.put,z0_,z1_,z2_,i64_w,i32_w];rfl
     refine pure_ (i:=11) (N:=some 22) (v:=?_) (a':=?_) #[T0,F0,T0,F0,T0,F0,T0,F0,F0,T0,F0,T0,F0,F0,F0,F0,F0,F0,F0,F0,F0,F0,F0,F0,F0,F0,F0,F0,F0,F0,F0,F0,F0,F0,F0,F0,F0,F0,F0,F0,F0] rfl rfl (any_of HT_.out (by kernel_rfl)) (fun _ _ _ h => h) (Or.inl ⟨by rfl,?_⟩) ?_ ?_
     rotate_left
     · intro w';go_simp;with_reducible rfl
     rotate_left
     · simp only [Act.put,z0_,z1_,z2_,i64_w,i32_w];rfl
     refine pure_ (i:=13) (N:=some 24) (v:=?_) (a':=?_) #[T0,F0,T0,F0,T0,F0,T0,F0,F0,T0,F0,T0,F0,T0,F0,F0,F0,F0,F0,F0,F0,F0,F0,F0,F0,F0,F0,F0,F0,F0,F0,F0,F0,F0,F0,F0,F0,F0,F0,F0,F0] rfl rfl (any_of HT_.out (by kernel_rfl)) (fun _ _ _ h => h) (Or.inl ⟨by rfl,?_⟩) ?_ ?_
     rotate_left
     · intro w';go_simp;with_reducible rfl
     rotate_left
     · simp only [Act.put,z0_,z1_,z2_,i64_w,i32_w];rfl
     refine pure_ (i:=15) (N:=some 26) (v:=?_) (a':=?_) #[T0,F0,T0,F0,T0,F0,T0,F0,F0,T0,F0,T0,F0,T0,F0,T0,F0,F0,F0,F0,F0,F0,F0,F0,F0,F0,F0,F0,F0,F0,F0,F0,F0,F0,F0,F0,F0,F0,F0,F0,F0] rfl rfl (any_of HT_.out (by kernel_rfl)) (fun _ _ _ h => h) (Or.inl ⟨by rfl,?_⟩) ?_ ?_
     rotate_left
     · intro w';go_simp;with_reducible rfl
     rotate_left
     · simp only [Act.put,z0_,z1_,z2_,i64_w,i32_w];rfl
     refine take_ (i:=1) (N:=some 12) (v:=?_) (a':=?_) #[T0,T0,T0,F0,T0,F0,T0,F0,F0,T0,F0,T0,F0,T0,F0,T0,F0,F0,F0,F0,F0,F0,F0,F0,F0,F0,F0,F0,F0,F0,F0,F0,F0,F0,F0,F0,F0,F0,F0,F0,F0] rfl rfl (take_ofW HT_.out HW_.out (by kernel_rfl)) (fun _ _ _ h => h) (Or.inl ⟨by rfl,?_⟩) hHeld ?_ ?_
     rotate_left
     ·
      rintro w' ⟨s0,s1,s2,s3⟩
      go_simp;with_reducible rfl
     rotate_left
     · simp only [Act.put,z0_,z1_,z2_,i64_w,i32_w];rfl
     refine take_ (i:=3) (N:=some 14) (v:=?_) (a':=?_) #[T0,T0,T0,T0,T0,F0,T0,F0,F0,T0,F0,T0,F0,T0,F0,T0,F0,F0,F0,F0,F0,F0,F0,F0,F0,F0,F0,F0,F0,F0,F0,F0,F0,F0,F0,F0,F0,F0,F0,F0,F0] rfl rfl (take_ofW HT_.out HW_.out (by kernel_rfl)) (fun _ _ _ h => h) (Or.inl ⟨by rfl,?_⟩) hHeld ?_ ?_
     rotate_left
     ·
      rintro w' ⟨s0,s1,s2,s3⟩
      go_simp;with_reducible rfl
     rotate_left
     · simp only [Act.put,z0_,z1_,z2_,i64_w,i32_w];rfl
     refine take_ (i:=5) (N:=some 16) (v:=?_) (a':=?_) #[T0,T0,T0,T0,T0,T0,T0,F0,F0,T0,F0,T0,F0,T0,F0,T0,F0,F0,F0,F0,F0,F0,F0,F0,F0,F0,F0,F0,F0,F0,F0,F0,F0,F0,F0,F0,F0,F0,F0,F0,F0] rfl rfl (take_ofW HT_.out HW_.out (by kernel_rfl)) (fun _ _ _ h => h) (Or.inl ⟨by rfl,?_⟩) hHeld ?_ ?_
     rotate_left
     ·
      rintro w' ⟨s0,s1,s2,s3⟩
      go_simp;with_reducible rfl
     rotate_left
     · simp only [Act.put,z0_,z1_,z2_,i64_w,i32_w];rfl
     refine take_ (i:=7) (N:=some 18) (v:=?_) (a':=?_) #[T0,T0,T0,T0,T0,T0,T0,T0,F0,T0,F0,T0,F0,T0,F0,T0,F0,F0,F0,F0,F0,F0,F0,F0,F0,F0,F0,F0,F0,F0,F0,F0,F0,F0,F0,F0,F0,F0,F0,F0,F0] rfl rfl (take_ofW HT_.out HW_.out (by kernel_rfl)) (fun _ _ _ h => h) (Or.inl ⟨by rfl,?_⟩) hHeld ?_ ?_
     rotate_left
     ·
      rintro w' ⟨s0,s1,s2,s3⟩
      go_simp;with_reducible rfl
     rotate_left
     · simp only [Act.put,z0_,z1_,z2_,i64_w,i32_w];rfl
     refine take_ (i:=10) (N:=some 21) (v:=?_) (a':=?_) #[T0,T0,T0,T0,T0,T0,T0,T0,F0,T0,T0,T0,F0,T0,F0,T0,F0,F0,F0,F0,F0,F0,F0,F0,F0,F0,F0,F0,F0,F0,F0,F0,F0,F0,F0,F0,F0,F0,F0,F0,F0] rfl rfl (take_ofW HT_.out HW_.out (by kernel_rfl)) (fun _ _ _ h => h) (Or.inl ⟨by rfl,?_⟩) hHeld ?_ ?_
     rotate_left
     ·
      rintro w' ⟨s0,s1,s2,s3⟩
      go_simp;with_reducible rfl
     rotate_left
     · simp only [Act.put,z0_,z1_,z2_,i64_w,i32_w];rfl
     refine take_ (i:=12) (N:=some 23) (v:=?_) (a':=?_) #[T0,T0,T0,T0,T0,T0,T0,T0,F0,T0,T0,T0,T0,T0,F0,T0,F0,F0,F0,F0,F0,F0,F0,F0,F0,F0,F0,F0,F0,F0,F0,F0,F0,F0,F0,F0,F0,F0,F0,F0,F0] rfl rfl (take_ofW HT_.out HW_.out (by kernel_rfl)) (fun _ _ _ h => h) (Or.inl ⟨by rfl,?_⟩) hHeld ?_ ?_
     rotate_left
     ·
      rintro w' ⟨s0,s1,s2,s3⟩
      go_simp;with_reducible rfl
     rotate_left
     · simp only [Act.put,z0_,z1_,z2_,i64_w,i32_w];rfl
     refine take_ (i:=14) (N:=some 25) (v:=?_) (a':=?_) #[T0,T0,T0,T0,T0,T0,T0,T0,F0,T0,T0,T0,T0,T0,T0,T0,F0,F0,F0,F0,F0,F0,F0,F0,F0,F0,F0,F0,F0,F0,F0,F0,F0,F0,F0,F0,F0,F0,F0,F0,F0] rfl rfl (take_ofW HT_.out HW_.out (by kernel_rfl)) (fun _ _ _ h => h) (Or.inl ⟨by rfl,?_⟩) hHeld ?_ ?_
     rotate_left
     ·
      rintro w' ⟨s0,s1,s2,s3⟩
      go_simp;with_reducible rfl
     rotate_left
     · simp only [Act.put,z0_,z1_,z2_,i64_w,i32_w];rfl
     refine take_ (i:=16) (N:=some 27) (v:=?_) (a':=?_) #[T0,T0,T0,T0,T0,T0,T0,T0,F0,T0,T0,T0,T0,T0,T0,T0,T0,F0,F0,F0,F0,F0,F0,F0,F0,F0,F0,F0,F0,F0,F0,F0,F0,F0,F0,F0,F0,F0,F0,F0,F0] rfl rfl (take_ofW HT_.out HW_.out (by kernel_rfl)) (fun _ _ _ h => h) (Or.inl ⟨by rfl,?_⟩) hHeld ?_ ?_
     rotate_left
     ·
      rintro w' ⟨s0,s1,s2,s3⟩
      go_simp;with_reducible rfl
     rotate_left
     · simp only [Act.put,z0_,z1_,z2_,i64_w,i32_w];rfl
     refine one_ (i:=8) (N:=some 19) #[T0,T0,T0,T0,T0,T0,T0,T0,T0,T0,T0,T0,T0,T0,T0,T0,T0,F0,F0,F0,F0,F0,F0,F0,F0,F0,F0,F0,F0,F0,F0,F0,F0,F0,F0,F0,F0,F0,F0,F0,F0] rfl rfl (one_of HT_.out (by kernel_rfl)) (by decide) (fun K hK => ?_)
     refine goes_ Try.func38 (by kernel_rfl) rfl #[.slice A0_0 l0_0.length c0_0,.slice A0_1 l0_1.length c0_1,.int .i64 a0_2,.bool a0_3] (by rfl) rfl rfl (by (try simp only [z3_,z4_,z5_]);first | done | rfl | (simp only [z6_,z7_];rfl)) ?_
     with_reducible refine (reclaimplan_Useful.calls kj1 _ _ l0_0 _ _ l0_1 a0_2 a0_3 t351 _ ?side1 ?side2 ?side3 ?side4 A14.out).mono ?_
     (case side1 => repeat (first | exact (Kd.C_below HR0_0.out HB.out) | (with_reducible refine Kd.C_alloc ?_ _) | (with_reducible refine Kd.C_drewN ?_ _) | (with_reducible refine Kd.C_drew ?_)))
     (case side2 => exact HC0_0.out)
     (case side3 => repeat (first | exact (Kd.C_below HR0_1.out HB.out) | (with_reducible refine Kd.C_alloc ?_ _) | (with_reducible refine Kd.C_drewN ?_ _) | (with_reducible refine Kd.C_drew ?_)))
     (case side4 => exact HC0_1.out)
     rintro e w20 ⟨rfl,hb⟩
     refine ⟨_,rfl,?_⟩;have n0_:=Aside0.mk (blk_below (g:=gb347) (o:=.cells #[.slice A0_0 l0_0.length c0_0,.slice A0_1 l0_1.length c0_1,.int .i64 a0_2,.bool a0_3] 37 (0,0)) (by (with_reducible repeat (first | refine blk_drewN ?_ _ | refine blk_drew ?_ | refine blk_alloc ?_ _));exact BK347.out) hb)
     have n1_:=Aside0.mk (below_step (by repeat (first | (with_reducible first | exact HB.out | apply b0_ | apply b1_ | apply b2_ | refine below_set ?_ GE347.out) | exact HB.out)) hb);clear BK347;clear HB;have BK347:=n0_;have HB:=n1_;clear n0_ n1_
     (try clear hb)
     (try clear hb2)
     (try clear hk)
     (try clear hi)
     refine hK.out _ _ ⟨(blk_cell BK347.out 0).trans rfl,(blk_cell BK347.out 1).trans rfl,(blk_cell BK347.out 2).trans rfl,(blk_cell BK347.out 3).trans rfl⟩ (fun hHeld => ?_);clear hK K;refine norm_ (a':=?_) ?_ ?_
     rotate_left
     ·
      show Act.put _ (some 19) _ = _
      simp only [Act.put,z0_,z1_,z2_,i64_w,i32_w];rfl
     refine one_ (i:=17) (N:=some 28) #[T0,T0,T0,T0,T0,T0,T0,T0,T0,T0,T0,T0,T0,T0,T0,T0,T0,T0,F0,F0,F0,F0,F0,F0,F0,F0,F0,F0,F0,F0,F0,F0,F0,F0,F0,F0,F0,F0,F0,F0,F0] rfl rfl (one_of HT_.out (by kernel_rfl)) (by decide) (fun K hK => ?_)
     refine goes_ Try.func39 (by kernel_rfl) rfl #[.slice A0_0 l0_0.length c0_0,.slice A0_1 l0_1.length c0_1,.int .i64 a0_2,.bool a0_3] (by rfl) rfl rfl (by (try simp only [z3_,z4_,z5_]);first | done | rfl | (simp only [z6_,z7_];rfl)) ?_
     with_reducible refine (estoversref39_Useful.calls kj1 _ _ l0_0 _ _ l0_1 a0_2 a0_3 t352 _ ?side1 ?side2 ?side3 ?side4 A15.out).mono ?_
     (case side1 => repeat (first | exact (Kd.C_below HR0_0.out HB.out) | (with_reducible refine Kd.C_alloc ?_ _) | (with_reducible refine Kd.C_drewN ?_ _) | (with_reducible refine Kd.C_drew ?_)))
     (case side2 => exact HC0_0.out)
     (case side3 => repeat (first | exact (Kd.C_below HR0_1.out HB.out) | (with_reducible refine Kd.C_alloc ?_ _) | (with_reducible refine Kd.C_drewN ?_ _) | (with_reducible refine Kd.C_drew ?_)))
     (case side4 => exact HC0_1.out)
     rintro e w21 ⟨rfl,hb⟩
     refine ⟨_,rfl,?_⟩;have n0_:=Aside0.mk (blk_below (g:=gb347) (o:=.cells #[.slice A0_0 l0_0.length c0_0,.slice A0_1 l0_1.length c0_1,.int .i64 a0_2,.bool a0_3] 37 (0,0)) (by (with_reducible repeat (first | refine blk_drewN ?_ _ | refine blk_drew ?_ | refine blk_alloc ?_ _));exact BK347.out) hb)
     have n1_:=Aside0.mk (below_step (by repeat (first | (with_reducible first | exact HB.out | apply b0_ | apply b1_ | apply b2_ | refine below_set ?_ GE347.out) | exact HB.out)) hb);clear BK347;clear HB;have BK347:=n0_;have HB:=n1_;clear n0_ n1_
     (try clear hb)
     (try clear hb2)
     (try clear hk)
     (try clear hi)
     refine hK.out _ _ ⟨(blk_cell BK347.out 0).trans rfl,(blk_cell BK347.out 1).trans rfl,(blk_cell BK347.out 2).trans rfl,(blk_cell BK347.out 3).trans rfl⟩ (fun hHeld => ?_);clear hK K;refine norm_ (a':=?_) ?_ ?_
     rotate_left
     ·
      show Act.put _ (some 28) _ = _
      simp only [Act.put,z0_,z1_,z2_,i64_w,i32_w];rfl
     refine pure_ (i:=18) (N:=some 29) (v:=?_) (a':=?_) #[T0,T0,T0,T0,T0,T0,T0,T0,T0,T0,T0,T0,T0,T0,T0,T0,T0,T0,T0,F0,F0,F0,F0,F0,F0,F0,F0,F0,F0,F0,F0,F0,F0,F0,F0,F0,F0,F0,F0,F0,F0] rfl rfl (any_of HT_.out (by kernel_rfl)) (fun _ _ _ h => h) (Or.inl ⟨by rfl,?_⟩) ?_ ?_
     rotate_left
     · intro w';go_simp;with_reducible rfl
     rotate_left
     · simp only [Act.put,z0_,z1_,z2_,i64_w,i32_w];rfl
     refine pure_ (i:=19) (N:=some 30) (v:=?_) (a':=?_) #[T0,T0,T0,T0,T0,T0,T0,T0,T0,T0,T0,T0,T0,T0,T0,T0,T0,T0,T0,T0,F0,F0,F0,F0,F0,F0,F0,F0,F0,F0,F0,F0,F0,F0,F0,F0,F0,F0,F0,F0,F0] rfl rfl (any_of HT_.out (by kernel_rfl)) (fun _ _ _ h => h) (Or.inl ⟨by rfl,?_⟩) ?_ ?_
     rotate_left
     · intro w';go_simp;with_reducible rfl
     rotate_left
     · simp only [Act.put,z0_,z1_,z2_,i64_w,i32_w];rfl
     refine pure_ (i:=20) (N:=some 31) (v:=?_) (a':=?_) #[T0,T0,T0,T0,T0,T0,T0,T0,T0,T0,T0,T0,T0,T0,T0,T0,T0,T0,T0,T0,T0,F0,F0,F0,F0,F0,F0,F0,F0,F0,F0,F0,F0,F0,F0,F0,F0,F0,F0,F0,F0] rfl rfl (any_of HT_.out (by kernel_rfl)) (fun _ _ _ h => h) (Or.inl ⟨by rfl,?_⟩) ?_ ?_
     rotate_left
     · intro w';go_simp;with_reducible rfl
     rotate_left
     · simp only [Act.put,z0_,z1_,z2_,i64_w,i32_w];rfl
     refine pure_ (i:=22) (N:=some 33) (v:=?_) (a':=?_) #[T0,T0,T0,T0,T0,T0,T0,T0,T0,T0,T0,T0,T0,T0,T0,T0,T0,T0,T0,T0,T0,F0,T0,F0,F0,F0,F0,F0,F0,F0,F0,F0,F0,F0,F0,F0,F0,F0,F0,F0,F0] rfl rfl (any_of HT_.out (by kernel_rfl)) (fun _ _ _ h => h) (Or.inl ⟨by rfl,?_⟩) ?_ ?_
     rotate_left
     · intro w';go_simp;with_reducible rfl
     rotate_left
     · simp only [Act.put,z0_,z1_,z2_,i64_w,i32_w];rfl
     refine pure_ (i:=24) (N:=some 35) (v:=?_) (a':=?_) #[T0,T0,T0,T0,T0,T0,T0,T0,T0,T0,T0,T0,T0,T0,T0,T0,T0,T0,T0,T0,T0,F0,T0,F0,T0,F0,F0,F0,F0,F0,F0,F0,F0,F0,F0,F0,F0,F0,F0,F0,F0] rfl rfl (any_of HT_.out (by kernel_rfl)) (fun _ _ _ h => h) (Or.inl ⟨by rfl,?_⟩) ?_ ?_
     rotate_left
     · intro w';go_simp;with_reducible rfl
     rotate_left
     · simp only [Act.put,z0_,z1_,z2_,i64_w,i32_w];rfl
     refine pure_ (i:=26) (N:=some 37) (v:=?_) (a':=?_) #[T0,T0,T0,T0,T0,T0,T0,T0,T0,T0,T0,T0,T0,T0,T0,T0,T0,T0,T0,T0,T0,F0,T0,F0,T0,F0,T0,F0,F0,F0,F0,F0,F0,F0,F0,F0,F0,F0,F0,F0,F0] rfl rfl (any_of HT_.out (by kernel_rfl)) (fun _ _ _ h => h) (Or.inl ⟨by rfl,?_⟩) ?_ ?_
     rotate_left
     · intro w';go_simp;with_reducible rfl
     rotate_left
     · simp only [Act.put,z0_,z1_,z2_,i64_w,i32_w];rfl
     refine pure_ (i:=29) (N:=some 40) (v:=?_) (a':=?_) #[T0,T0,T0,T0,T0,T0,T0,T0,T0,T0,T0,T0,T0,T0,T0,T0,T0,T0,T0,T0,T0,F0,T0,F0,T0,F0,T0,F0,F0,T0,F0,F0,F0,F0,F0,F0,F0,F0,F0,F0,F0] rfl rfl (any_of HT_.out (by kernel_rfl)) (fun _ _ _ h => h) (Or.inl ⟨by rfl,?_⟩) ?_ ?_
     rotate_left
     · intro w';go_simp;with_reducible rfl
     rotate_left
     · simp only [Act.put,z0_,z1_,z2_,i64_w,i32_w];rfl
     refine pure_ (i:=31) (N:=some 42) (v:=?_) (a':=?_) #[T0,T0,T0,T0,T0,T0,T0,T0,T0,T0,T0,T0,T0,T0,T0,T0,T0,T0,T0,T0,T0,F0,T0,F0,T0,F0,T0,F0,F0,T0,F0,T0,F0,F0,F0,F0,F0,F0,F0,F0,F0] rfl rfl (any_of HT_.out (by kernel_rfl)) (fun _ _ _ h => h) (Or.inl ⟨by rfl,?_⟩) ?_ ?_
     rotate_left
     · intro w';go_simp;with_reducible rfl
     rotate_left
     · simp only [Act.put,z0_,z1_,z2_,i64_w,i32_w];rfl
     refine pure_ (i:=33) (N:=some 44) (v:=?_) (a':=?_) #[T0,T0,T0,T0,T0,T0,T0,T0,T0,T0,T0,T0,T0,T0,T0,T0,T0,T0,T0,T0,T0,F0,T0,F0,T0,F0,T0,F0,F0,T0,F0,T0,F0,T0,F0,F0,F0,F0,F0,F0,F0] rfl rfl (any_of HT_.out (by kernel_rfl)) (fun _ _ _ h => h) (Or.inl ⟨by rfl,?_⟩) ?_ ?_
     rotate_left
     · intro w';go_simp;with_reducible rfl
     rotate_left
     · simp only [Act.put,z0_,z1_,z2_,i64_w,i32_w];rfl
     refine pure_ (i:=35) (N:=some 46) (v:=?_) (a':=?_) #[T0,T0,T0,T0,T0,T0,T0,T0,T0,T0,T0,T0,T0,T0,T0,T0,T0,T0,T0,T0,T0,F0,T0,F0,T0,F0,T0,F0,F0,T0,F0,T0,F0,T0,F0,T0,F0,F0,F0,F0,F0] rfl rfl (any_of HT_.out (by kernel_rfl)) (fun _ _ _ h => h) (Or.inl ⟨by rfl,?_⟩) ?_ ?_
     rotate_left
     · intro w';go_simp;with_reducible rfl
     rotate_left
     · simp only [Act.put,z0_,z1_,z2_,i64_w,i32_w];rfl
     refine take_ (i:=21) (N:=some 32) (v:=?_) (a':=?_) #[T0,T0,T0,T0,T0,T0,T0,T0,T0,T0,T0,T0,T0,T0,T0,T0,T0,T0,T0,T0,T0,T0,T0,F0,T0,F0,T0,F0,F0,T0,F0,T0,F0,T0,F0,T0,F0,F0,F0,F0,F0] rfl rfl (take_ofW HT_.out HW_.out (by kernel_rfl)) (fun _ _ _ h => h) (Or.inl ⟨by rfl,?_⟩) hHeld ?_ ?_
     rotate_left
     ·
      rintro w' ⟨s0,s1,s2,s3⟩
      go_simp;with_reducible rfl
     rotate_left
     · simp only [Act.put,z0_,z1_,z2_,i64_w,i32_w];rfl
     refine take_ (i:=23) (N:=some 34) (v:=?_) (a':=?_) #[T0,T0,T0,T0,T0,T0,T0,T0,T0,T0,T0,T0,T0,T0,T0,T0,T0,T0,T0,T0,T0,T0,T0,T0,T0,F0,T0,F0,F0,T0,F0,T0,F0,T0,F0,T0,F0,F0,F0,F0,F0] rfl rfl (take_ofW HT_.out HW_.out (by kernel_rfl)) (fun _ _ _ h => h) (Or.inl ⟨by rfl,?_⟩) hHeld ?_ ?_
     rotate_left
     ·
      rintro w' ⟨s0,s1,s2,s3⟩
      go_simp;with_reducible rfl
     rotate_left
     · simp only [Act.put,z0_,z1_,z2_,i64_w,i32_w];rfl
     refine take_ (i:=25) (N:=some 36) (v:=?_) (a':=?_) #[T0,T0,T0,T0,T0,T0,T0,T0,T0,T0,T0,T0,T0,T0,T0,T0,T0,T0,T0,T0,T0,T0,T0,T0,T0,T0,T0,F0,F0,T0,F0,T0,F0,T0,F0,T0,F0,F0,F0,F0,F0] rfl rfl (take_ofW HT_.out HW_.out (by kernel_rfl)) (fun _ _ _ h => h) (Or.inl ⟨by rfl,?_⟩) hHeld ?_ ?_
     rotate_left
     ·
      rintro w' ⟨s0,s1,s2,s3⟩
      go_simp;with_reducible rfl
     rotate_left
     · simp only [Act.put,z0_,z1_,z2_,i64_w,i32_w];rfl
     refine take_ (i:=27) (N:=some 38) (v:=?_) (a':=?_) #[T0,T0,T0,T0,T0,T0,T0,T0,T0,T0,T0,T0,T0,T0,T0,T0,T0,T0,T0,T0,T0,T0,T0,T0,T0,T0,T0,T0,F0,T0,F0,T0,F0,T0,F0,T0,F0,F0,F0,F0,F0] rfl rfl (take_ofW HT_.out HW_.out (by kernel_rfl)) (fun _ _ _ h => h) (Or.inl ⟨by rfl,?_⟩) hHeld ?_ ?_
     rotate_left
     ·
      rintro w' ⟨s0,s1,s2,s3⟩
      go_simp;with_reducible rfl
     rotate_left
     · simp only [Act.put,z0_,z1_,z2_,i64_w,i32_w];rfl
     refine take_ (i:=30) (N:=some 41) (v:=?_) (a':=?_) #[T0,T0,T0,T0,T0,T0,T0,T0,T0,T0,T0,T0,T0,T0,T0,T0,T0,T0,T0,T0,T0,T0,T0,T0,T0,T0,T0,T0,F0,T0,T0,T0,F0,T0,F0,T0,F0,F0,F0,F0,F0] rfl rfl (take_ofW HT_.out HW_.out (by kernel_rfl)) (fun _ _ _ h => h) (Or.inl ⟨by rfl,?_⟩) hHeld ?_ ?_
     rotate_left
     ·
      rintro w' ⟨s0,s1,s2,s3⟩
      go_simp;with_reducible rfl
     rotate_left
     · simp only [Act.put,z0_,z1_,z2_,i64_w,i32_w];rfl
     refine take_ (i:=32) (N:=some 43) (v:=?_) (a':=?_) #[T0,T0,T0,T0,T0,T0,T0,T0,T0,T0,T0,T0,T0,T0,T0,T0,T0,T0,T0,T0,T0,T0,T0,T0,T0,T0,T0,T0,F0,T0,T0,T0,T0,T0,F0,T0,F0,F0,F0,F0,F0] rfl rfl (take_ofW HT_.out HW_.out (by kernel_rfl)) (fun _ _ _ h => h) (Or.inl ⟨by rfl,?_⟩) hHeld ?_ ?_
     rotate_left
     ·
      rintro w' ⟨s0,s1,s2,s3⟩
      go_simp;with_reducible rfl
     rotate_left
     · simp only [Act.put,z0_,z1_,z2_,i64_w,i32_w];rfl
     refine take_ (i:=34) (N:=some 45) (v:=?_) (a':=?_) #[T0,T0,T0,T0,T0,T0,T0,T0,T0,T0,T0,T0,T0,T0,T0,T0,T0,T0,T0,T0,T0,T0,T0,T0,T0,T0,T0,T0,F0,T0,T0,T0,T0,T0,T0,T0,F0,F0,F0,F0,F0] rfl rfl (take_ofW HT_.out HW_.out (by kernel_rfl)) (fun _ _ _ h => h) (Or.inl ⟨by rfl,?_⟩) hHeld ?_ ?_
     rotate_left
     ·
      rintro w' ⟨s0,s1,s2,s3⟩
      go_simp;with_reducible rfl
     rotate_left
     · simp only [Act.put,z0_,z1_,z2_,i64_w,i32_w];rfl
     refine take_ (i:=36) (N:=some 47) (v:=?_) (a':=?_) #[T0,T0,T0,T0,T0,T0,T0,T0,T0,T0,T0,T0,T0,T0,T0,T0,T0,T0,T0,T0,T0,T0,T0,T0,T0,T0,T0,T0,F0,T0,T0,T0,T0,T0,T0,T0,T0,F0,F0,F0,F0] rfl rfl (take_ofW HT_.out HW_.out (by kernel_rfl)) (fun _ _ _ h => h) (Or.inl ⟨by rfl,?_⟩) hHeld ?_ ?_
     rotate_left
     ·
      rintro w' ⟨s0,s1,s2,s3⟩
      go_simp;with_reducible rfl
     rotate_left
     · simp only [Act.put,z0_,z1_,z2_,i64_w,i32_w];rfl
     refine one_ (i:=28) (N:=some 39) #[T0,T0,T0,T0,T0,T0,T0,T0,T0,T0,T0,T0,T0,T0,T0,T0,T0,T0,T0,T0,T0,T0,T0,T0,T0,T0,T0,T0,T0,T0,T0,T0,T0,T0,T0,T0,T0,F0,F0,F0,F0] rfl rfl (one_of HT_.out (by kernel_rfl)) (by decide) (fun K hK => ?_)
     refine goes_ Try.func24 (by kernel_rfl) rfl #[.slice A0_0 l0_0.length c0_0,.slice A0_1 l0_1.length c0_1,.int .i64 a0_2,.bool a0_3] (by rfl) rfl rfl (by (try simp only [z3_,z4_,z5_]);first | done | rfl | (simp only [z6_,z7_];rfl)) ?_
     with_reducible refine (reclaimplan_Transit.calls kj1 _ _ l0_0 _ _ l0_1 a0_2 a0_3 t353 _ ?side1 ?side2 ?side3 ?side4 A17.out).mono ?_
     (case side1 => repeat (first | exact (Kd.C_below HR0_0.out HB.out) | (with_reducible refine Kd.C_alloc ?_ _) | (with_reducible refine Kd.C_drewN ?_ _) | (with_reducible refine Kd.C_drew ?_)))
     (case side2 => exact HC0_0.out)
     (case side3 => repeat (first | exact (Kd.C_below HR0_1.out HB.out) | (with_reducible refine Kd.C_alloc ?_ _) | (with_reducible refine Kd.C_drewN ?_ _) | (with_reducible refine Kd.C_drew ?_)))
     (case side4 => exact HC0_1.out)
     rintro e w22 ⟨rfl,hb⟩
     refine ⟨_,rfl,?_⟩;have n0_:=Aside0.mk (blk_below (g:=gb347) (o:=.cells #[.slice A0_0 l0_0.length c0_0,.slice A0_1 l0_1.length c0_1,.int .i64 a0_2,.bool a0_3] 37 (0,0)) (by (with_reducible repeat (first | refine blk_drewN ?_ _ | refine blk_drew ?_ | refine blk_alloc ?_ _));exact BK347.out) hb)
     have n1_:=Aside0.mk (below_step (by repeat (first | (with_reducible first | exact HB.out | apply b0_ | apply b1_ | apply b2_ | refine below_set ?_ GE347.out) | exact HB.out)) hb);clear BK347;clear HB;have BK347:=n0_;have HB:=n1_;clear n0_ n1_
     (try clear hb)
     (try clear hb2)
     (try clear hk)
     (try clear hi)
     refine hK.out _ _ ⟨(blk_cell BK347.out 0).trans rfl,(blk_cell BK347.out 1).trans rfl,(blk_cell BK347.out 2).trans rfl,(blk_cell BK347.out 3).trans rfl⟩ (fun hHeld => ?_);clear hK K;refine norm_ (a':=?_) ?_ ?_
     rotate_left
     ·
      show Act.put _ (some 39) _ = _
      simp only [Act.put,z0_,z1_,z2_,i64_w,i32_w];rfl
     refine one_ (i:=37) (N:=some 48) #[T0,T0,T0,T0,T0,T0,T0,T0,T0,T0,T0,T0,T0,T0,T0,T0,T0,T0,T0,T0,T0,T0,T0,T0,T0,T0,T0,T0,T0,T0,T0,T0,T0,T0,T0,T0,T0,T0,F0,F0,F0] rfl rfl (one_of HT_.out (by kernel_rfl)) (by decide) (fun K hK => ?_)
     refine goes_ Try.func40 (by kernel_rfl) rfl #[.slice A0_0 l0_0.length c0_0,.slice A0_1 l0_1.length c0_1,.int .i64 a0_2,.bool a0_3] (by rfl) rfl rfl (by (try simp only [z3_,z4_,z5_]);first | done | rfl | (simp only [z6_,z7_];rfl)) ?_
     with_reducible refine (estoversref39_Transit.calls kj1 _ _ l0_0 _ _ l0_1 a0_2 a0_3 t354 _ ?side1 ?side2 ?side3 ?side4 A18.out).mono ?_
     (case side1 => repeat (first | exact (Kd.C_below HR0_0.out HB.out) | (with_reducible refine Kd.C_alloc ?_ _) | (with_reducible refine Kd.C_drewN ?_ _) | (with_reducible refine Kd.C_drew ?_)))
     (case side2 => exact HC0_0.out)
     (case side3 => repeat (first | exact (Kd.C_below HR0_1.out HB.out) | (with_reducible refine Kd.C_alloc ?_ _) | (with_reducible refine Kd.C_drewN ?_ _) | (with_reducible refine Kd.C_drew ?_)))
     (case side4 => exact HC0_1.out)
     rintro e w23 ⟨rfl,hb⟩
     refine ⟨_,rfl,?_⟩;have n0_:=Aside0.mk (blk_below (g:=gb347) (o:=.cells #[.slice A0_0 l0_0.length c0_0,.slice A0_1 l0_1.length c0_1,.int .i64 a0_2,.bool a0_3] 37 (0,0)) (by (with_reducible repeat (first | refine blk_drewN ?_ _ | refine blk_drew ?_ | refine blk_alloc ?_ _));exact BK347.out) hb)
     have n1_:=Aside0.mk (below_step (by repeat (first | (with_reducible first | exact HB.out | apply b0_ | apply b1_ | apply b2_ | refine below_set ?_ GE347.out) | exact HB.out)) hb);clear BK347;clear HB;have BK347:=n0_;have HB:=n1_;clear n0_ n1_
     (try clear hb)
     (try clear hb2)
     (try clear hk)
     (try clear hi)
     refine hK.out _ _ ⟨(blk_cell BK347.out 0).trans rfl,(blk_cell BK347.out 1).trans rfl,(blk_cell BK347.out 2).trans rfl,(blk_cell BK347.out 3).trans rfl⟩ (fun hHeld => ?_);clear hK K;refine norm_ (a':=?_) ?_ ?_
     rotate_left
     ·
      show Act.put _ (some 48) _ = _
      simp only [Act.put,z0_,z1_,z2_,i64_w,i32_w];rfl
     refine pure_ (i:=38) (N:=some 49) (v:=?_) (a':=?_) #[T0,T0,T0,T0,T0,T0,T0,T0,T0,T0,T0,T0,T0,T0,T0,T0,T0,T0,T0,T0,T0,T0,T0,T0,T0,T0,T0,T0,T0,T0,T0,T0,T0,T0,T0,T0,T0,T0,T0,F0,F0] rfl rfl (any_of HT_.out (by kernel_rfl)) (fun _ _ _ h => h) (Or.inl ⟨by rfl,?_⟩) ?_ ?_
     rotate_left
     · intro w';go_simp;with_reducible rfl
     rotate_left
     · simp only [Act.put,z0_,z1_,z2_,i64_w,i32_w];rfl
     refine pure_ (i:=39) (N:=some 50) (v:=?_) (a':=?_) #[T0,T0,T0,T0,T0,T0,T0,T0,T0,T0,T0,T0,T0,T0,T0,T0,T0,T0,T0,T0,T0,T0,T0,T0,T0,T0,T0,T0,T0,T0,T0,T0,T0,T0,T0,T0,T0,T0,T0,T0,F0] rfl rfl (any_of HT_.out (by kernel_rfl)) (fun _ _ _ h => h) (Or.inl ⟨by rfl,?_⟩) ?_ ?_
     rotate_left
     · intro w';go_simp;with_reducible rfl
     rotate_left
     · simp only [Act.put,z0_,z1_,z2_,i64_w,i32_w];rfl
     refine pure_ (i:=40) (N:=some 2) (v:=?_) (a':=?_) #[T0,T0,T0,T0,T0,T0,T0,T0,T0,T0,T0,T0,T0,T0,T0,T0,T0,T0,T0,T0,T0,T0,T0,T0,T0,T0,T0,T0,T0,T0,T0,T0,T0,T0,T0,T0,T0,T0,T0,T0,T0] rfl rfl (any_of HT_.out (by kernel_rfl)) (fun _ _ _ h => h) (Or.inl ⟨by rfl,?_⟩) ?_ ?_
     rotate_left
     · intro w';go_simp;with_reducible rfl
     rotate_left
     · simp only [Act.put,z0_,z1_,z2_,i64_w,i32_w];rfl
     refine done_ (done_of HT_.out (by kernel_rfl)) ?_
     try go_wp2
     go_ret;exact ⟨by first | rfl | (simp [errW_none,errW_some] <;> rfl) | (simp [*,errW_none,errW_some] <;> rfl),by repeat (first | (with_reducible first | exact HB.out | apply b0_ | apply b1_ | apply b2_ | refine below_set ?_ GE347.out) | exact HB.out)⟩
    subst c11
    have H1 : ((estoverslaw39_awake.f kj1).bind fun t350 => (some t350)) = some r:=by rw [if_pos rfl] at H;exact H
    clear H;have H:=H1;clear H1;replace H:=Option.bind_eq_some_iff.mp H;obtain ⟨t350,A120,H⟩:=H;replace H : (some t350) = some r:=H;have A12:=Aside0.mk A120;clear A120;obtain rfl:=Option.some.inj H
    go_wp2_with (first | ((with_reducible refine gate_callee (f:=29) rfl ?_);refine goesL_ (some 10) rfl rfl Try.func29 (by kernel_rfl) rfl #[] rfl (by (try simp only [z3_,z4_,z5_]);first | done | rfl | (simp only [z6_,z7_];rfl)) ?_;(with_reducible refine (estoverslaw39_awake.calls kj1  t350 _ A12.out).mono ?_);rintro e w13 ⟨rfl,hb⟩;refine ⟨_,rfl,?_⟩;have n0_:=Aside0.mk (blk_below (g:=gb347) (o:=.cells #[.slice A0_0 l0_0.length c0_0,.slice A0_1 l0_1.length c0_1,.int .i64 a0_2,.bool a0_3] 37 (0,0)) (by (with_reducible repeat (first | refine blk_drewN ?_ _ | refine blk_drew ?_ | refine blk_alloc ?_ _));exact BK347.out) hb);have n1_:=Aside0.mk (below_step (by repeat (first | (with_reducible first | exact HB.out | apply b0_ | apply b1_ | apply b2_ | refine below_set ?_ GE347.out) | exact HB.out)) hb);clear BK347;clear HB;have BK347:=n0_;have HB:=n1_;clear n0_ n1_))
    go_ret;exact ⟨by first | rfl | (simp [errW_none,errW_some] <;> rfl) | (simp [*,errW_none,errW_some] <;> rfl),by repeat (first | (with_reducible first | exact HB.out | apply b0_ | apply b1_ | apply b2_ | refine below_set ?_ GE347.out) | exact HB.out)⟩
end Go.Proofs.Ytnmenfkmndnoaaa.Pr
