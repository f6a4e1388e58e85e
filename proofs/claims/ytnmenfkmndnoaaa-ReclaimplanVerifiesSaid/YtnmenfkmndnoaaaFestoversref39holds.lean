-- Written by a program of this session (a changed copy of the kit's printer). Not trusted: Lean checks it.
import Derived.Test.YtnmenfkmndnoaaaM0
import Derived.Test.YtnmenfkmndnoaaaFestoversref39guarded
import Derived.Test.YtnmenfkmndnoaaaFestoversref39outside
namespace Go.Proofs.Ytnmenfkmndnoaaa.Pr
open Go.RowKit Go.Proofs.YtnmenfkmndnoaaaW.PrintWords Go.Proofs.YtnmenfkmndnoaaaW.PrintLast Go.Proofs.YtnmenfkmndnoaaaW.PrintMore
attribute [local go_sem] max2_int min2_int max_two min_two max_three min_three max_four min_four
set_option linter.unusedVariables false
set_option linter.unusedSimpArgs false
def estoversref39_holds.j0 : Nat→List (S30)→List Int→Int→Int→Bool→Int→Int→Int→Int→Int→Bool→Bool→Option (Bool)
 | 0,_,_,_,_,_,_,_,_,_,_,_,_ => none
 | k + 1,x1,x2,x3,x5,x36,x356000,x356001,x356002,x356003,x356004,x356005,x356006 => if x36 = true then (some false) else (if x5 = 11 then ((estoversref39_guarded.f k x356000 x356001 x356002 x356003 x356004 x356005 x356006 x1 x2 x3 false).bind fun t357 => (some t357)) else (some (x5 == x356003)))
def estoversref39_holds.f (k : Nat) (a0_0 : Int) (a0_1 : Int) (a0_2 : Int) (a0_3 : Int) (a0_4 : Int) (a0_5 : Bool) (a0_6 : Bool) (l1 : List (S30)) (l2 : List Int) (a3 : Int) (a4 : Bool) (a5 : Int) : Option (Bool):=if a5 = 13 then ((estoversref39_outside.f k a0_0 a0_1 a0_2 a0_3 a0_4 a0_5 a0_6 l1 a3).bind fun t356 => (some t356)) else (if a5 = 12 then (if a4 = true then (some (!a0_5)) else (some false)) else (if a0_6 = true then (estoversref39_holds.j0 k l1 l2 a3 a5 true a0_0 a0_1 a0_2 a0_3 a0_4 a0_5 a0_6) else (if a5 = 0 then (estoversref39_holds.j0 k l1 l2 a3 a5 true a0_0 a0_1 a0_2 a0_3 a0_4 a0_5 a0_6) else (estoversref39_holds.j0 k l1 l2 a3 a5 (a5 == 8) a0_0 a0_1 a0_2 a0_3 a0_4 a0_5 a0_6))))
theorem estoversref39_holds.mono_l : ∀ k,(∀ y0 y1 y2 y3 y4 y5 y6 y7 y8 y9 y10 y11,LeO (estoversref39_holds.j0 k y0 y1 y2 y3 y4 y5 y6 y7 y8 y9 y10 y11) (estoversref39_holds.j0 (k + 1) y0 y1 y2 y3 y4 y5 y6 y7 y8 y9 y10 y11))
 | 0 => fun _ _ _ _ _ _ _ _ _ _ _ _ r h => by simp [estoversref39_holds.j0] at h
 | k + 1 => by
  have ih0:=estoversref39_holds.mono_l k
  ·
   intro y0 y1 y2 y3 y4 y5 y6 y7 y8 y9 y10 y11
   unfold estoversref39_holds.j0
   repeat' first
    | (with_reducible exact ih0 _ _ _ _ _ _ _ _ _ _ _ _)
    | (with_reducible exact estoversref39_guarded.mono _ _ _ _ _ _ _ _ _ _ _ _)
    | (with_reducible exact estoversref39_outside.mono _ _ _ _ _ _ _ _ _ _)
    | (with_reducible exact LeO.refl _)
    | (with_reducible exact LeO.none _)
    | (with_reducible refine LeO.ite ?_ ?_)
    | (with_reducible refine LeO.bind ?_ (fun _ => ?_))
    | exact ih0 _ _ _ _ _ _ _ _ _ _ _ _
    | exact estoversref39_guarded.mono _ _ _ _ _ _ _ _ _ _ _ _
    | exact estoversref39_outside.mono _ _ _ _ _ _ _ _ _ _
    | exact LeO.none _
    | refine LeO.ite ?_ ?_
    | refine LeO.bind ?_ (fun _ => ?_)
theorem estoversref39_holds.mono : ∀ a0 a1 a2 a3 a4 a5 a6 a7 a8 a9 a10 a11 k,LeO (estoversref39_holds.f k a0 a1 a2 a3 a4 a5 a6 a7 a8 a9 a10 a11) (estoversref39_holds.f (k + 1) a0 a1 a2 a3 a4 a5 a6 a7 a8 a9 a10 a11):=by
 intro a0 a1 a2 a3 a4 a5 a6 a7 a8 a9 a10 a11 k;have ih0:=estoversref39_holds.mono_l k
 unfold estoversref39_holds.f
 repeat' first
  | (with_reducible exact ih0 _ _ _ _ _ _ _ _ _ _ _ _)
  | (with_reducible exact estoversref39_guarded.mono _ _ _ _ _ _ _ _ _ _ _ _)
  | (with_reducible exact estoversref39_outside.mono _ _ _ _ _ _ _ _ _ _)
  | (with_reducible exact LeO.refl _)
  | (with_reducible exact LeO.none _)
  | (with_reducible refine LeO.ite ?_ ?_)
  | (with_reducible refine LeO.bind ?_ (fun _ => ?_))
  | exact ih0 _ _ _ _ _ _ _ _ _ _ _ _
  | exact estoversref39_guarded.mono _ _ _ _ _ _ _ _ _ _ _ _
  | exact estoversref39_outside.mono _ _ _ _ _ _ _ _ _ _
  | exact LeO.none _
  | refine LeO.ite ?_ ?_
  | refine LeO.bind ?_ (fun _ => ?_)
set_option maxHeartbeats 8000000 in
set_option maxRecDepth 100000 in
theorem estoversref39_holds.calls (k : Nat) (a0_0 : Int) (a0_1 : Int) (a0_2 : Int) (a0_3 : Int) (a0_4 : Int) (a0_5 : Bool) (a0_6 : Bool) (A1 : Option Addr) (c1 : Nat) (l1 : List (S30)) (A2 : Option Addr) (c2 : Nat) (l2 : List Int) (a3 : Int) (a4 : Bool) (a5 : Int) (r : Bool) (w : World) (hr1 : Kd.C k30 w A1 l1.length l1) (hc1 : l1.length≤c1) (hr2 : Kd.C (Kd.int .i64) w A2 l2.length l2) (hc2 : l2.length≤c2) (h : estoversref39_holds.f k a0_0 a0_1 a0_2 a0_3 a0_4 a0_5 a0_6 l1 l2 a3 a4 a5 = some r) :
 Calls Try.prog 68 #[.agg #[.int .i64 a0_0,.int .i64 a0_1,.int .i64 a0_2,.int .i64 a0_3,.int .i64 a0_4,.bool a0_5,.bool a0_6],.slice A1 l1.length c1,.slice A2 l2.length c2,.int .i64 a3,.bool a4,.int .i64 a5] w fun e w' => e = .returned (.bool r)∧Below w.heap.size w w':=by
 have hu34:=Try.underlying34;have HR1:=Aside0.mk hr1;have HC1:=Aside0.mk hc1;clear hr1 hc1;have HR2:=Aside0.mk hr2;have HC2:=Aside0.mk hc2;clear hr2 hc2;have HB:=Aside0.mk (Below.refl w.heap.size w)
 have H : (if a5 = 13 then ((estoversref39_outside.f k a0_0 a0_1 a0_2 a0_3 a0_4 a0_5 a0_6 l1 a3).bind fun t356 => (some t356)) else (if a5 = 12 then (if a4 = true then (some (!a0_5)) else (some false)) else (if a0_6 = true then (estoversref39_holds.j0 k l1 l2 a3 a5 true a0_0 a0_1 a0_2 a0_3 a0_4 a0_5 a0_6) else (if a5 = 0 then (estoversref39_holds.j0 k l1 l2 a3 a5 true a0_0 a0_1 a0_2 a0_3 a0_4 a0_5 a0_6) else (estoversref39_holds.j0 k l1 l2 a3 a5 (a5 == 8) a0_0 a0_1 a0_2 a0_3 a0_4 a0_5 a0_6))))) = some r:=h
 clear h;by_cases c7 : a5 = 13
 rotate_left
 ·
  rw [if_neg c7] at H;have c7b0 : (a5 == 13) = false:=beq_eq_false_iff_ne.mpr c7;have c7b1 : (a5 != 13) = true:=bne_iff_ne.mpr c7;by_cases c12 : a5 = 12
  rotate_left
  ·
   rw [if_neg c12] at H;have c12b0 : (a5 == 12) = false:=beq_eq_false_iff_ne.mpr c12;have c12b1 : (a5 != 12) = true:=bne_iff_ne.mpr c12;have HC17:=Aside0.mk H;clear H
   go_enter Try.func68,Try.ntmps68
   go_upto_region 5 with (first | ((with_reducible refine gate_dst (N:=6) rfl ?_);refine box_event ?hg (N:=6) ?hd (cs:=#[.int .i64 a0_0,.int .i64 a0_1,.int .i64 a0_2,.int .i64 a0_3,.int .i64 a0_4,.bool a0_5,.bool a0_6]) (t:=34) ?hr ?_;(case hd => rfl);(case hg => rfl);(case hr => first | (go_simp;done) | (go_simp;rfl));intro gb355 hg w18 hbox hb;have n0_:=Aside0.mk (below_step (by repeat (first | (with_reducible first | exact HB.out | apply b0_ | apply b1_ | apply b2_) | exact HB.out)) hb);have n1_:=Aside0.mk (hbox);have n2_:=Aside0.mk ((by rw [hg];exact (below_size (by repeat (first | (with_reducible first | exact HB.out | apply b0_ | apply b1_ | apply b2_) | exact HB.out))) : w.heap.size≤gb355));have n3_:=Aside0.mk ((by rw [hg];exact (below_size (by repeat (first | (with_reducible first | exact HB.out | apply b0_ | apply b1_ | apply b2_) | exact HB.out))) : w.heap.size≤gb355));clear HB;have HB:=n0_;have BK355:=n1_;have GW355:=n2_;have GE355:=n3_;clear n0_ n1_ n2_ n3_;clear hb hbox hg))
   (try simp only [Act.put,List.setIfInBounds_toArray,List.set_cons_zero,List.set_cons_succ])
   go_cut [36] (fun v36 wc => ∃ (kq : Nat) (x36_16 : Bool),v36 = .bool x36_16∧Aside0 (estoversref39_holds.j0 kq l1 l2 a3 a5 x36_16 a0_0 a0_1 a0_2 a0_3 a0_4 a0_5 a0_6 = some r)∧Aside0 (kq≤k)∧Aside0 (wc.heap[gb355]? = some (.cells #[.int .i64 a0_0,.int .i64 a0_1,.int .i64 a0_2,.int .i64 a0_3,.int .i64 a0_4,.bool a0_5,.bool a0_6] 34 (0,0)))∧Aside0 (Below w.heap.size w wc))
   case first =>
    have H:=HC17.out;clear HC17;by_cases c19 : a0_6 = true
    rotate_left
    ·
     replace c19:=Bool.eq_false_iff.mpr c19;subst c19
     have H1 : (if a5 = 0 then (estoversref39_holds.j0 k l1 l2 a3 a5 true a0_0 a0_1 a0_2 a0_3 a0_4 a0_5 false) else (estoversref39_holds.j0 k l1 l2 a3 a5 (a5 == 8) a0_0 a0_1 a0_2 a0_3 a0_4 a0_5 false)) = some r:=by rw [if_neg (show ¬ (false = true) by decide)] at H;exact H
     clear H;have H:=H1;clear H1;by_cases c21 : a5 = 0
     rotate_left
     ·
      rw [if_neg c21] at H;have c21b0 : (a5 == 0) = false:=beq_eq_false_iff_ne.mpr c21;have c21b1 : (a5 != 0) = true:=bne_iff_ne.mpr c21
      (first | rw [c21b0] | (simp only [i64_w,i32_w];rw [c21b0]) | skip)
      have H':=Aside0.mk H;clear H;obtain ⟨hcz23_0,hcz23_1,hcz23_2,hcz23_3,hcz23_4,hcz23_5,hcz23_6,hfz23_0,hfz23_1,hfz23_2,hfz23_3,hfz23_4,hfz23_5,hfz23_6⟩:=q7_ BK355.out;go_wp2
      go_meet
      case rel => exact ⟨_,((a5 == 8)),(by first | rfl | (simp;done) | (simp [*];done)),H',⟨by first | omega | exact Nat.le_refl _⟩,⟨by (with_reducible repeat (first | refine blk_drewN ?_ _ | refine blk_drew ?_ | refine blk_alloc ?_ _));exact BK355.out⟩,⟨by repeat (first | (with_reducible first | exact HB.out | apply b0_ | apply b1_ | apply b2_ | refine below_set ?_ GE355.out) | exact HB.out)⟩⟩
     rw [if_pos c21] at H;have c21b0 : (a5 == 0) = true:=beq_iff_eq.mpr c21;have c21b1 : (a5 != 0) = false:=bne_eq_false_iff_eq.mpr c21;clear c21
     (first | rw [c21b0] | (simp only [i64_w,i32_w];rw [c21b0]) | skip)
     have H':=Aside0.mk H;clear H;obtain ⟨hcz22_0,hcz22_1,hcz22_2,hcz22_3,hcz22_4,hcz22_5,hcz22_6,hfz22_0,hfz22_1,hfz22_2,hfz22_3,hfz22_4,hfz22_5,hfz22_6⟩:=q7_ BK355.out;go_wp2
     go_meet
     case rel => exact ⟨_,(true),(by first | rfl | (simp;done) | (simp [*];done)),H',⟨by first | omega | exact Nat.le_refl _⟩,⟨by (with_reducible repeat (first | refine blk_drewN ?_ _ | refine blk_drew ?_ | refine blk_alloc ?_ _));exact BK355.out⟩,⟨by repeat (first | (with_reducible first | exact HB.out | apply b0_ | apply b1_ | apply b2_ | refine below_set ?_ GE355.out) | exact HB.out)⟩⟩
    subst c19
    have H1 : (estoversref39_holds.j0 k l1 l2 a3 a5 true a0_0 a0_1 a0_2 a0_3 a0_4 a0_5 true) = some r:=by rw [if_pos rfl] at H;exact H
    clear H;have H:=H1;clear H1;have H':=Aside0.mk H;clear H;obtain ⟨hcz20_0,hcz20_1,hcz20_2,hcz20_3,hcz20_4,hcz20_5,hcz20_6,hfz20_0,hfz20_1,hfz20_2,hfz20_3,hfz20_4,hfz20_5,hfz20_6⟩:=q7_ BK355.out;go_wp2
    go_meet
    case rel => exact ⟨_,(true),(by first | rfl | (simp;done) | (simp [*];done)),H',⟨by first | omega | exact Nat.le_refl _⟩,⟨by (with_reducible repeat (first | refine blk_drewN ?_ _ | refine blk_drew ?_ | refine blk_alloc ?_ _));exact BK355.out⟩,⟨by repeat (first | (with_reducible first | exact HB.out | apply b0_ | apply b1_ | apply b2_ | refine below_set ?_ GE355.out) | exact HB.out)⟩⟩
   case rest =>
    clear HC17;obtain ⟨kq,x36_16,rfl,HA,HJ16,BK355,HB⟩:=hcut
    cases kq with
     | zero => exact absurd HA.out (by simp [estoversref39_holds.j0])
     | succ kj16 =>
      have H:=HA.out;clear HA;simp only [estoversref39_holds.j0] at H;by_cases c24 : x36_16 = true
      rotate_left
      ·
       replace c24:=Bool.eq_false_iff.mpr c24;subst c24
       have H1 : (if a5 = 11 then ((estoversref39_guarded.f kj16 a0_0 a0_1 a0_2 a0_3 a0_4 a0_5 a0_6 l1 l2 a3 false).bind fun t357 => (some t357)) else (some (a5 == a0_3))) = some r:=by rw [if_neg (show ¬ (false = true) by decide)] at H;exact H
       clear H;have H:=H1;clear H1;by_cases c25 : a5 = 11
       rotate_left
       ·
        rw [if_neg c25] at H;have c25b0 : (a5 == 11) = false:=beq_eq_false_iff_ne.mpr c25;have c25b1 : (a5 != 11) = true:=bne_iff_ne.mpr c25;obtain rfl:=Option.some.inj H;obtain ⟨hcz29_0,hcz29_1,hcz29_2,hcz29_3,hcz29_4,hcz29_5,hcz29_6,hfz29_0,hfz29_1,hfz29_2,hfz29_3,hfz29_4,hfz29_5,hfz29_6⟩:=q7_ BK355.out;go_wp2;go_ret;exact ⟨by first | rfl | (simp [errW_none,errW_some] <;> rfl) | (simp [*,errW_none,errW_some] <;> rfl),by repeat (first | (with_reducible first | exact HB.out | apply b0_ | apply b1_ | apply b2_ | refine below_set ?_ GE355.out) | exact HB.out)⟩
       rw [if_pos c25] at H;have c25b0 : (a5 == 11) = true:=beq_iff_eq.mpr c25;have c25b1 : (a5 != 11) = false:=bne_eq_false_iff_eq.mpr c25;clear c25;replace H:=Option.bind_eq_some_iff.mp H;obtain ⟨t357,A260,H⟩:=H;replace H : (some t357) = some r:=H;have A26:=Aside0.mk A260;clear A260;obtain rfl:=Option.some.inj H
       obtain ⟨hcz27_0,hcz27_1,hcz27_2,hcz27_3,hcz27_4,hcz27_5,hcz27_6,hfz27_0,hfz27_1,hfz27_2,hfz27_3,hfz27_4,hfz27_5,hfz27_6⟩:=q7_ BK355.out
       go_wp2_with (first | ((with_reducible refine gate_callee (f:=66) rfl ?_);refine goesL_ (some 43) rfl rfl Try.func66 (by kernel_rfl) rfl #[.agg #[.int .i64 a0_0,.int .i64 a0_1,.int .i64 a0_2,.int .i64 a0_3,.int .i64 a0_4,.bool a0_5,.bool a0_6],.slice A1 l1.length c1,.slice A2 l2.length c2,.int .i64 a3,.bool false] rfl (by (try simp only [z3_,z4_,z5_]);first | done | rfl | (simp only [z6_,z7_];rfl)) ?_;(with_reducible refine (estoversref39_guarded.calls kj16 a0_0 a0_1 a0_2 a0_3 a0_4 a0_5 a0_6 _ _ l1 _ _ l2 a3 false t357 _ ?side1 ?side2 ?side3 ?side4 A26.out).mono ?_);(case side1 => repeat (first | exact (Kd.C_below HR1.out HB.out) | (with_reducible refine Kd.C_alloc ?_ _) | (with_reducible refine Kd.C_drewN ?_ _) | (with_reducible refine Kd.C_drew ?_)));(case side2 => exact HC1.out);(case side3 => repeat (first | exact (Kd.C_below HR2.out HB.out) | (with_reducible refine Kd.C_alloc ?_ _) | (with_reducible refine Kd.C_drewN ?_ _) | (with_reducible refine Kd.C_drew ?_)));(case side4 => exact HC2.out);rintro e w28 ⟨rfl,hb⟩;refine ⟨_,rfl,?_⟩;have n0_:=Aside0.mk (blk_below (g:=gb355) (o:=.cells #[.int .i64 a0_0,.int .i64 a0_1,.int .i64 a0_2,.int .i64 a0_3,.int .i64 a0_4,.bool a0_5,.bool a0_6] 34 (0,0)) (by (with_reducible repeat (first | refine blk_drewN ?_ _ | refine blk_drew ?_ | refine blk_alloc ?_ _));exact BK355.out) hb);have n1_:=Aside0.mk (below_step (by repeat (first | (with_reducible first | exact HB.out | apply b0_ | apply b1_ | apply b2_ | refine below_set ?_ GE355.out) | exact HB.out)) hb);clear BK355;clear HB;have BK355:=n0_;have HB:=n1_;clear n0_ n1_))
       go_ret;exact ⟨by first | rfl | (simp [errW_none,errW_some] <;> rfl) | (simp [*,errW_none,errW_some] <;> rfl),by repeat (first | (with_reducible first | exact HB.out | apply b0_ | apply b1_ | apply b2_ | refine below_set ?_ GE355.out) | exact HB.out)⟩
      subst c24
      have H1 : (some false) = some r:=by rw [if_pos rfl] at H;exact H
      clear H;have H:=H1;clear H1;obtain rfl:=Option.some.inj H;go_wp2;go_ret;exact ⟨by first | rfl | (simp [errW_none,errW_some] <;> rfl) | (simp [*,errW_none,errW_some] <;> rfl),by repeat (first | (with_reducible first | exact HB.out | apply b0_ | apply b1_ | apply b2_ | refine below_set ?_ GE355.out) | exact HB.out)⟩
  rw [if_pos c12] at H;have c12b0 : (a5 == 12) = true:=beq_iff_eq.mpr c12;have c12b1 : (a5 != 12) = false:=bne_eq_false_iff_eq.mpr c12;clear c12;by_cases c13 : a4 = true
  rotate_left
  ·
   replace c13:=Bool.eq_false_iff.mpr c13;subst c13
   have H1 : (some false) = some r:=by rw [if_neg (show ¬ (false = true) by decide)] at H;exact H
   clear H;have H:=H1;clear H1;obtain rfl:=Option.some.inj H
   go_enter Try.func68,Try.ntmps68
   go_wp2_with (first | ((with_reducible refine gate_dst (N:=6) rfl ?_);refine box_event ?hg (N:=6) ?hd (cs:=#[.int .i64 a0_0,.int .i64 a0_1,.int .i64 a0_2,.int .i64 a0_3,.int .i64 a0_4,.bool a0_5,.bool a0_6]) (t:=34) ?hr ?_;(case hd => rfl);(case hg => rfl);(case hr => first | (go_simp;done) | (go_simp;rfl));intro gb355 hg w16 hbox hb;have n0_:=Aside0.mk (below_step (by repeat (first | (with_reducible first | exact HB.out | apply b0_ | apply b1_ | apply b2_) | exact HB.out)) hb);have n1_:=Aside0.mk (hbox);have n2_:=Aside0.mk ((by rw [hg];exact (below_size (by repeat (first | (with_reducible first | exact HB.out | apply b0_ | apply b1_ | apply b2_) | exact HB.out))) : w.heap.size≤gb355));have n3_:=Aside0.mk ((by rw [hg];exact (below_size (by repeat (first | (with_reducible first | exact HB.out | apply b0_ | apply b1_ | apply b2_) | exact HB.out))) : w.heap.size≤gb355));clear HB;have HB:=n0_;have BK355:=n1_;have GW355:=n2_;have GE355:=n3_;clear n0_ n1_ n2_ n3_;clear hb hbox hg))
   go_ret;exact ⟨by first | rfl | (simp [errW_none,errW_some] <;> rfl) | (simp [*,errW_none,errW_some] <;> rfl),by repeat (first | (with_reducible first | exact HB.out | apply b0_ | apply b1_ | apply b2_ | refine below_set ?_ GE355.out) | exact HB.out)⟩
  subst c13
  have H1 : (some (!a0_5)) = some r:=by rw [if_pos rfl] at H;exact H
  clear H;have H:=H1;clear H1;obtain rfl:=Option.some.inj H
  go_enter Try.func68,Try.ntmps68
  go_wp2_with (first | ((with_reducible refine gate_dst (N:=6) rfl ?_);refine box_event ?hg (N:=6) ?hd (cs:=#[.int .i64 a0_0,.int .i64 a0_1,.int .i64 a0_2,.int .i64 a0_3,.int .i64 a0_4,.bool a0_5,.bool a0_6]) (t:=34) ?hr ?_;(case hd => rfl);(case hg => rfl);(case hr => first | (go_simp;done) | (go_simp;rfl));intro gb355 hg w14 hbox hb;have n0_:=Aside0.mk (below_step (by repeat (first | (with_reducible first | exact HB.out | apply b0_ | apply b1_ | apply b2_) | exact HB.out)) hb);have n1_:=Aside0.mk (hbox);have n2_:=Aside0.mk ((by rw [hg];exact (below_size (by repeat (first | (with_reducible first | exact HB.out | apply b0_ | apply b1_ | apply b2_) | exact HB.out))) : w.heap.size≤gb355));have n3_:=Aside0.mk ((by rw [hg];exact (below_size (by repeat (first | (with_reducible first | exact HB.out | apply b0_ | apply b1_ | apply b2_) | exact HB.out))) : w.heap.size≤gb355));clear HB;have HB:=n0_;have BK355:=n1_;have GW355:=n2_;have GE355:=n3_;clear n0_ n1_ n2_ n3_;clear hb hbox hg;obtain ⟨hcz15_0,hcz15_1,hcz15_2,hcz15_3,hcz15_4,hcz15_5,hcz15_6,hfz15_0,hfz15_1,hfz15_2,hfz15_3,hfz15_4,hfz15_5,hfz15_6⟩:=q7_ BK355.out))
  go_ret;exact ⟨by first | rfl | (simp [errW_none,errW_some] <;> rfl) | (simp [*,errW_none,errW_some] <;> rfl),by repeat (first | (with_reducible first | exact HB.out | apply b0_ | apply b1_ | apply b2_ | refine below_set ?_ GE355.out) | exact HB.out)⟩
 rw [if_pos c7] at H;have c7b0 : (a5 == 13) = true:=beq_iff_eq.mpr c7;have c7b1 : (a5 != 13) = false:=bne_eq_false_iff_eq.mpr c7;clear c7;replace H:=Option.bind_eq_some_iff.mp H;obtain ⟨t356,A80,H⟩:=H;replace H : (some t356) = some r:=H;have A8:=Aside0.mk A80;clear A80;obtain rfl:=Option.some.inj H
 go_enter Try.func68,Try.ntmps68
 go_wp2_with (first | ((with_reducible refine gate_dst (N:=6) rfl ?_);refine box_event ?hg (N:=6) ?hd (cs:=#[.int .i64 a0_0,.int .i64 a0_1,.int .i64 a0_2,.int .i64 a0_3,.int .i64 a0_4,.bool a0_5,.bool a0_6]) (t:=34) ?hr ?_;(case hd => rfl);(case hg => rfl);(case hr => first | (go_simp;done) | (go_simp;rfl));intro gb355 hg w9 hbox hb;have n0_:=Aside0.mk (below_step (by repeat (first | (with_reducible first | exact HB.out | apply b0_ | apply b1_ | apply b2_) | exact HB.out)) hb);have n1_:=Aside0.mk (hbox);have n2_:=Aside0.mk ((by rw [hg];exact (below_size (by repeat (first | (with_reducible first | exact HB.out | apply b0_ | apply b1_ | apply b2_) | exact HB.out))) : w.heap.size≤gb355));have n3_:=Aside0.mk ((by rw [hg];exact (below_size (by repeat (first | (with_reducible first | exact HB.out | apply b0_ | apply b1_ | apply b2_) | exact HB.out))) : w.heap.size≤gb355));clear HB;have HB:=n0_;have BK355:=n1_;have GW355:=n2_;have GE355:=n3_;clear n0_ n1_ n2_ n3_;clear hb hbox hg;obtain ⟨hcz10_0,hcz10_1,hcz10_2,hcz10_3,hcz10_4,hcz10_5,hcz10_6,hfz10_0,hfz10_1,hfz10_2,hfz10_3,hfz10_4,hfz10_5,hfz10_6⟩:=q7_ BK355.out) | ((with_reducible refine gate_callee (f:=67) rfl ?_);refine goesL_ (some 18) rfl rfl Try.func67 (by kernel_rfl) rfl #[.agg #[.int .i64 a0_0,.int .i64 a0_1,.int .i64 a0_2,.int .i64 a0_3,.int .i64 a0_4,.bool a0_5,.bool a0_6],.slice A1 l1.length c1,.int .i64 a3] rfl (by (try simp only [z3_,z4_,z5_]);first | done | rfl | (simp only [z6_,z7_];rfl)) ?_;(with_reducible refine (estoversref39_outside.calls k a0_0 a0_1 a0_2 a0_3 a0_4 a0_5 a0_6 _ _ l1 a3 t356 _ ?side1 ?side2 A8.out).mono ?_);(case side1 => repeat (first | exact (Kd.C_below HR1.out HB.out) | (with_reducible refine Kd.C_alloc ?_ _) | (with_reducible refine Kd.C_drewN ?_ _) | (with_reducible refine Kd.C_drew ?_)));(case side2 => exact HC1.out);rintro e w11 ⟨rfl,hb⟩;refine ⟨_,rfl,?_⟩;have n0_:=Aside0.mk (blk_below (g:=gb355) (o:=.cells #[.int .i64 a0_0,.int .i64 a0_1,.int .i64 a0_2,.int .i64 a0_3,.int .i64 a0_4,.bool a0_5,.bool a0_6] 34 (0,0)) (by (with_reducible repeat (first | refine blk_drewN ?_ _ | refine blk_drew ?_ | refine blk_alloc ?_ _));exact BK355.out) hb);have n1_:=Aside0.mk (below_step (by repeat (first | (with_reducible first | exact HB.out | apply b0_ | apply b1_ | apply b2_ | refine below_set ?_ GE355.out) | exact HB.out)) hb);clear BK355;clear HB;have BK355:=n0_;have HB:=n1_;clear n0_ n1_))
 go_ret;exact ⟨by first | rfl | (simp [errW_none,errW_some] <;> rfl) | (simp [*,errW_none,errW_some] <;> rfl),by repeat (first | (with_reducible first | exact HB.out | apply b0_ | apply b1_ | apply b2_ | refine below_set ?_ GE355.out) | exact HB.out)⟩
end Go.Proofs.Ytnmenfkmndnoaaa.Pr
